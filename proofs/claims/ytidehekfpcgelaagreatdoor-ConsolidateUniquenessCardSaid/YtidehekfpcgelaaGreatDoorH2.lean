/- Functions walked: what each of them answers, for the law of uniqueness: part 2. Conditions: those that each theorem names. -/
import Derived.Test.YtidehekfpcgelaaGreatDoorH1
namespace Go.Proofs.YtidehekfpcgelaaGreatDoor
open Go Go.Ev
theorem lf(u:TUnit)(s:PStep):kP 260 [eU u,ax s] (.bool (bB s u)):=by
  have rr0 b' (h:(bB s u)=b':=by(simp only[bB,ba,aS,az,bS, *];first|done|rfl)):=h;exact bF Tryz.func260<|Kb 8 (ak u.kind s.kind) (fun a=>Kt 0 a<|Kt 0 a<|Kt 0 a<|Kt 0 a<|Ku 0 a<|Kf 0<|bT<|rr0<|dL u.label s.label) fun a=>Mh a<|Mh a<|Mh a<|Mh a<|My a<|Ky 0<|rr0 false
noncomputable abbrev jA(p:List PStep):AObj:=.row 1 false 0 [.ls (p.map ax)]
noncomputable abbrev FZ(ep n:Nat):AObj:=.row 1 false 0 [.slice 2 ep 0 n none]
noncomputable abbrev BF(ep:Nat)(l:List TUnit):AObj:=.row 8 true ep (l.map aY)
noncomputable abbrev N3:AObj:=.row 1 false 0 [.nils]
theorem DX(s:PStep)(rs:List PStep)(u:TUnit)(h:By (bB s u) false):kD 259 [eU u,.ptr 0 0 0 0,.ptr 1 0 0 0] (aa [jA (s::rs),N3]) (.tuple []) (aa [jA (s::rs),N3]):=by
  have h':bB s u=false:=h
  exact gg Tryz.func259 fun a=>Kp 4 (lf u s)<|Mh h'<|M1 (.frz 2 []) (ct rt rt ti)<|Mf a
theorem JH(s:PStep)(rs:List PStep)(u:TUnit)(h:By (bB s u) true):kD 259 [eU u,.ptr 0 0 0 0,.ptr 1 0 0 0] (aa [jA (s::rs),N3]) (.tuple []) (aa [jA (s::rs),FZ 0 1,BF 0 [u]]):=by
  have h':bB s u=true:=h
  exact TC Tryz.func259<|Kp 4 (lf u s)<|Mt h'<|Mg 7<|M0 (.ren [0,1,3,2] [] [])<|M1 (.frz 3 []) (kL rt rt rt ti)<|Mf<|et (aK<|cn []) (by(simp only[BF,dl,wm,aD];rfl):(aa [AObj.row 1 false 0 [AV.ls ((s::rs).map ax)],AObj.row 1 false 0 [AV.slice 2 0 0 1 none],AObj.row 8 true 0 [AV.agg [iV u.act,iV u.item,iV u.n,iV u.kind,AV.str u.label,AV.ls (u.head.map aQ),AV.ls (u.words.map aQ),AV.ls (u.kids.map aY)]]])=(aa [jA (s::rs),FZ 0 1,BF 0 [u]]))
theorem Ow(s:PStep)(rs:List PStep)(u:TUnit)(ep n:Nat)(l:List TUnit)(h:By (bB s u) false):kD 259 [eU u,.ptr 0 0 0 0,.ptr 1 0 0 0] (aa [jA (s::rs),FZ ep n,BF ep l]) (.tuple []) (aa [jA (s::rs),FZ ep n,BF ep l]):=by
  have h':bB s u=false:=h
  exact gg Tryz.func259 fun a=>Kp 4 (lf u s)<|Mh h'<|M1 (.frz 3 []) (kL (tR 8 true ep 3<|aX ic l) rt rt ti)<|Mf a
theorem Ov(s:PStep)(rs:List PStep)(u:TUnit)(ep n:Nat)(l:List TUnit)(h:By (bB s u) true)(hn:n=l.length)(hl:l.length<2^30):kD 259 [eU u,.ptr 0 0 0 0,.ptr 1 0 0 0] (aa [jA (s::rs),FZ ep n,BF ep l]) (.tuple []) (aa [jA (s::rs),FZ (ep+1) (n+1),BF (ep+1) (l++[u])]):=by
  have h':bB s u=true:=h
  let q:=[iV 0,iV 0,iV 0,iV 0,aj [],ab,ab,ab];let q1:=List.map aY l++[aw q];exact gg Tryz.func259 fun a=>Kp 4 (lf u s)<|Mt h'<|Mg 3<|Mw (.apx q1<|.rix<|.rst (aw q) ((l++[u]).map aY)<|.go 0<|.frz 3 [] .fin)<|Yp rt (iG (tR 8 true ep 4<|aX ic l) rt) (et (jd _ _:([aw q]:List AV)≠[]) rt) (et (ct (aK ep) (sA:n=(l.map aY).length) (by(refine au (m:=2^31) ?_ ?_ ?_<;>(try simp only[lC,lN])<;>omega):small (n+([AV.agg [iV 0,iV 0,iV 0,iV 0,AV.str [],AV.nils,AV.nils,AV.nils]]).length) 120=true))<|aK q1) (et (aK<|ep+1) (oA:n<n+1)) rt (iG (tR 8 true (ep+1) 4 (by exact Xw _ rfl:aq q1=0)) rt) (ct (aK<|ep+1) (QI (f:=aY) (l:=l) (z:=aw q) (oA:n=(l).length))<|P3 (f:=aY) (g:=Go.Ev.eU) aD (l:=l) (z:=aw q) (w:=u) (oA:n=(l).length)) (kL (tR 8 true (ep+1) 3<|aX ic<|l++[u]) rt rt ti) a
theorem HR(s:PStep)(rs:List PStep):∀(u:TUnit),∀(ep n:Nat)(l:List TUnit),n=l.length→l.length+nU u<2^30→kC 258 [eU u,.func (.func 259) [] [.ptr 0 0 0 0,.ptr 1 0 0 0]] (aa [jA (s::rs),FZ ep n,BF ep l])
    (fun v h=>∃y:Nat×Nat×List TUnit,(y.2.1=y.2.2.length∧y.2.2=l++lG s u)∧v=.tuple []∧h=aa [jA (s::rs),FZ y.1 y.2.1,BF y.1 y.2.2]):=by
  refine TUnit.ind fun u ih ep n l hn hl=>?_
  have hq:=jv u
  have hkl:=bz u
  have hp:=zp s u
  rcases Bool.eq_false_or_eq_true (bB s u)with hc|hc
  · rw[hc]at hp
    exact qB Tryz.func258 fun a=>K1 2 (.frz 3 [1,2,6,7]) (kL (tR 8 true ep 3<|aX ic l) rt rt ti)<|Me (Ov s rs u ep n l hc hn oA)<|Kl 2 11 (ln aY u.kids)<|Mg 0<|PV aY u.kids (ep+1) (n+1) (l++[u]) [1,10,11,12] (fun a _ b c d=>([bv (bw 259) [] [bK 0 0 0 0,bK 1 0 0 0],aW<|u.kids.map aY,nV u.kids.length,nV a],[aZ 1 false 0 [aW<|(s::rs).map ax],aZ 1 false 0 [aN 2 b 0 c none],aZ 8 true b<|d.map aY])) (fun a _ b c=>b=c.length∧c++de s a=l++[u]++de s u.kids∧c.length+ef a<2^30) gR (fun _ _ b c d _ _ _ e _=>Kh 0 e<|Mf<|a (b,c,d)<|by grind[ny]) fun a _ b c d e f g i j k m _ o _=>have o:=(o).trans<|congrArg some<|aD g;have:=cX (J:=fun a b=>b.2.1=b.2.2.length∧b.2.2++de s a=l++[u]++de s u.kids∧b.2.2.length+ef a<2^30) (a:=(b,c,d)) k f;have e:=aG e k;have f:d.length+nU g<2^30:=(by grind[bi]);Kt 0 m<|Mx o<|K1 4 (.frz 3 [1,10,11,12,16,17]) (kL (tR 8 true b 3<|aX ic d) rt rt ti)<|Mq (ih g e b c d oA f) fun b _=>Kl 0 19 (dm a)<|Kf 0<|j b.1 b.2.1 b.2.2<|by grind[bi,g9,mL]
  · rw[hc]at hp
    exact qB Tryz.func258 fun a=>K1 2 (.frz 3 [1,2,6,7]) (kL (tR 8 true ep 3<|aX ic l) rt rt ti)<|Me (Ow s rs u ep n l hc)<|Kl 2 11 (ln aY u.kids)<|Mg 0<|PV aY u.kids ep n l [1,10,11,12] (fun a _ b c d=>([bv (bw 259) [] [bK 0 0 0 0,bK 1 0 0 0],aW<|u.kids.map aY,nV u.kids.length,nV a],[aZ 1 false 0 [aW<|(s::rs).map ax],aZ 1 false 0 [aN 2 b 0 c none],aZ 8 true b<|d.map aY])) (fun a _ b c=>b=c.length∧c++de s a=l++de s u.kids∧c.length+ef a<2^30) gR (fun _ _ b c d _ _ _ e _=>Kh 0 e<|Mf<|a (b,c,d)<|by grind[ny]) fun a _ b c d e f g i j k m _ o _=>have o:=(o).trans<|congrArg some<|aD g;have:=cX (J:=fun a b=>b.2.1=b.2.2.length∧b.2.2++de s a=l++de s u.kids∧b.2.2.length+ef a<2^30) (a:=(b,c,d)) k f;have e:=aG e k;have f:d.length+nU g<2^30:=(by grind[bi]);Kt 0 m<|Mx o<|K1 4 (.frz 3 [1,10,11,12,16,17]) (kL (tR 8 true b 3<|aX ic d) rt rt ti)<|Mq (ih g e b c d oA f) fun b _=>Kl 0 19 (dm a)<|Kf 0<|j b.1 b.2.1 b.2.2<|by grind[bi,g9,mL]
theorem HS(s:PStep)(rs:List PStep):∀(u:TUnit),nU u≤2^20→By (lG s u).isEmpty true→kD 258 [eU u,.func (.func 259) [] [.ptr 0 0 0 0,.ptr 1 0 0 0]] (aa [jA (s::rs),N3]) (.tuple []) (aa [jA (s::rs),N3]):=by
  refine TUnit.ind fun u ih hn he=>?_
  have hkl:=bz u
  have hp:=zp s u
  have he':=List.isEmpty_iff.1 (show(lG s u).isEmpty=true from he)
  rw[he']at hp
  rcases Bool.eq_false_or_eq_true (bB s u)with hc|hc
  · grind
  · rw[hc]at hp
    have hp:de s u.kids=[]:=hp.symm
    exact gg Tryz.func258 fun a=>K1 2 (.frz 2 [1,2,6,7]) (ct rt rt ti)<|Me (DX s rs u hc)<|Kl 2 11 (ln aY u.kids)<|Mg 0<|wg aY u.kids [1,10,11,12] (fun a _=>([bv (bw 259) [] [bK 0 0 0 0,bK 1 0 0 0],aW<|u.kids.map aY,nV u.kids.length,nV a],[aZ 1 false 0 [aW<|(s::rs).map ax],aZ 1 false 0 [ab]])) (fun a=>de s a=[]) oA (fun _ _ _ _ _ b _=>Kh 0 b<|Mf a) fun a _ b _ c d e f g _ h i=>have h:=h.trans<|congrArg some<|aD c;have j:=aG b f;have b:=bL (mj<|gI<|aG b f) hn;have f:(lG s c).isEmpty=true:=(by rw[g9]at i;rw[(List.append_eq_nil_iff.1 i).1];rfl);Kt 0 g<|Mx h<|K1 4 (.frz 2 [1,10,11,12,16,17]) (ct rt rt ti)<|Me (ih c j b f)<|Kl 0 19 (dm a)<|Kf 0<|e<|by grind[g9]
theorem Sm(s:PStep)(rs:List PStep):∀(u:TUnit),nU u≤2^20→By (lG s u).isEmpty false→kC 258 [eU u,.func (.func 259) [] [.ptr 0 0 0 0,.ptr 1 0 0 0]] (aa [jA (s::rs),N3])
    (fun v h=>∃y:Nat×Nat×List TUnit,(y.2.1=y.2.2.length∧y.2.2=lG s u)∧v=.tuple []∧h=aa [jA (s::rs),FZ y.1 y.2.1,BF y.1 y.2.2]):=by
  refine TUnit.ind fun u ih hn he=>?_
  have hq:=jv u
  have hkl:=bz u
  have hp:=zp s u
  rcases Bool.eq_false_or_eq_true (bB s u)with hc|hc
  · rw[hc]at hp
    exact qB Tryz.func258 fun a=>K1 2 (.frz 2 [1,2,6,7]) (ct rt rt ti)<|Me (JH s rs u hc)<|Kl 2 11 (ln aY u.kids)<|Mg 0<|PV aY u.kids (0:Nat) (1:Nat) ([u]:List TUnit) [1,10,11,12] (fun a _ b c d=>([bv (bw 259) [] [bK 0 0 0 0,bK 1 0 0 0],aW<|u.kids.map aY,nV u.kids.length,nV a],[aZ 1 false 0 [aW<|(s::rs).map ax],aZ 1 false 0 [aN 2 b 0 c none],aZ 8 true b<|d.map aY])) (fun a _ b c=>b=c.length∧c++de s a=[u]++de s u.kids∧c.length+ef a<2^30) gR (fun _ _ b c d _ _ _ e _=>Kh 0 e<|Mf<|a (b,c,d)<|by grind[ny]) fun a _ b c d e f g i j k l _ m _=>have m:=(m).trans<|congrArg some<|aD g;have:=cX (J:=fun a b=>b.2.1=b.2.2.length∧b.2.2++de s a=[u]++de s u.kids∧b.2.2.length+ef a<2^30) (a:=(b,c,d)) k f;have:=aG e k;have e:d.length+nU g<2^30:=(by grind[bi]);Kt 0 l<|Mx m<|K1 4 (.frz 3 [1,10,11,12,16,17]) (kL (tR 8 true b 3<|aX ic d) rt rt ti)<|Mq (HR s rs g b c d oA e) fun b _=>Kl 0 19 (dm a)<|Kf 0<|j b.1 b.2.1 b.2.2<|by grind[bi,g9,mL]
  · rw[hc]at hp
    have hne:de s u.kids≠[]:=fun e=>by
      simp_all
    exact qB Tryz.func258 fun a=>K1 2 (.frz 2 [1,2,6,7]) (ct rt rt ti)<|Me (DX s rs u hc)<|Kl 2 11 (ln aY u.kids)<|Mg 0<|kZ Nat Nat (List TUnit) aY u.kids [1,10,11,12] (fun a _=>([bv (bw 259) [] [bK 0 0 0 0,bK 1 0 0 0],aW<|u.kids.map aY,nV u.kids.length,nV a],[aZ 1 false 0 [aW<|(s::rs).map ax],aZ 1 false 0 [ab]])) (fun a _ b c d=>([bv (bw 259) [] [bK 0 0 0 0,bK 1 0 0 0],aW<|u.kids.map aY,nV u.kids.length,nV a],[aZ 1 false 0 [aW<|(s::rs).map ax],aZ 1 false 0 [aN 2 b 0 c none],aZ 8 true b<|d.map aY])) (fun a=>a≠[]∧de s a=de s u.kids) (fun a _ b c=>b=c.length∧c++de s a=de s u.kids∧c.length+ef a<2^30) (by(exact⟨Ld rfl hne,rfl⟩)) (fun _ _ _ _ _ _ _=>Mw .abs (sA:False)) (fun a _ b c d f g i j k _ l _=>have l:=(l).trans<|congrArg some<|aD d;have:=cX (J:=fun a _=>a≠[]∧de s a=de s u.kids) (a:=()) j c;have c:=aG b j;have m:=bL (mj<|gI<|aG b j) hn;have:nU d+ef f≤2^20:=(by have z:=pj b j;omega);Kt 0 k<|Mx l<|K1 4 (.frz 2 [1,10,11,12,16,17]) (ct rt rt ti)<|Ms (lG s d).isEmpty (fun b=>Me (HS s rs d m b)<|Kl 0 19 (dm a)<|Kf 0<|g<|by(have e:de s f=de s u.kids:=(by grind[g9]);exact⟨Ld e hne,e⟩)) fun b=>Mq (ih d c m b) fun b _=>Kl 0 19 (dm a)<|Kf 0<|i b.1 b.2.1 b.2.2<|by grind[g9,mL]) (fun _ _ b c d _ _ _ f g=>Kh 0 f<|Mf<|a (b,c,d)<|by(refine⟨g.1,?_⟩;have:=g.2.1;rw[ny,dO]at this;simp_all)) fun a _ b c d f g i j _ k l m _ n _=>have n:=(n).trans<|congrArg some<|aD i;have:=cX (J:=fun a b=>b.2.1=b.2.2.length∧b.2.2++de s a=de s u.kids∧b.2.2.length+ef a<2^30) (a:=(b,c,d)) l g;have:=aG f l;have:=bL (mj<|gI<|aG f l) hn;have:nU i+ef j≤2^20:=(by have z:=pj f l;omega);Kt 0 m<|Mx n<|K1 4 (.frz 3 [1,10,11,12,16,17]) (kL (tR 8 true b 3<|aX ic d) rt rt ti)<|Mq (HR s rs i b c d oA<|by grind[bi]) fun b _=>Kl 0 19 (dm a)<|Kf 0<|k b.1 b.2.1 b.2.2<|by grind[g9,mL]
theorem VH(u:TUnit)(hb:lX []=true):kP 182 [eU u,.ls (([]:List PStep).map ax)] (.ls ((eb u []).map aY)):=by
  have hv:=ve [] (by simp) (fun s h=>by grind)
  rw[He hb]
  have rr0 b' (h:(List.map aY [u])=b':=by(rw[dl,aD];rfl)):=h;let q:=[aw [iV u.act,iV u.item,iV u.n,iV u.kind,aj u.label,aW (u.head.map aQ),aW (u.words.map aQ),aW (u.kids.map aY)]];exact bF Tryz.func182<|Kp 3 hv<|Kf 10 (Le.lsp (rr0 q)<|by rfl:Le _ (AV.ps q true))
def Hh(u:TUnit)(s:PStep)(rs:List PStep)(z1000:List TUnit):Prop:=eb u (s::rs)=gH rs z1000∧ef z1000≤2^22
noncomputable def Hg(u:TUnit)(s:PStep)(rs:List PStep)(z1000:List TUnit):List AV×List AObj:=([AV.ptr 0 0 0 0,AV.ptr 1 0 0 0],[AObj.row 1 false 0 [AV.ls ((s::rs).map ax)],AObj.row 1 false 0 [AV.ls (z1000.map aY)]])
theorem R8(u:TUnit)(s:PStep)(rs:List PStep)(hn:nU u≤2^11)(hl:(s::rs).length<2^40)(hs:∀x,x∈s::rs→x.label.length≤2^39):kP 182 [eU u,.ls ((s::rs).map ax)] (.ls ((eb u (s::rs)).map aY)):=by
  have hv:=ve (s::rs) hl hs
  have hk:=Ih s
  have hpb:=GB s u fun x hx=>eJ hx
  have hpm:nU u*nU u≤2^11*2^11:=Nat.mul_le_mul hn hn
  have hd:((s::rs).drop 1).length=rs.length:=rfl
  have rr0 b' (h:((eb u (s::rs)).map aY)=b':=by first|rfl|(rw[JF ‹_›];rfl)|(rw[hj0.1,I0])):=h;exact bF Tryz.func182<|Kp 3 hv<|Kn 0 (lX<|s::rs) (fun _=>Kf 0 (Le.lsn<|rr0 []:Le _ (ab))) fun _=>Mg 0<|Mj (List TUnit) [3,5] (Hg u s rs) (Hh u s rs) (fun a=>Kl 1 21 (ln ax<|s::rs)<|Kp 5 hk<|Kb 0 (ak s.kind 0&&dL s.label []) (fun _=>Kl 1 31 (Le.lsp (t:=true) (Eq.symm<|VX (f:=aY) (g:=Go.Ev.eU) (ws:=[u]) aD) (aK 0:aq ([aw [iV u.act,iV u.item,iV u.n,iV u.kind,aj u.label,aW (u.head.map aQ),aW (u.words.map aQ),aW (u.kids.map aY)]])=0))<|Mg 0<|M0 (.ren [1,2,0] [] [3,5])<|M1 (.frz 2 [3,5]) (ct rt rt ti)<|Mf<|a [u] (by exact⟨Hf (by omega) (by assumption),by grind[bi,mr]⟩:eb u (s::rs)=gH rs [u]∧ef [u]≤2^22)) fun _=>Mg 1<|M0 (.ren [1,2,0] [] [3,5,16,17])<|M1 (.frz 2 [3,5,16,17]) (ct rt rt ti)<|Ms (lG s u).isEmpty (fun b=>Me (HS s rs u oA b)<|M1 (.obw 1<|aW []) (XI bM rfl rfl)<|Mf<|a [] (by exact⟨by rw[xe (by omega) (by assumption),List.isEmpty_iff.1 b],by grind⟩:eb u (s::rs)=gH rs []∧ef []≤2^22)) fun b=>Mq (Sm s rs u oA b) fun b c=>M2 (.fzo 1 2 [3,5]<|b.2.2.map aY) (ct rt rt ti) (ct (aK b.1) (tA aY b.2.2 b.2.1 (oA:(b.2.2).length=b.2.1))<|aX ic b.2.2)<|Mf<|a b.2.2 (by exact⟨by rw[xe (by omega) (by assumption),c.2],by grind⟩:eb u (s::rs)=gH rs b.2.2∧ef b.2.2≤2^22)) fun a b=>have:eb u (s::rs)=gH rs a∧ef a≤2^22:=b;K1 0 (.slp<|((s::rs).drop 1).map ax) (ct (hM 2 ax (s::rs) fun _=>rfl) (et (sA:1≤((s::rs).map ax).length) (oA:((s::rs).map ax).length≤((s::rs).map ax).length))<|Zi (f:=ax) (l:=s::rs) (k:=1))<|Kl 0 34 (ln ax<|List.drop 1<|s::rs)<|Mg 0<|M0 (.ren [1,0] [] [5,33,34,35])<|M1 (.frz 1 [5,33,34,35]) (et rt ti)<|M9 ax (List.drop 1<|s::rs) a [5,33,34,35] (fun a _ b=>([bK 0 0 0 0,aW<|((s::rs).drop 1).map ax,nV ((s::rs).drop 1).length,nV a],[aZ 1 false 0 [aW<|b.map aY]])) (fun a b=>eb u (s::rs)=gH a b∧ef b≤2^22) sA (fun _ _ a _ _ _ b hj0=>Kh 0 b<|Kf 1<|cJ<|rr0<|a.map aY) fun a _ b _ _ c d e _ f _ g hj0=>have:b.length≤ef b:=yd _;Kt 0 f<|Mx g<|Kl 5 40 (ln aY b)<|Mg 0<|kZ Nat Nat (List TUnit) aY b [5,7,8,33,34,35,39,40,41] (fun d _=>([bK 0 0 0 0,bK 1 0 0 0,ab,aW<|((s::rs).drop 1).map ax,nV ((s::rs).drop 1).length,nV a,aW<|b.map aY,nV b.length,nV d],[aZ 1 false 0 [aW<|b.map aY],aZ 2 false 0 [aw [iV c.kind,aj c.label]]])) (fun d _ e f g=>([bK 0 0 0 0,bK 1 0 0 0,aN 2 e 0 f none,aW<|((s::rs).drop 1).map ax,nV ((s::rs).drop 1).length,nV a,aW<|b.map aY,nV b.length,nV d],[aZ 1 false 0 [aW<|b.map aY],aZ 2 false 0 [aw [iV c.kind,aj c.label]],aZ 8 true e<|g.map aY])) (fun a=>cC c a=cC c b) (fun a _ d e=>d=e.length∧e++cC c a=cC c b∧e.length+ef a<2^30) (by rfl) (fun _ _ _ _ _ b c=>Kh 0 b<|Kl 0 61 bM<|Kl 1 62 (dm a)<|K1 0 (.frz 1 [5,33,34,35]) (et rt ti)<|Mf<|e []<|by exact fA hj0 c) (fun d _ e f g i j k l n _ o _=>have p:=(o).trans<|congrArg some<|aD g;have:=cX (J:=fun a _=>cC c a=cC c b) (a:=()) l f;have:nU g+ef i≤ef b:=pj e l;have:g.kids.length<nU g:=bz g;have:nU g=1+ef g.kids:=jv g;Kt 0 n<|Mx p<|Kl 5 47 (ln aY g.kids)<|K1 0 (.frz 2 [5,7,8,33,34,35,39,40,41,46,47,48]) (ct rt rt ti)<|kZ Nat Nat (List TUnit) aY g.kids [5,7,8,33,34,35,39,40,41,46,47,48] (fun e _=>([bK 0 0 0 0,bK 1 0 0 0,ab,aW<|((s::rs).drop 1).map ax,nV ((s::rs).drop 1).length,nV a,aW<|b.map aY,nV b.length,nV d,aW<|g.kids.map aY,nV g.kids.length,nV e],[aZ 1 false 0 [aW<|b.map aY],aZ 2 false 0 [aw [iV c.kind,aj c.label]]])) (fun e _ f i j=>([bK 0 0 0 0,bK 1 0 0 0,aN 2 f 0 i none,aW<|((s::rs).drop 1).map ax,nV ((s::rs).drop 1).length,nV a,aW<|b.map aY,nV b.length,nV d,aW<|g.kids.map aY,nV g.kids.length,nV e],[aZ 1 false 0 [aW<|b.map aY],aZ 2 false 0 [aw [iV c.kind,aj c.label]],aZ 8 true f<|j.map aY])) (fun a=>List.filter (bB c) a++cC c i=cC c b) (fun a _ d e=>d=e.length∧e++(List.filter (bB c) a++cC c i)=cC c b∧e.length+(ef a+ef i)<2^30) (by simp_all[gA]) (fun _ _ _ _ _ a _=>Kh 0 a<|Kl 0 60 (dm d)<|Kf 0<|j sA) (fun a _ d e f j k l n p _ o _=>have o:=(o).trans<|congrArg some<|aD f;have:=cX (J:=fun a _=>List.filter (bB c) a++cC c i=cC c b) (a:=()) n e;have:nU f+ef j≤ef g.kids:=pj d n;Kt 0 p<|Mx o<|Kp 4 (lf f c)<|Mb (bB c f) (fun _=>K1 3 (.obj 3<|aZ 8 true 0<|List.map aY [f]) (congrArg (aZ 8 true 0)<|VX (f:=aY) (g:=Go.Ev.eU) (ws:=[f]) aD)<|Kl 1 59 (dm a)<|K1 0 (.ren [0,1,3,2] [3] [5,7,8,33,34,35,39,40,41,46,47,48]) (tS 8 true 0<|aX ic [f])<|M1 (.frz 3 [5,7,8,33,34,35,39,40,41,46,47,48]) (kL (tR 8 true 0 3<|aX ic [f]) rt rt ti)<|Mf<|l 0 1 [f] gR) fun _=>Kl 0 59 (dm a)<|K1 0 (.frz 2 [5,7,8,33,34,35,39,40,41,46,47,48]) (ct rt rt ti)<|Mf<|k sA) (fun _ _ a e f _ _ _ g _=>Kh 0 g<|Kl 0 60 (dm d)<|Kf 0<|k a e f gR) fun a _ d e f j k l n _ p q r _ o _=>have o:=(o).trans<|congrArg some<|aD l;have k:=cX (J:=fun a d=>d.2.1=d.2.2.length∧d.2.2++(List.filter (bB c) a++cC c i)=cC c b∧d.2.2.length+(ef a+ef i)<2^30) (a:=(d,e,f)) q k;have:nU l+ef n≤ef g.kids:=pj j q;Kt 0 r<|Mx o<|Kp 4 (lf l c)<|Mb (bB c l) (fun _=>K1 2 .app (ct (aK d) (sA:e=(f.map aY).length) (by(refine au (m:=2^31) ?_ ?_ ?_<;>omega):small (e+1) 120=true))<|M1 (.obj 2<|aZ 8 true (d+1)<|(f++[l]).map aY) (congrArg (aZ 8 true<|d+1)<|yg (f:=aY) (g:=Go.Ev.eU) (l:=f) (ws:=[l]) aD)<|Kl 1 59 (dm a)<|K1 0 (.frz 3 [5,7,8,33,34,35,39,40,41,46,47,48]) (kL (tR 8 true (d+1) 3<|aX ic<|f++[l]) rt rt ti)<|Mf<|p (d+1) (e+1) (f++[l])<|by exact hB1 k (by omega)) fun _=>Kl 0 59 (dm a)<|K1 0 (.frz 3 [5,7,8,33,34,35,39,40,41,46,47,48]) (kL (tR 8 true d 3<|aX ic f) rt rt ti)<|Mf<|p d e f<|by exact hB0 k (by omega)) (fun _ _ b c f _ _ _ g i=>let j:=List.map aY f;Kh 0 g<|Mg 0<|M2 (.fsl 2 [5,33,34,35] 61 j) (ct rt rt ti) (ct (aK b) (tA aY f c (oA:(f).length=c))<|aX ic f)<|Ml 61 (fG j false<|aX ic f)<|Kl 1 62 (dm a)<|K1 0 (.frz 1 [5,33,34,35]) (et rt ti)<|Mf<|e f<|by exact fB hj0 i.2.1) fun d _ e f g i j k l _ n o p _ q _=>have r:=(q).trans<|congrArg some<|aD k;have j:=cX (J:=fun a d=>d.2.1=d.2.2.length∧d.2.2++cC c a=cC c b∧d.2.2.length+ef a<2^30) (a:=(e,f,g)) o j;have:nU k+ef l≤ef b:=pj i o;have:k.kids.length<nU k:=bz k;have:nU k=1+ef k.kids:=jv k;Kt 0 p<|Mx r<|Kl 5 47 (ln aY k.kids)<|K1 0 (.frz 3 [5,7,8,33,34,35,39,40,41,46,47,48]) (kL (tR 8 true e 3<|aX ic g) rt rt ti)<|PV aY k.kids e f g [5,7,8,33,34,35,39,40,41,46,47,48] (fun e _ f g i=>([bK 0 0 0 0,bK 1 0 0 0,aN 2 f 0 g none,aW<|((s::rs).drop 1).map ax,nV ((s::rs).drop 1).length,nV a,aW<|b.map aY,nV b.length,nV d,aW<|k.kids.map aY,nV k.kids.length,nV e],[aZ 1 false 0 [aW<|b.map aY],aZ 2 false 0 [aw [iV c.kind,aj c.label]],aZ 8 true f<|i.map aY])) (fun a _ d e=>d=e.length∧e++(List.filter (bB c) a++cC c l)=cC c b∧e.length+(ef a+ef l)<2^30) (by(exact gB j)) (fun _ _ a e f _ _ _ g _=>Kh 0 g<|Kl 0 60 (dm d)<|Kf 0<|n a e f gR) fun a _ d e f g i j n o p r _ q _=>have q:=(q).trans<|congrArg some<|aD j;have i:=cX (J:=fun a d=>d.2.1=d.2.2.length∧d.2.2++(List.filter (bB c) a++cC c l)=cC c b∧d.2.2.length+(ef a+ef l)<2^30) (a:=(d,e,f)) p i;have:nU j+ef n≤ef k.kids:=pj g p;Kt 0 r<|Mx q<|Kp 4 (lf j c)<|Mb (bB c j) (fun _=>K1 2 .app (ct (aK d) (sA:e=(f.map aY).length) (by(refine au (m:=2^31) ?_ ?_ ?_<;>omega):small (e+1) 120=true))<|M1 (.obj 2<|aZ 8 true (d+1)<|(f++[j]).map aY) (congrArg (aZ 8 true<|d+1)<|yg (f:=aY) (g:=Go.Ev.eU) (l:=f) (ws:=[j]) aD)<|Kl 1 59 (dm a)<|K1 0 (.frz 3 [5,7,8,33,34,35,39,40,41,46,47,48]) (kL (tR 8 true (d+1) 3<|aX ic<|f++[j]) rt rt ti)<|Mf<|o (d+1) (e+1) (f++[j])<|by exact hB1 i (by omega)) fun _=>Kl 0 59 (dm a)<|K1 0 (.frz 3 [5,7,8,33,34,35,39,40,41,46,47,48]) (kL (tR 8 true d 3<|aX ic f) rt rt ti)<|Mf<|o d e f<|by exact hB0 i (by omega)
theorem VG(u:TUnit)(p:List PStep)(hn:nU u≤2^11)(hl:p.length<2^40)(hs:∀x,x∈p→x.label.length≤2^39):kP 182 [eU u,.ls (p.map ax)] (.ls ((eb u p).map aY)):=by
  cases p with
  |nil=>exact VH u rfl
  |cons s rs=>grind[R8]
theorem Od(u:TUnit)(p:List PStep)(L:List TUnit)(hf:kP 182 [eU u,.ls (p.map ax)] (.ls (L.map aY)))(hL:L.length≤2^22):kP 85 [eU u,.ls (p.map ax)] (.ls ((L.map ah).map aJ)):=by
  have rr0 b' (h:((L.map ah).map aJ)=b':=by first|rfl|(rw[←hj0];rfl)|(rw[←hj0.2.2.1];simp)):=h;exact bF Tryz.func85<|Kp 4 hf<|Kl 0 11 (ln aY L)<|K1 0 (.frz 0 [5,10,11,12]) ti<|kZ Nat Nat (List PId) aY L [5,10,11,12] (fun a _=>([ab,aW<|L.map aY,nV L.length,nV a],[])) (fun a _ b c d=>([aN 0 b 0 c none,aW<|L.map aY,nV L.length,nV a],[aZ 3 true b<|d.map aJ])) (fun a=>a=L) (fun a _ b c=>b=c.length∧(0:Nat)<c.length∧c++List.map ah a=List.map ah L∧c.length+a.length=L.length) (by rfl) (fun _ _ _ _ _ a hj0=>Kh 0 a<|Kf 1 (Le.lsn<|rr0 []:Le _ (ab))) (fun a _ _ b c d _ e f g _ i _=>have i:=(i).trans<|congrArg some<|aD c;have hj0:=cX (J:=fun a _=>a=L) (a:=()) f b;Kt 0 g<|Mx i<|Kl 9 21 (ji a)<|Mg 0<|M0 (.ren [1,0] [] [5,10,11,12])<|M1 (.frz 1 [5,10,11,12]) (et rt ti)<|Mf<|e 0 1 [PId.mk c.act c.item c.n]<|by(refine⟨rfl,by simp,?_,?_⟩<;>(rw[←hj0])<;>(first|rfl|grind))) (fun _ _ a b c _ _ _ d hj0=>Kh 0 d<|Mg 1<|M2 (.fsl 0 [] 4<|c.map aJ) ti (ct (aK a) (tA aJ c b (oA:(c).length=b))<|aX AP c)<|Ml 4 (fG (c.map aJ) false<|aX AP c)<|Mf<|cJ<|rr0<|c.map aJ) fun a _ b c d _ e f g _ i j k _ l _=>have l:=(l).trans<|congrArg some<|aD f;have hj0:=cX (J:=fun a b=>b.2.1=b.2.2.length∧(0:Nat)<b.2.2.length∧b.2.2++List.map ah a=List.map ah L∧b.2.2.length+a.length=L.length) (a:=(b,c,d)) j e;Kt 0 k<|Mx l<|K1 6 .app (ct (aK b) (sA:c=(d.map aJ).length) (by(refine au (m:=2^25) ?_ ?_ ?_<;>omega):small (c+1) 24=true))<|M1 (.obj 0<|aZ 3 true (b+1)<|(d++[PId.mk f.act f.item f.n]).map aJ) (congrArg (aZ 3 true<|b+1)<|cp (f:=aJ) (l:=d) (ws:=[PId.mk f.act f.item f.n]))<|Kl 1 21 (ji a)<|K1 0 (.frz 1 [5,10,11,12]) (et (tR 3 true (b+1) 1<|aX AP<|d++[PId.mk f.act f.item f.n]) ti)<|Mf<|i (b+1) (c+1) (d++[PId.mk f.act f.item f.n])<|by(refine⟨by simp_all,by simp,?_,?_⟩<;>first|(rw[←hj0.2.2.1,dl,ia];rfl)|(rw[←hj0.2.2.1];simp;done)|grind)
theorem Oa(u:TUnit)(p:List PStep)(hf:kP 85 [eU u,.ls (p.map ax)] (.ls (([]:List PId).map aJ))):kP 47 [eU u,.ls (p.map ax)] (.tuple [aJ b8,iV 7]):=by
  exact bF Tryz.func47<|Kp 4 hf<|Kf 8<|bu<|cn [aw [iV 0,iV 0,iV 0],iV 7]
theorem Oc(u x:TUnit)(p:List PStep)(hf:kP 85 [eU u,.ls (p.map ax)] (.ls ([ah x].map aJ))):kP 47 [eU u,.ls (p.map ax)] (.tuple [aJ (ah x),iV 0]):=by
  exact bF Tryz.func47<|Kp 4 hf<|Kf 13<|bu<|cn [aw [iV (ah x).a,iV (ah x).i,iV (ah x).n],iV 0]
theorem Ob(u:TUnit)(p:List PStep)(a b:PId)(r:List PId)(hf:kP 85 [eU u,.ls (p.map ax)] (.ls ((a::b::r).map aJ))):kP 47 [eU u,.ls (p.map ax)] (.tuple [aJ b8,iV 8]):=by
  have q1:ak (Int.ofNat (r.length+1+1)) 0=false:=rfl
  have q2:ak (Int.ofNat (r.length+1+1)) 1=false:=rfl
  exact bF Tryz.func47<|Kp 4 hf<|Kl 2 11 (ln aJ<|a::b::r)<|Kf 8<|bu<|cn [aw [iV 0,iV 0,iV 0],iV 8]
/-- The way of an address, whatever it finds. -/
theorem Oy(u:TUnit)(p:List PStep)(hf:kP 182 [eU u,.ls (p.map ax)] (.ls ((eb u p).map aY)))(hn:nU u≤2^11):kP 47 [eU u,.ls (p.map ax)] (.tuple [aJ (aC u p).1,iV (aC u p).2]):=by
  have ha:=Od u p (eb u p) hf (JE p hn)
  cases e:eb u p with
  |nil=>grind[Ho,Oa]
  | cons x r=>
    cases r with
    |nil=>grind[Hn,Oc]
    |cons y r=>grind[Hm,Ob]
noncomputable abbrev zU:AV:=.agg [iV 0,iV 0,iV 0,iV 0,.str [],.nils,.nils,.nils]
noncomputable abbrev dI(xs:List AV):AObj:=.row 8 false 0 xs
theorem WQ{L Z:List AV}{n i:Nat}(hn:L.length=n)(hi:i<n):((L++Z).drop (i+1)).take (n-(i+1))=L.drop (i+1):=by
  grind
theorem WZ{L Z:List AV}{n i:Nat}(hn:L.length=n)(hi:i<n):bN (L++Z) (0+i) (L.drop (i+1))=L.eraseIdx i++(L.drop (n-1)++Z):=by
  unfold bN
  grind
theorem E8{L Z:List AV}{z:AV}{n i:Nat}(hn:L.length=n)(hi:i<n):bN (L.eraseIdx i++(L.drop (n-1)++Z)) (n-1) (List.replicate 1 z)=L.eraseIdx i++(z::Z):=by
  unfold bN
  have h1:(L.eraseIdx i).length=n-1:=by grind
  have h2:(L.drop (n-1)).length=1:=by grind
  grind
theorem ZS{a b:Nat}(h:a≠b):ak (Int.ofNat a) (Int.ofNat b)=false:=by
  grind[lr]
theorem SC(L Z:List AV)(n k i:Nat)(hi:i+1<n)(hn:L.length=n)(hs:n≤2^20)(hf:dF 8 L=true)(hZ:Z.length=k)(hT:aq (L++Z)=0):kD 237 [.slice 0 0 0 n (some (n+k)),nV i,nV (i+1)] (aa [dI (L++Z)]) (.slice 0 0 0 (n-1) (some (n+k))) (aa [dI (L.eraseIdx i++(zU::Z))]):=by
  have hq:ak (Int.ofNat i) (Int.ofNat (i+1))=false:=ZS (by omega)
  let q:=AHeap.mk 1000000 (bD (aa [aZ 8 false 0 (L++Z)]) ([0]) Tr.nil);let q1:=aa [aZ 8 false 0 (L.eraseIdx i++(L.drop (n-1)++Z))];let q2:=aa [aZ 8 false 0 (L++Z)];let q3:=(some (aN 0 0 0 n (some (n+k))));let q4:=aN 0 0 (i+1) (n-(i+1)) (some (n+k-(i+1)));let q5:=(some (nV (i+1)));let q6:=(some (nV i));let q7:=(some (nV n));let q8:=AHeap.mk 1 (bD q2 ([0,0]) Tr.nil);let q9:=aN 0 0 0 (n-1) (some (n+k));let q10:=aN 0 0 (n-1) 1 (some (k+1));let q11:=aN 0 0 0 i (some (n+k));exact gg Tryz.func237 fun a=>Ko 5 (by exact D7 (xs:=L++Z) (l:=i) (h:=i+1) (m:=n) (by kernel_rfl) (by rfl) (by rfl) (by rfl) (by omega) (by omega) (by omega) (by omega) (by omega) (by omega) (by omega):bc q2 (dw (8) q2 q3 q6 q5 q7)=some (ARes.val (AV.slice 0 0 i 1 (some (n-i))) q2))<|Kh 2 hq<|Kv 4 (by exact iD (xs:=L++Z) (l:=0) (h:=i) (by kernel_rfl) (by rfl) (by rfl) (by omega) (by omega) (by omega) (by omega) (by omega) (by omega):bc (q) (dw (8) (q) q3 (none) q6 (none))=some (ARes.val q11 q))<|Kv 1 (by exact iD (xs:=L++Z) (l:=i+1) (h:=n) (by kernel_rfl) (by rfl) (by rfl) (by omega) (by omega) (by omega) (by omega) (by omega) (by omega):bc (q) (dw (8) (q) q3 q5 (none) (none))=some (ARes.val q4 q))<|Md rt (iG (tR 8 false 0 1 (oA:aq (L++Z)=0))<|iG (tR 8 false 0 1 (oA:aq (L++Z)=0)) rt) (by exact M6 (new:=L.drop (i+1)) rfl (zY rfl (WQ hn (by omega))) (r9 hf) (fun e=>by have:=congrArg List.length e;grind) (by grind) (by grind) (au (m:=2^20) (by grind) (by omega) (by omega)) (by grind) (WZ hn (by omega)):fH (di (8) (120) (q8) ((some q11)) ((some q4)))=some (ARes.val q9 (AHeap.put q8 0 (AObj.row 8 false 0 (L.eraseIdx i++(L.drop (n-1)++Z))))))<|Ko 4 (by exact iD (xs:=L.eraseIdx i++(L.drop (n-1)++Z)) (l:=n-1) (h:=n) (by kernel_rfl) (by rfl) (by rfl) (by omega) (by omega) (by omega) (by omega) (by omega) (by omega):bc q1 (dw (8) q1 ((some q9)) ((some (nV (n-1)))) q7 (none))=some (ARes.val q10 q1))<|Mo (by exact J9 rfl (by kernel_rfl) (E8 hn (by omega)):fH (wy (8) (AV.agg [iV 0,iV 0,iV 0,iV 0,AV.str [],AV.nils,AV.nils,AV.nils]) q1 ((some q10)))=some (ARes.val (AV.tuple []) (aa [AObj.row 8 false 0 (L.eraseIdx i++zU::Z)])))<|Kf 1 a
theorem SB(L Z:List AV)(k i:Nat)(hn:L.length=i+1)(hs:i<2^20)(hk:0<k)(hZ:Z.length=k)(hT:aq (L++Z)=0):kD 237 [.slice 0 0 0 (i+1) (some (i+1+k)),nV i,nV (i+1)] (aa [dI (L++Z)]) (.slice 0 0 0 i (some (i+1+k))) (aa [dI (L.eraseIdx i++(zU::Z))]):=by
  have hq:ak (Int.ofNat i) (Int.ofNat (i+1))=false:=ZS (by omega)
  have hr:L.eraseIdx i++(L.drop (i+1-1)++Z)=L++Z:=by
    rw[PY,Fp (by omega),dO,←ia,show i+1-1=i from rfl,KD]
  have hc:bN (L++Z) i (List.replicate 1 zU)=L.eraseIdx i++(zU::Z):=by
    have h:=E8 (z:=zU) (Z:=Z) hn (show i<i+1 by omega)
    grind
  let q:=aa [aZ 8 false 0 (L++Z)];let q1:=AHeap.mk 1000000 (bD q ([0]) Tr.nil);let q2:=(some (nV (i+1)));let q3:=aN 0 0 0 i (some (i+1+k));let q4:=(some (aN 0 0 0 (i+1) (some (i+1+k))));let q5:=(some (nV i));let q6:=AHeap.mk 1 (bD q ([0,0]) Tr.nil);let q7:=aN 0 0 (i+1) 0 (some k);let q8:=aN 0 0 i 1 (some (k+1));exact gg Tryz.func237 fun a=>Ko 5 (by exact D7 (xs:=L++Z) (l:=i) (h:=i+1) (m:=i+1) (by kernel_rfl) (by rfl) (by rfl) (by rfl) (by omega) (by omega) (by omega) (by omega) (by omega) (by omega) (by omega):bc q (dw (8) q q4 q5 q2 q2)=some (ARes.val (AV.slice 0 0 i 1 (some 1)) q))<|Kh 2 hq<|Kv 4 (by exact iD (xs:=L++Z) (l:=0) (h:=i) (by kernel_rfl) (by rfl) (by rfl) (by omega) (by omega) (by omega) (by omega) (by omega) (by omega):bc (q1) (dw (8) (q1) q4 (none) q5 (none))=some (ARes.val q3 q1))<|Kv 1 (by exact iD (xs:=L++Z) (l:=i+1) (h:=i+1) (by kernel_rfl) (by rfl) (by rfl) (by omega) (by omega) (by omega) (by omega) (by omega) (by omega):bc (q1) (dw (8) (q1) q4 q2 (none) (none))=some (ARes.val q7 q1))<|Md rt (iG (tR 8 false 0 1 (oA:aq (L++Z)=0))<|iG (tR 8 false 0 1 (oA:aq (L++Z)=0)) rt) (by exact Tz (zY rfl List.take_zero):fH (di (8) (120) (q6) ((some q3)) ((some q7)))=some (ARes.val q3 q6))<|Ko 4 (by exact iD (xs:=L++Z) (l:=i) (h:=i+1) (by kernel_rfl) (by rfl) (by rfl) (by omega) (by omega) (by omega) (by omega) (by omega) (by omega):bc q (dw (8) q ((some q3)) q5 q2 (none))=some (ARes.val q8 q))<|Mo (by exact J9 rfl (by kernel_rfl) hc:fH (wy (8) (AV.agg [iV 0,iV 0,iV 0,iV 0,AV.str [],AV.nils,AV.nils,AV.nils]) q ((some q8)))=some (ARes.val (AV.tuple []) (aa [AObj.row 8 false 0 (L.eraseIdx i++zU::Z)])))<|Kf 1 a
theorem SA(L:List AV)(i:Nat)(hn:L.length=i+1)(hs:i<2^20)(hT:aq L=0):kD 237 [.slice 0 0 0 (i+1) (some (i+1)),nV i,nV (i+1)] (aa [dI L]) (.slice 0 0 0 i (some (i+1))) (aa [dI (L.eraseIdx i++[zU])]):=by
  have hq:ak (Int.ofNat i) (Int.ofNat (i+1))=false:=ZS (by omega)
  have hr:L.eraseIdx i++(L.drop (i+1-1)++[])=L:=by
    rw[PY,Fp (by omega),dO,dO,show i+1-1=i from rfl,KD]
  have hc:bN L i (List.replicate 1 zU)=L.eraseIdx i++[zU]:=by
    have h:=E8 (z:=zU) (Z:=[]) hn (show i<i+1 by omega)
    grind
  let q:=aa [aZ 8 false 0 L];let q1:=AHeap.mk 1000000 (bD q ([0]) Tr.nil);let q2:=(some (nV (i+1)));let q3:=aN 0 0 0 i (some (i+1));let q4:=(some (aN 0 0 0 (i+1) (some (i+1))));let q5:=(some (nV i));let q6:=aN 0 0 i 1 (some 1);let q7:=AHeap.mk 1 (bD q ([0,0]) Tr.nil);let q8:=aN 0 0 0 0 (some 0);exact gg Tryz.func237 fun a=>Ko 5 (by exact D7 (xs:=L) (l:=i) (h:=i+1) (m:=i+1) (by kernel_rfl) (by rfl) (by rfl) (by rfl) (by omega) (by omega) (by omega) (by omega) (by omega) (by omega) (by omega):bc q (dw (8) q q4 q5 q2 q2)=some (ARes.val q6 q))<|Kh 2 hq<|Kv 4 (by exact iD (xs:=L) (l:=0) (h:=i) (by kernel_rfl) (by rfl) (by rfl) (by omega) (by omega) (by omega) (by omega) (by omega) (by omega):bc (q1) (dw (8) (q1) q4 (none) q5 (none))=some (ARes.val q3 q1))<|Kv 1 (by exact LX (xs:=L) (l:=i+1) (h:=i+1) (by kernel_rfl) (by rfl) (by rfl) (by rfl) rfl:bc (q1) (dw (8) (q1) q4 q2 (none) (none))=some (ARes.val q8 q1))<|Md rt (iG (tR 8 false 0 1 (oA:aq (L)=0))<|iG (tR 8 false 0 1 (oA:aq (L)=0)) rt) (by exact Tz (zY rfl List.take_zero):fH (di (8) (120) (q7) ((some q3)) ((some q8)))=some (ARes.val q3 q7))<|Ko 4 (by exact iD (xs:=L) (l:=i) (h:=i+1) (by kernel_rfl) (by rfl) (by rfl) (by omega) (by omega) (by omega) (by omega) (by omega) (by omega):bc q (dw (8) q ((some q3)) q5 q2 (none))=some (ARes.val q6 q))<|Mo (by exact J9 rfl (by kernel_rfl) hc:fH (wy (8) (AV.agg [iV 0,iV 0,iV 0,iV 0,AV.str [],AV.nils,AV.nils,AV.nils]) q ((some q6)))=some (ARes.val (AV.tuple []) (aa [AObj.row 8 false 0 (L.eraseIdx i++[zU])])))<|Kf 1 a
theorem Su(L Z:List AV)(n i:Nat)(hi:i<n)(hn:L.length=n)(hs:n≤2^20)(hf:dF 8 L=true)(hT:aq (L++Z)=0):kD 237 [.slice 0 0 0 n (some (n+Z.length)),nV i,nV (i+1)] (aa [dI (L++Z)]) (.slice 0 0 0 (n-1) (some (n+Z.length))) (aa [dI (L.eraseIdx i++(zU::Z))]):=by
  rcases gX (i+1) n with h|h
  · exact SC L Z n _ i h hn hs hf rfl hT
  · obtain rfl:n=i+1:=by omega
    cases Z with
    |nil=>rw[dO];rw[dO]at hT;exact SA L i hn (by omega) hT
    |cons z r=>exact SB L (z::r) _ i hn (by omega) (Nat.succ_pos _) rfl hT
/-- A list with an element more at a place. -/
def gN(i:Nat)(x:AV)(l:List AV):List AV:=l.take i++(x::l.drop i)
theorem Ah{i:Nat}{x:AV}{l:List AV}(h:i≤l.length):(gN i x l).length=l.length+1:=by
  grind[gN]
theorem G9{x:AV}{l:List AV}{n:Nat}(h:l.length=n):gN n x l=l++[x]:=by
  grind[gN]
theorem aah(n:Nat):ak (Int.ofNat n) (Int.ofNat n)=true:=ba _
theorem aa7{a b:Nat}(h:a<b):ao (Int.ofNat a) (Int.ofNat b)=true:=n4 (by simp_all)
theorem aa8{a b:Nat}(h:b≤a):ao (Int.ofNat a) (Int.ofNat b)=false:=j6 (by simp_all)
theorem V5{L Z:List AV}{x z:AV}{n:Nat}(h:L.length=n):bN (L++z::Z) (0+n) [x]=gN n x L++Z:=by
  unfold bN
  rw[G9 h,gr,←h,List.take_left,show(L++z::Z).drop (L.length+[x].length)=Z by rw[←CJ,List.drop_left];rfl]
theorem U1{L Z:List AV}{z:AV}{n i:Nat}(h:L.length=n)(hi:i<n):bN (L++z::Z) (i+1) (L.drop i)=L.take (i+1)++(L.drop i++Z):=by
  unfold bN
  rw[List.take_append_of_le_length (by omega),ia,wo,show i+1+(L.length-i)=L.length+1 by omega,←CJ,List.drop_left];rfl
theorem Q7{L Z:List AV}{x:AV}{n i:Nat}(h:L.length=n)(hi:i<n):bN (L.take (i+1)++(L.drop i++Z)) i [x]=gN i x L++Z:=by
  unfold bN gN
  grind
theorem UH{L:List AV}{z x:AV}{n i:Nat}(h:L.length=n)(hi:i<n):bN (L.take i++List.replicate (n+1-i) z) i [x]=L.take i++(x::List.replicate (n-i) z):=by
  unfold bN
  have h1:(L.take i).length=i:=by grind
  have e:n+1-i=(n-i)+1:=by omega
  rw[List.take_append_of_le_length (by omega),CW (by omega),←CJ]
  simp_all
theorem QT{L:List AV}{z x:AV}{n i:Nat}(h:L.length=n)(hi:i<n):bN (L.take i++(x::List.replicate (n-i) z)) (i+1) (L.drop i)=gN i x L:=by
  unfold bN gN
  have h1:(L.take i).length=i:=by grind
  have h2:(L.take i++(x::List.replicate (n-i) z)).length=n+1:=by grind
  have e:(L.take i++(x::List.replicate (n-i) z)).drop (i+1+(L.drop i).length)=[]:=Fp (by grind)
  grind
theorem Rl(L Z:List AV)(x z:AV)(t:Bool)(n k:Nat)(hn:L.length=n)(hs:n<2^20)(hk:Z.length=k)(hx:dF 8 [x]=true):kD 140 [.slice 0 0 0 n (some (n+(k+1))),nV n,.ps [x] t] (aa [dI (L++z::Z)]) (.slice 0 0 0 (n+1) (some (n+(k+1)))) (aa [dI (gN n x L++Z)]):=by
  have hq:=aah n
  let q:=aa [aZ 8 false 0 (L++z::Z)];exact gg Tryz.func140 fun a=>Ko 2 (by exact iD (xs:=L++z::Z) (l:=n) (h:=n) (by kernel_rfl) (by rfl) (by rfl) (by omega) (by omega) (by omega) (by omega) (by omega) (by omega):bc q (dw (8) q ((some (AV.slice 0 0 0 n (some (n+(k+1)))))) ((some (nV n))) (none) (none))=some (ARes.val (AV.slice 0 0 n 0 (some (k+1))) q))<|Kt 11 hq<|Ko 1 (by exact M6 (new:=[x]) rfl (by rfl) hx (jd _ _) (by simp_all) (by simp_all) (au (m:=2^20) (by grind) (by omega) (by omega)) rfl (V5 hn):fH (di (8) (120) (aa [AObj.row 8 false 0 (L++z::Z)]) ((some (AV.slice 0 0 0 n (some (n+(k+1)))))) ((some (AV.ps [x] t))))=some (ARes.val (AV.slice 0 0 0 (n+1) (some (n+(k+1)))) (aa [AObj.row 8 false 0 (gN n x L++Z)])))<|Kf 0 a
theorem Ri(L:List AV)(x:AV)(t:Bool)(n:Nat)(hn:L.length=n)(hs:n<2^20)(hx:dF 8 [x]=true)(hT:aq L=0)(hI:aq (gN n x L)=0):kD 140 [.slice 0 0 0 n (some n),nV n,.ps [x] t] (aa [dI L]) (.ls (gN n x L)) (aa [dI L]):=by
  have hq:=aah n
  have hIl:(gN n x L).length=n+1:=(Ah (by omega)).trans (by omega)
  let q:=aa [aZ 8 false 0 L];exact gg Tryz.func140 fun a=>Ko 2 (by exact LX (xs:=L) (l:=n) (h:=n) (by kernel_rfl) (by rfl) (by rfl) (by rfl) rfl:bc q (dw (8) q ((some (AV.slice 0 0 0 n (some n)))) ((some (nV n))) (none) (none))=some (ARes.val (AV.slice 0 0 0 0 (some 0)) q))<|Kt 11 hq<|Ko 1 (by exact We (new:=[x]) rfl (by rfl) hx (jd _ _) (by simp_all) (au (m:=2^20) (by grind) (by omega) (by omega)) (by grind[G9]) ((Ah (by omega)).trans (by omega)):fH (di (8) (120) (aa [AObj.row 8 false 0 L]) ((some (AV.slice 0 0 0 n (some n)))) ((some (AV.ps [x] t))))=some (ARes.val (AV.slice 1 0 0 (n+1) none) (aa [AObj.row 8 false 0 L,AObj.row 8 true 0 (gN n x L)])))<|Mg 0<|M2 (.fsl 1 [] 6<|gN n x L) (et (tR 8 false 0 1 (oA:aq (L)=0)) ti) (ct (aK 0) (WB (oA:(gN n x L).length=n+1)) (oA:aq (gN n x L)=0))<|Ml 6 (fG (gN n x L) false (oA:aq (gN n x L)=0))<|Mf a
theorem Rh(L Z:List AV)(x z:AV)(t:Bool)(n k i:Nat)(hi:i<n)(hn:L.length=n)(hs:n<2^20)(hk:Z.length=k)(hx:dF 8 [x]=true)(hf:dF 8 L=true)(hT:aq (L++z::Z)=0)(hov:kD 234 [.ps [x] t,.slice 0 0 (i+1) (n-i) (some (n+(k+1)-(i+1)))] (aa [dI (L++z::Z)]) (.bool false) (aa [dI (L++z::Z)])):kD 140 [.slice 0 0 0 n (some (n+(k+1))),nV i,.ps [x] t] (aa [dI (L++z::Z)]) (.slice 0 0 0 (n+1) (some (n+(k+1)))) (aa [dI (gN i x L++Z)]):=by
  have hq:ak (Int.ofNat i) (Int.ofNat n)=false:=ZS (by omega)
  have hl:ao (Int.ofNat (n+(k+1))) (Int.ofNat (n+1))=false:=aa8 (by omega)
  let q:=aa [aZ 8 false 0 (L++z::Z)];let q1:=aa [aZ 8 false 0 (L.take (i+1)++(L.drop i++Z))];let q2:=AHeap.mk 1000000 (bD q ([0]) Tr.nil);let q3:=aN 0 0 0 (n+1) (some (n+(k+1)));let q4:=aN 0 0 i (n+1-i) (some (n+(k+1)-i));let q5:=(some (nV i));let q6:=aN 0 0 (i+1) (n-i) (some (n+(k+1)-(i+1)));let q7:=(some (nV (i+1)));let q8:=(some (aN 0 0 0 n (some (n+(k+1)))));exact gg Tryz.func140 fun a=>Ko 2 (by exact iD (xs:=L++z::Z) (l:=i) (h:=n) (by kernel_rfl) (by rfl) (by rfl) (by omega) (by omega) (by omega) (by omega) (by omega) (by omega):bc q (dw (8) q q8 q5 (none) (none))=some (ARes.val (AV.slice 0 0 i (n-i) (some (n+(k+1)-i))) q))<|Kh 11 hq<|Kl 2 28 (ji n)<|Kh 2 hl<|Kl 3 59 (ji n)<|Mo (by exact iD (xs:=L++z::Z) (l:=0) (h:=n+1) (by kernel_rfl) (by rfl) (by rfl) (by omega) (by omega) (by omega) (by omega) (by omega) (by omega):bc q (dw (8) q q8 (none) ((some (nV (n+1)))) (none))=some (ARes.val q3 q))<|Kl 5 65 (ji i)<|Mo (by exact iD (xs:=L++z::Z) (l:=i+1) (h:=n+1) (by kernel_rfl) (by rfl) (by rfl) (by omega) (by omega) (by omega) (by omega) (by omega) (by omega):bc q (dw (8) q ((some q3)) q7 (none) (none))=some (ARes.val q6 q))<|Me hov<|Mg 4<|Ma (ji i)<|Mv (by exact iD (xs:=L++z::Z) (l:=i+1) (h:=n+1) (by kernel_rfl) (by rfl) (by rfl) (by omega) (by omega) (by omega) (by omega) (by omega) (by omega):bc (q2) (dw (8) (q2) ((some q3)) q7 (none) (none))=some (ARes.val q6 q2))<|Kv 1 (by exact iD (xs:=L++z::Z) (l:=i) (h:=n+1) (by kernel_rfl) (by rfl) (by rfl) (by omega) (by omega) (by omega) (by omega) (by omega) (by omega):bc (q2) (dw (8) (q2) ((some q3)) q5 (none) (none))=some (ARes.val q4 q2))<|Md rt (iG (tR 8 false 0 1 (oA:aq (L++z::Z)=0))<|iG (tR 8 false 0 1 (oA:aq (L++z::Z)=0)) rt) (by exact MF (zs:=((L++z::Z).drop i).take (n+1-i)) rfl (zY rfl rfl) (by grind[r9]) (by grind) (by grind[U1]):fH (vK (8) ((AHeap.mk 1 (bD (aa [AObj.row 8 false 0 (L++z::Z)]) ([0,0]) Tr.nil))) ((some (AV.slice 0 0 (i+1) (n-i) (some (n+(k+1)-(i+1)))))) ((some (AV.slice 0 0 i (n+1-i) (some (n+(k+1)-i))))))=some (ARes.val (nV (n-i)) (AHeap.put (AHeap.mk 1 (bD (aa [AObj.row 8 false 0 (L++z::Z)]) ([0,0]) Tr.nil)) 0 (AObj.row 8 false 0 (L.take (i+1)++(L.drop i++Z))))))<|Ko 1 (by exact iD (xs:=L.take (i+1)++(L.drop i++Z)) (l:=i) (h:=n+1) (by kernel_rfl) (by rfl) (by rfl) (by omega) (by omega) (by omega) (by omega) (by omega) (by omega):bc q1 (dw (8) q1 ((some q3)) q5 (none) (none))=some (ARes.val q4 q1))<|Ko 0 (by exact MF (zs:=[x]) rfl (by rfl) (r8 hx) (by grind) (by grind[List.take_of_length_le,Q7]):fH (vK (8) q1 ((some q4)) ((some (AV.ps [x] t))))=some (ARes.val (iV 1) (aa [AObj.row 8 false 0 (gN i x L++Z)])))<|Kf 1 a
theorem Rf(L:List AV)(x:AV)(t:Bool)(n i:Nat)(hi:i<n)(hn:L.length=n)(hs:n<2^20)(hx:dF 8 [x]=true)(hf:dF 8 L=true)(hT:aq L=0)(hT2:aq (L.take i++(x::List.replicate (n-i) zU))=0)(hI:aq (gN i x L)=0):kD 140 [.slice 0 0 0 n (some n),nV i,.ps [x] t] (aa [dI L]) (.ls (gN i x L)) (aa [dI L]):=by
  have hq:ak (Int.ofNat i) (Int.ofNat n)=false:=ZS (by omega)
  have hl:ao (Int.ofNat n) (Int.ofNat (n+1))=true:=aa7 (by omega)
  have hIl:(gN i x L).length=n+1:=(Ah (by omega)).trans (by omega)
  let q:=aa [aZ 8 false 0 L,aZ 8 true 0 (L.take i++x::List.replicate (n-i) zU)];let q1:=aa [aZ 8 false 0 L,aZ 8 true 0 (L.take i++List.replicate (n+1-i) zU)];let q2:=aa [aZ 8 false 0 L];let q3:=(some (nV i));let q4:=AHeap.mk 1000000 (bD q ([0]) Tr.nil);let q5:=aN 0 0 i (n-i) (some (n-i));let q6:=(some (aN 0 0 0 n (some n)));let q7:=AHeap.mk 2 (bD q ([1,0]) Tr.nil);let q8:=aN 1 0 i (n+1-i) none;let q9:=aN 1 0 0 (n+1) none;let q10:=aN 0 0 0 i (some n);exact gg Tryz.func140 fun a=>Ko 2 (by exact iD (xs:=L) (l:=i) (h:=n) (by kernel_rfl) (by rfl) (by rfl) (by omega) (by omega) (by omega) (by omega) (by omega) (by omega):bc q2 (dw (8) q2 q6 q3 (none) (none))=some (ARes.val q5 q2))<|Kh 11 hq<|Kl 2 28 (ji n)<|Kt 2 hl<|Ko 1 (by exact iD (xs:=L) (l:=0) (h:=i) (by kernel_rfl) (by rfl) (by rfl) (by omega) (by omega) (by omega) (by omega) (by omega) (by omega):bc q2 (dw (8) q2 q6 (none) q3 (none))=some (ARes.val q10 q2))<|Kl 2 37 (ji n)<|Ko 0 (by(show bc _ (some (AV.int .i64 (IntKind.i64.wrap (Int.ofNat (n+1)-Int.ofNat i))))=_;rw[show(Int.ofNat (n+1)-Int.ofNat i)=Int.ofNat (n+1-i) by grind,yX (by simp_all) (by grind)];rfl):bc (aa [AObj.row 8 false 0 L]) (TN (qb BinOp.sub (Tryz.prog.underlying 3) (cP Tryz.prog 3) (cT Tryz.prog 3) (ej Tryz.prog 10 3 0)) ((some (nV (n+1)))) ((some (nV i))))=some (ARes.val (nV (n+1-i)) (aa [AObj.row 8 false 0 L])))<|Mo (by exact UT rfl (by omega) (by omega) (by kernel_rfl) (au (m:=2^21) (by omega) (by omega) (by omega)) (au (m:=2^21) (by omega) (by omega) (by omega)) (by simp_all) (by grind):fH (C1 (8) (120) (AV.agg [iV 0,iV 0,iV 0,iV 0,AV.str [],AV.nils,AV.nils,AV.nils]) q2 ((some q10)) ((some (nV (n+1-i)))))=some (ARes.val q9 q1))<|Ko 2 (by exact LZ (xs:=L.take i++List.replicate (n+1-i) zU) (l:=i) (h:=n+1) (by kernel_rfl) (by rfl) (by rfl) (by omega) (by grind) (by omega) (by omega):bc q1 (dw (8) q1 ((some q9)) q3 (none) (none))=some (ARes.val q8 q1))<|Ko 0 (by exact MF (zs:=[x]) rfl (by rfl) (r8 hx) (by grind) (by grind[List.take_of_length_le,UH]):fH (vK (8) q1 ((some q8)) ((some (AV.ps [x] t))))=some (ARes.val (iV 1) q))<|Mg 2<|Ma (ji i)<|Mv (by exact LZ (xs:=L.take i++(x::List.replicate (n-i) zU)) (l:=i+1) (h:=n+1) (by kernel_rfl) (by rfl) (by rfl) (by omega) (by grind) (by omega) (by omega):bc ((AHeap.mk 1000000 (bD (aa [AObj.row 8 false 0 L,AObj.row 8 true 0 (L.take i++x::List.replicate (n-i) zU)]) ([1]) Tr.nil))) (dw (8) ((AHeap.mk 1000000 (bD (aa [AObj.row 8 false 0 L,AObj.row 8 true 0 (L.take i++x::List.replicate (n-i) zU)]) ([1]) Tr.nil))) ((some (AV.slice 1 0 0 (n+1) none))) ((some (nV (i+1)))) (none) (none))=some (ARes.val (AV.slice 1 0 (i+1) (n-i) none) (AHeap.mk 1000000 (bD (aa [AObj.row 8 false 0 L,AObj.row 8 true 0 (L.take i++x::List.replicate (n-i) zU)]) ([1]) Tr.nil))))<|Kv 1 (by exact iD (xs:=L) (l:=i) (h:=n) (by kernel_rfl) (by rfl) (by rfl) (by omega) (by omega) (by omega) (by omega) (by omega) (by omega):bc (q4) (dw (8) (q4) q6 q3 (none) (none))=some (ARes.val q5 q4))<|Md rt (iG (tR 8 true 0 2 (oA:aq (L.take i++x::List.replicate (n-i) zU)=0))<|iG (tR 8 false 0 2 (oA:aq (L)=0)) rt) (by exact MF (zs:=L.drop i) rfl (zY rfl (CW (by simp_all))) (r8 (r9 hf)) (by simp_all) (by grind[List.length_drop,QT]):fH (vK (8) (q7) ((some (AV.slice 1 0 (i+1) (n-i) none))) ((some q5)))=some (ARes.val (nV (n-i)) (AHeap.put q7 1 (AObj.row 8 true 0 (gN i x L)))))<|Mg 1<|M2 (.fsl 1 [] 6<|gN i x L) (et (tR 8 false 0 1 (oA:aq (L)=0)) ti) (ct (aK 0) (WB (oA:(gN i x L).length=n+1)) (oA:aq (gN i x L)=0))<|Ml 6 (fG (gN i x L) false (oA:aq (gN i x L)=0))<|Mf a
theorem G7(x:TUnit)(t:Bool):kP 140 [.nils,iV 0,.ps [eU x] t] (.ls [eU x]):=by
  have hx:dF 8 [eU x]=true:=by kernel_rfl
  have hIl:[eU x].length=1:=rfl
  have hI:aq [eU x]=0:=by kernel_rfl
  let q:=[aw [iV x.act,iV x.item,iV x.n,iV x.kind,aj x.label,aW (x.head.map aQ),aW (x.words.map aQ),aW (x.kids.map aY)]];exact bF Tryz.func140<|Ko 18 (by(simp only[di,gE,kN,kE,iy,hx];rfl):fH (di (8) (120) (aa []) ((some (AV.nils))) ((some (AV.ps [AV.agg [iV x.act,iV x.item,iV x.n,iV x.kind,AV.str x.label,AV.ls (x.head.map aQ),AV.ls (x.words.map aQ),AV.ls (x.kids.map aY)]] t))))=some (ARes.val (AV.slice 0 0 0 1 none) (aa [AObj.row 8 true 0 [eU x]])))<|K1 0 (.frz 0 [6]) ti<|Mf (fG q _<|by rfl:Le _ (AV.ps q false))
theorem G6(x:TUnit)(t:Bool):kP 140 [.ps [] true,iV 0,.ps [eU x] t] (.ls [eU x]):=by
  have hx:dF 8 [eU x]=true:=by kernel_rfl
  have hIl:[eU x].length=1:=rfl
  have hI:aq [eU x]=0:=by kernel_rfl
  let q:=[aw [iV x.act,iV x.item,iV x.n,iV x.kind,aj x.label,aW (x.head.map aQ),aW (x.words.map aQ),aW (x.kids.map aY)]];exact bF Tryz.func140<|Ko 18 (by(simp only[di,gE,kN,kE,iy,hx];rfl):fH (di (8) (120) (aa []) ((some (AV.ps [] true))) ((some (AV.ps [AV.agg [iV x.act,iV x.item,iV x.n,iV x.kind,AV.str x.label,AV.ls (x.head.map aQ),AV.ls (x.words.map aQ),AV.ls (x.kids.map aY)]] t))))=some (ARes.val (AV.slice 0 0 0 1 none) (aa [AObj.row 8 true 0 [eU x]])))<|K1 0 (.frz 0 [6]) ti<|Mf (fG q _<|by rfl:Le _ (AV.ps q false))
noncomputable def KT:TypeInfo:=(Tryz.prog.info? 31).getD default
theorem Ph:Tryz.prog.info? 31=some KT:=by kernel_rfl
/-- A unit of zero values says no more than the zero value. -/
theorem ZK:Le (aY be) zU:=aR (.cons (Le.refl _) (.cons (Le.refl _) (.cons (Le.refl _) (.cons (Le.refl _) (.cons (Le.refl _) (.cons Le.nils (.cons Le.nils (.cons Le.nils .nil)))))))) rfl
theorem IP:KT.size=8:=by kernel_rfl
theorem FP:KT.bytes=120:=by kernel_rfl
theorem aaf(l:List TUnit):dF 8 (l.map aY)=true:=fT (fun u=>by cases u;rfl) l
/-- A copy of units: a row of its own, which holds zero values behind them. -/
theorem E9(xs:List TUnit)(hne:xs≠[])(hl:xs.length≤2^20)(a b c:AObj):kC 233 [.ls (xs.map aY)] (aa [a,b,c])
    (fun v h=>∃k:Nat,True∧v=.slice 3 0 0 xs.length (some (xs.length+k))∧h=aa [a,b,c,dI ((xs++List.replicate k be).map aY)]):=by
  simp only[m0,List.map_replicate]
  have hn:xs.map aY≠[]:=fun h=>hne (List.map_eq_nil_iff.1 h)
  have hf:=aaf xs
  have hsm:small (xs.map aY).length 120=true:=by grind[au]
  have hlen:xs.length=(xs.map aY).length:=(cK ..).symm
  rw[hlen]
  generalize xs.map aY=L at hn hf hsm
  refine aI.enter 2 (fn:=Tryz.f233) Tryz.func233 (by kernel_rfl) rfl ⟨by kernel_rfl,by kernel_rfl⟩ ?_
  refine ap.seq (ap.mono (EE qU jY (ev 40) (s':=⟨ee 8 [(0,.ls L),(2,.nils)],aa [a,b,c]⟩) (.go 0 .fin) (by kernel_rfl)) ?_)
  rintro _ _ ⟨rfl,rfl⟩
  refine ap.seq (ap.seq (ap.mono (ya jY (ev 40) (Ψ:=fun s=>s=⟨ee 8 [(0,.ls L),(2,.nils),(3,.ps L false),(4,.bool false)],aa [a,b,c]⟩) (.go 0 (.nz 3 .abs (.go 0 .fin)))
    (W:=(L=[]→False)∧(⟨ee 8 [(0,.ls L),(2,.nils),(3,.ps L false),(4,.bool false)],aa [a,b,c]⟩:St)=⟨ee 8 [(0,.ls L),(2,.nils),(3,.ps L false),(4,.bool false)],aa [a,b,c]⟩) ⟨hn,rfl⟩ (by kernel_rfl)) ?_))
  rintro _ _ ⟨rfl,rfl⟩
  refine ap.cond (t:=false) (by kernel_rfl) (fun h=>by grind) fun _=>ap.skip ?_
  refine ap.seq (ap.region ?_)
  show ce _ _ _ _ [_,_,_,_] _ _
  refine ce.one (s':=⟨ee 8 [(0,.ls L),(2,.nils),(3,.ps L false),(4,.bool false),(5,.ps [] true)],aa [a,b,c]⟩) (ev 40) (by kernel_rfl) ?_
  refine ce.one (s':=⟨ee 8 [(0,.ls L),(2,.nils),(3,.ps L false),(4,.bool false),(5,.ps [] true),(6,.ls L)],aa [a,b,c]⟩) (ev 40) (by kernel_rfl) ?_
  refine sk (I:=fun _=>True) (r:=fun k:Nat=>.slice 3 0 0 L.length (some (L.length+k))) (H:=fun k=>aa [a,b,c,.row 8 false 0 (L++List.replicate k (aY be))]) (by kernel_rfl)
    (fun pl M a w g1 g2 g3=>vw (z:=aY be) (z0:=zU) (xs:=L) (t:=29) (tx:=29) (e:=31) (i:=KT) IP FP (by kernel_rfl) ⟨31,by kernel_rfl⟩ Ph (by kernel_rfl) ZK (by kernel_rfl) (by kernel_rfl) hn hf (by kernel_rfl) hsm (by omega) pl M a w g1 g2 g3) fun k _=>?_
  refine⟨ee 8 [(0,.ls L),(2,.nils),(3,.ps L false),(4,.bool false),(5,.ps [] true),(6,.ls L),(7,.slice 3 0 0 L.length (some (L.length+k)))],by kernel_rfl,?_⟩
  refine ce.one (s':=⟨ee 8 [(0,.ls L),(2,.slice 3 0 0 L.length (some (L.length+k))),(3,.ps L false),(4,.bool false),(5,.ps [] true),(6,.ls L),(7,.slice 3 0 0 L.length (some (L.length+k)))],aa [a,b,c,.row 8 false 0 (L++List.replicate k (aY be))]⟩) (ev 40) (by kernel_rfl) (ce.nil (ap.ret ⟨fun id h=>(by grind),.slice 3 0 0 L.length (some (L.length+k)),by kernel_rfl,k,trivial,by kernel_rfl,by kernel_rfl⟩))
/-- The unit that a closure changes: its kids are 'K'. -/
noncomputable abbrev dH(u:TUnit)(K:AV):AObj:=.row 8 false 0 [.agg [iV u.act,iV u.item,iV u.n,iV u.kind,.str u.label,.ls (u.head.map aQ),.ls (u.words.map aQ),K]]
theorem ZU(u:TUnit)(n c i:Nat)(R R':List AV)(hT:aq R=0)(hT2:aq R'=0)(hi:i<n)(hs:n≤2^20)(hD:kD 237 [.slice 1 0 0 n (some c),nV i,nV (i+1)] (aa [dH u (.slice 1 0 0 n (some c)),dI R]) (.slice 1 0 0 (n-1) (some c)) (aa [dH u (.slice 1 0 0 n (some c)),dI R'])):
    kD 236 [.ptr 0 0 0 0,.pptr [nV i] 0 0] (aa [dH u (.slice 1 0 0 n (some c)),dI R]) (.tuple []) (aa [dH u (.slice 1 0 0 (n-1) (some c)),dI R']):=by
  exact gg Tryz.func236 fun a=>Mg 6<|Ma (ji i)<|M3 (.efx false (aN 1 0 0 (n-1)<|some c)<|aa [aZ 8 false 0 [aw [iV u.act,iV u.item,iV u.n,iV u.kind,aj u.label,aW<|u.head.map aQ,aW<|u.words.map aQ,aN 1 0 0 n<|some c]],aZ 8 false 0 R']) (ct (tR 8 false 0 2 (oA:aq (R)=0)) rt ti) ti hD<|Kf 2 a
theorem Yz(u x:TUnit)(n c i:Nat)(R R':List AV)(hT:aq R=0)(hT2:aq R'=0)(hD:kD 140 [.slice 1 0 0 n (some c),nV i,.ps [eU x] true] (aa [dH u (.slice 1 0 0 n (some c)),dI R]) (.slice 1 0 0 (n+1) (some c)) (aa [dH u (.slice 1 0 0 n (some c)),dI R'])):
    kD 139 [.ptr 0 0 0 0,.pptr [nV i] 0 0,.pptr [eU x] 0 0] (aa [dH u (.slice 1 0 0 n (some c)),dI R]) (.tuple []) (aa [dH u (.slice 1 0 0 (n+1) (some c)),dI R']):=by
  exact gg Tryz.func139 fun a=>Mg 7<|M3 (.efx false (aN 1 0 0 (n+1)<|some c)<|aa [aZ 8 false 0 [aw [iV u.act,iV u.item,iV u.n,iV u.kind,aj u.label,aW<|u.head.map aQ,aW<|u.words.map aQ,aN 1 0 0 n<|some c]],aZ 8 false 0 R']) (ct (tR 8 false 0 2 (oA:aq (R)=0)) rt ti) ti hD<|Kf 2 a
theorem Yq(u x:TUnit)(n c i:Nat)(R Y:List AV)(hT:aq R=0)(hD:kD 140 [.slice 1 0 0 n (some c),nV i,.ps [eU x] true] (aa [dH u (.slice 1 0 0 n (some c)),dI R]) (.ls Y) (aa [dH u (.slice 1 0 0 n (some c)),dI R])):
    kD 139 [.ptr 0 0 0 0,.pptr [nV i] 0 0,.pptr [eU x] 0 0] (aa [dH u (.slice 1 0 0 n (some c)),dI R]) (.tuple []) (aa [dH u (.ls Y),dI R]):=by
  let q:=[aw [iV u.act,iV u.item,iV u.n,iV u.kind,aj u.label,aW (u.head.map aQ),aW (u.words.map aQ),aN 1 0 0 n (some c)]];exact gg Tryz.func139 fun a=>Mg 7<|M3 (.efx true (aW Y)<|aa [aZ 8 false 0 q,aZ 8 false 0 R]) (ct (tR 8 false 0 2 (oA:aq (R)=0)) rt ti) (ct (aK<|some<|aZ 8 false 0 R) (aK<|some<|aZ 8 false 0 q) ti) hD<|Kf 2 a
theorem YU(u x:TUnit)(Y:List AV)(hD:kP 140 [.nils,iV 0,.ps [eU x] true] (.ls Y)):
    kD 139 [.ptr 0 0 0 0,.pptr [iV 0] 0 0,.pptr [eU x] 0 0] (aa [dH u .nils]) (.tuple []) (aa [dH u (.ls Y)]):=by
  exact gg Tryz.func139 fun a=>Kp 7 hD<|Kf 2 a
theorem YY(u x:TUnit)(Y:List AV)(hD:kP 140 [(.ps [] true),iV 0,.ps [eU x] true] (.ls Y)):
    kD 139 [.ptr 0 0 0 0,.pptr [iV 0] 0 0,.pptr [eU x] 0 0] (aa [dH u (.ps [] true)]) (.tuple []) (aa [dH u (.ls Y)]):=by
  exact gg Tryz.func139 fun a=>Kp 7 hD<|Kf 2 a
theorem X4(u x:TUnit)(n c i:Nat)(R R':List AV)(hT:aq R=0)(hT2:aq R'=0)(hD:kD 140 [.slice 1 0 0 n (some c),nV i,.ps [eU x] true] (aa [dH u (.slice 1 0 0 n (some c)),dI R]) (.slice 1 0 0 (n+1) (some c)) (aa [dH u (.slice 1 0 0 n (some c)),dI R'])):
    kD 150 [.ptr 0 0 0 0,.pptr [nV i] 0 0,.pptr [eU x] 0 0] (aa [dH u (.slice 1 0 0 n (some c)),dI R]) (.tuple []) (aa [dH u (.slice 1 0 0 (n+1) (some c)),dI R']):=by
  exact gg Tryz.func150 fun a=>Mg 7<|M3 (.efx false (aN 1 0 0 (n+1)<|some c)<|aa [aZ 8 false 0 [aw [iV u.act,iV u.item,iV u.n,iV u.kind,aj u.label,aW<|u.head.map aQ,aW<|u.words.map aQ,aN 1 0 0 n<|some c]],aZ 8 false 0 R']) (ct (tR 8 false 0 2 (oA:aq (R)=0)) rt ti) ti hD<|Kf 2 a
theorem X3(u x:TUnit)(n c i:Nat)(R Y:List AV)(hT:aq R=0)(hD:kD 140 [.slice 1 0 0 n (some c),nV i,.ps [eU x] true] (aa [dH u (.slice 1 0 0 n (some c)),dI R]) (.ls Y) (aa [dH u (.slice 1 0 0 n (some c)),dI R])):
    kD 150 [.ptr 0 0 0 0,.pptr [nV i] 0 0,.pptr [eU x] 0 0] (aa [dH u (.slice 1 0 0 n (some c)),dI R]) (.tuple []) (aa [dH u (.ls Y),dI R]):=by
  let q:=[aw [iV u.act,iV u.item,iV u.n,iV u.kind,aj u.label,aW (u.head.map aQ),aW (u.words.map aQ),aN 1 0 0 n (some c)]];exact gg Tryz.func150 fun a=>Mg 7<|M3 (.efx true (aW Y)<|aa [aZ 8 false 0 q,aZ 8 false 0 R]) (ct (tR 8 false 0 2 (oA:aq (R)=0)) rt ti) (ct (aK<|some<|aZ 8 false 0 R) (aK<|some<|aZ 8 false 0 q) ti) hD<|Kf 2 a
theorem X1(u x:TUnit)(Y:List AV)(hD:kP 140 [.nils,iV 0,.ps [eU x] true] (.ls Y)):
    kD 150 [.ptr 0 0 0 0,.pptr [iV 0] 0 0,.pptr [eU x] 0 0] (aa [dH u .nils]) (.tuple []) (aa [dH u (.ls Y)]):=by
  exact gg Tryz.func150 fun a=>Kp 7 hD<|Kf 2 a
theorem X0(u x:TUnit)(Y:List AV)(hD:kP 140 [(.ps [] true),iV 0,.ps [eU x] true] (.ls Y)):
    kD 150 [.ptr 0 0 0 0,.pptr [iV 0] 0 0,.pptr [eU x] 0 0] (aa [dH u (.ps [] true)]) (.tuple []) (aa [dH u (.ls Y)]):=by
  exact gg Tryz.func150 fun a=>Kp 7 hD<|Kf 2 a
theorem ZV(u:TUnit)(l:List PWord):kD 143 [.ptr 0 0 0 0,.pptr [.ls (l.map aQ)] 0 0] (aa [dH u (.ls (u.kids.map aY))]) (.tuple []) (aa [dH (fy l u) (.ls (u.kids.map aY))]):=by
  exact gg Tryz.func143 fun a=>Kf 4 a
theorem ZB(u:TUnit)(l:List PWord):kD 145 [.ptr 0 0 0 0,.pptr [.ls (l.map aQ)] 0 0] (aa [dH u (.ls (u.kids.map aY))]) (.tuple []) (aa [dH (fy l u) (.ls (u.kids.map aY))]):=by
  exact gg Tryz.func145 fun a=>Kf 4 a
theorem aab(u:TUnit)(l:List PWord):kD 147 [.ptr 0 0 0 0,.pptr [.ls (l.map aQ)] 0 0] (aa [dH u (.ls (u.kids.map aY))]) (.tuple []) (aa [dH (kn l u) (.ls (u.kids.map aY))]):=by
  exact gg Tryz.func147 fun a=>Kf 4 a
theorem Zu(u:TUnit)(d:PDeed):kD 149 [.ptr 0 0 0 0,.pptr [aU d] 0 0] (aa [dH u (.ls (u.kids.map aY))]) (.tuple []) (aa [dH (f9 d.it.label u) (.ls (u.kids.map aY))]):=by
  exact gg Tryz.func149 fun a=>Kf 6 a
noncomputable abbrev vN(p:PId):AObj:=.row 3 false 0 [aJ p]
noncomputable abbrev zO:AObj:=.row 8 false 0 [zU]
theorem IX:kP 233 [.nils] .nils:=by
  exact wk Tryz.func233 (.go 4 .fin)<|bu ab
theorem IZ:kP 233 [.ps [] false] (.ps [] true):=by
  exact wk Tryz.func233 (.go 7 .fin)<|bu<|kM [] true
theorem SO(w:TUnit)(r:List TUnit)(hl:r.length<2^20):kP 233 [.ls ((w::r).map aY)] (.ls ((w::r).map aY)):=by
  let q:=List.map aY (w::r);exact bF Tryz.func233<|Mg 1<|Mz 3 (fun(a:((w::r).map aY:List AV)=[])=>Mw .abs<|jd _ _ a)<|Mg 3<|M2 .apl (et (sA:List.map aY (w::r)≠[])<|fT (sz:=8) (f:=aY) (fun _=>by(rw[aD];rfl))<|w::r) (by(refine au (m:=2^21) ?_ ?_ ?_<;>first|omega|grind):small ((w::r).map aY).length 120=true)<|Mg 0<|M2 (.fsl 0 [] 2 q) ti (ct (aK 0) (tA aY (w::r) q.length (sA:(w::r).length=((w::r).map aY).length))<|aX ic<|w::r)<|Ml 2 (fG q false<|aX ic<|w::r)<|Mf<|bu<|aW q
theorem De(l:List TUnit)(hl:l.length≤2^20):kP 233 [.ls (l.map aY)] (.ls (l.map aY)):=by
  cases l with
  |nil=>exact bQ.ls0 (IX.less Le.nils) (IZ.lessB (u:=.ls []) (by kernel_rfl))
  |cons w r=>grind[SO]
/-- The unit is found; its kids stay what they are. -/
theorem yi(g:Nat)(bs:List AV)(p:PId)(u u2:TUnit)(hA:aq [eU u,aJ p,.func (.func g) [] bs]=0)(hp:(ak u.act p.a&&(ak u.item p.i&&ak u.n p.n))=true)(hl:u.kids.length≤2^20)(hd:kD g (.ptr 0 0 0 0::bs) (aa [dH u (.ls (u.kids.map aY)),vN p,zO]) (.tuple []) (aa [dH u2 (.ls (u2.kids.map aY)),vN p,zO])):kP 138 [eU u,aJ p,.func (.func g) [] bs] (eU u2):=by
  have hc:=De u.kids hl
  let q:=[iV p.a,iV p.i,iV p.n];exact bF (ht:=oA) Tryz.func138<|Kv 5 (l9 ((Tryz.prog).underlying 27) u.act u.item u.n p.a p.i p.n<|aa [aZ 8 false 0 [aw [iV u.act,iV u.item,iV u.n,iV u.kind,aj u.label,aW<|u.head.map aQ,aW<|u.words.map aQ,aW<|u.kids.map aY]],aZ 3 false 0 [aw q],aZ 8 false 0 [aw [iV 0,iV 0,iV 0,iV 0,aj [],ab,ab,ab]]])<|Mt hp<|Kp 1 hc<|Ke 2 hd<|Kf 1<|bu<|aw [iV u2.act,iV u2.item,iV u2.n,iV u2.kind,aj u2.label,aW<|u2.head.map aQ,aW<|u2.words.map aQ,aW<|u2.kids.map aY]
/-- The unit is found; it has kids; in its own row something is done. -/
theorem Vo(g:Nat)(bs:List AV)(p:PId)(u u2:TUnit)(n2:Nat)(Z:Nat→List AV)(hA:aq [eU u,aJ p,.func (.func g) [] bs]=0)(hp:(ak u.act p.a&&(ak u.item p.i&&ak u.n p.n))=true)(hl:u.kids.length≤2^20)(hne:u.kids≠[])(hn2:u2.kids.length=n2)(hd:∀k,kD g (.ptr 0 0 0 0::bs) (aa [dH u (.slice 3 0 0 u.kids.length (some (u.kids.length+k))),vN p,zO,dI ((u.kids++List.replicate k be).map aY)]) (.tuple []) (aa [dH u2 (.slice 3 0 0 n2 (some (u.kids.length+k))),vN p,zO,dI (u2.kids.map aY++Z k)])):kP 138 [eU u,aJ p,.func (.func g) [] bs] (eU u2):=by
  let q:=[aw [iV u.act,iV u.item,iV u.n,iV u.kind,aj u.label,aW (u.head.map aQ),aW (u.words.map aQ),aW (u.kids.map aY)]];let q1:=[iV p.a,iV p.i,iV p.n];let q2:=[aw [iV 0,iV 0,iV 0,iV 0,aj [],ab,ab,ab]];let q3:=List.map aY u2.kids;exact bF (ht:=oA) Tryz.func138<|Kv 5 (l9 ((Tryz.prog).underlying 27) u.act u.item u.n p.a p.i p.n<|aa [aZ 8 false 0 q,aZ 3 false 0 [aw q1],aZ 8 false 0 q2])<|Mt hp<|Mg 1<|Mq (E9 u.kids hne hl (aZ 8 false 0 q) (aZ 3 false 0 [aw q1])<|aZ 8 false 0 q2) fun a _=>Ke 2 (hd a)<|M2 (.fza 0 7 3 [3,6] q3) (kL rt rt rt ti) (ct (aK 0) (PC (xs:=List.map aY u2.kids) (ys:=Z a) (n:=n2) sA)<|aX ic u2.kids)<|Kf 1<|bu<|aw [iV u2.act,iV u2.item,iV u2.n,iV u2.kind,aj u2.label,aW<|u2.head.map aQ,aW<|u2.words.map aQ,aW q3]
theorem VB{l m:List TUnit}{i:Nat}(h:i<l.length):gD (l++m) i=gD l i:=by
  grind[gD]
theorem uV{l m:List TUnit}{i n:Nat}{x:TUnit}(h:l.length=n)(hi:i<n):((l++m).set i x).take n=l.set i x:=by
  simp_all
theorem Ta{l m:List TUnit}{n:Nat}(h:l.length=n):(l++m).take n=l:=by simp_all
theorem Mm{l:List TUnit}{i:Nat}(h:i<l.length):l.drop i=gD l i::l.drop (i+1):=by
  grind[List.drop_eq_getElem_cons,gD]
theorem Zx{p:PId}{f:TUnit→TUnit}{l:List TUnit}{i:Nat}(h:jc p f l i (l.drop i))(hi:l.length≤i):dn p f l=l:=by
  grind[List.drop_eq_nil_of_le,jc.done]
theorem Zq{p:PId}{f:TUnit→TUnit}{l:List TUnit}{i:Nat}(h:jc p f l i (l.drop i))(hi:i<l.length)(hw:b7 p (gD l i)=false):jc p f l (i+1) (l.drop (i+1)):=by
  grind[Mm,jc.skip]
theorem Zz{p:PId}{f:TUnit→TUnit}{l:List TUnit}{i:Nat}(h:jc p f l i (l.drop i))(hi:i<l.length)(hw:b7 p (gD l i)=true):dn p f l=l.set i (bG p f (gD l i)):=by
  grind[Mm,jc.hit]
/-- The unit is another one without kids. -/
theorem Z2(g:Nat)(bs:List AV)(p:PId)(u:TUnit)(hA:aq [eU u,aJ p,.func (.func g) [] bs]=0)(hA2:(AV.func (.func g) [] bs).top=0)(hp:(ak u.act p.a&&(ak u.item p.i&&ak u.n p.n))=false)(h0:u.kids.length=0)(hl0:ao 0 (Int.ofNat u.kids.length)=false):kP 138 [eU u,aJ p,.func (.func g) [] bs] (eU u):=by
  have hc:=De u.kids (by omega)
  let q:=[aZ 8 false 0 [aw [iV u.act,iV u.item,iV u.n,iV u.kind,aj u.label,aW (u.head.map aQ),aW (u.words.map aQ),aW (u.kids.map aY)]],aZ 3 false 0 [aw [iV p.a,iV p.i,iV p.n]],aZ 8 false 0 [aw [iV 0,iV 0,iV 0,iV 0,aj [],ab,ab,ab]]];let q1:=[bv (bw g) [] bs,bK 0 0 0 0,bK 1 0 0 0,bK 2 0 0 0,aW (u.kids.map aY),aW (u.kids.map aY),nV u.kids.length,iV 0];exact bF (ht:=oA) Tryz.func138<|Kv 5 (l9 ((Tryz.prog).underlying 27) u.act u.item u.n p.a p.i p.n<|aa q)<|Mh hp<|Kp 1 hc<|Kl 2 27 (ln aY u.kids)<|Mg 0<|MO0 [2,3,4,6,7,26,27,28] (q1,q) True 0 ti fun _ _=>Kh 0 hl0<|Kf 4<|bu<|aw [iV u.act,iV u.item,iV u.n,iV u.kind,aj u.label,aW<|u.head.map aQ,aW<|u.words.map aQ,aW<|u.kids.map aY]
/-- The unit is another: what is done below. -/
theorem Z1(g:Nat)(bs:List AV)(p:PId)(f:TUnit→TUnit)(u:TUnit)(hA:aq [eU u,aJ p,.func (.func g) [] bs]=0)(hA2:(AV.func (.func g) [] bs).top=0)(hp:(ak u.act p.a&&(ak u.item p.i&&ak u.n p.n))=false)(hne:u.kids≠[])(hn:u.kids.length≤2^20)
    (hf:∀k,k∈u.kids→kP 48 [eU k,aJ p] (.tuple [eU (dZ p k),.bool (b7 p k)]))
    (ih:∀k,k∈u.kids→kP 138 [eU k,aJ p,.func (.func g) [] bs] (eU (bG p f k))):kP 138 [eU u,aJ p,.func (.func g) [] bs] (eU (iU u (dn p f u.kids))):=by
  have rr0:∀b',(h:(List.map aY (iU u (dn p f u.kids)).kids)=b':=by first|rfl|(rw[Zz hx0.2 (by(first|omega|(simp only[oN]at *;omega))) (by rw[←q0 (by(first|omega|(simp only[oN]at *;omega)))];assumption),q0 (by(first|omega|(simp only[oN]at *;omega)))];exact congrArg _ (uV rfl (by(first|omega|(simp only[oN]at *;omega)))).symm)|(rw[Zx hx0.2 (by(first|omega|(simp only[oN]at *;omega)))];exact congrArg _ (Ta rfl).symm))→(List.map aY (iU u (dn p f u.kids)).kids)=b':=(fun _ h=>h);exact bF (ht:=oA) Tryz.func138<|Kv 5 (l9 ((Tryz.prog).underlying 27) u.act u.item u.n p.a p.i p.n<|aa [aZ 8 false 0 [aw [iV u.act,iV u.item,iV u.n,iV u.kind,aj u.label,aW<|u.head.map aQ,aW<|u.words.map aQ,aW<|u.kids.map aY]],aZ 3 false 0 [aw [iV p.a,iV p.i,iV p.n]],aZ 8 false 0 [aw [iV 0,iV 0,iV 0,iV 0,aj [],ab,ab,ab]]])<|Mh hp<|Mg 1<|Mq (E9 u.kids hne hn (aZ 8 false 0 [aw [iV u.act,iV u.item,iV u.n,iV u.kind,aj u.label,aW<|u.head.map aQ,aW<|u.words.map aQ,aW<|u.kids.map aY]]) (aZ 3 false 0 [aw [iV p.a,iV p.i,iV p.n]])<|aZ 8 false 0 [aw [iV 0,iV 0,iV 0,iV 0,aj [],ab,ab,ab]]) fun a _=>Mg 3<|MO1 (0:Nat) [2,3,4,6,7,26,27,28] (fun b=>([bv (bw g) [] bs,bK 0 0 0 0,bK 1 0 0 0,bK 2 0 0 0,aN 3 0 0 u.kids.length<|some<|u.kids.length+a,aN 3 0 0 u.kids.length<|some<|u.kids.length+a,nV u.kids.length,nV b],[aZ 8 false 0 [aw [iV u.act,iV u.item,iV u.n,iV u.kind,aj u.label,aW<|u.head.map aQ,aW<|u.words.map aQ,aW<|u.kids.map aY]],aZ 3 false 0 [aw [iV p.a,iV p.i,iV p.n]],aZ 8 false 0 [aw [iV 0,iV 0,iV 0,iV 0,aj [],ab,ab,ab]],aZ 8 false 0<|(u.kids++List.replicate a be).map aY])) (fun a=>a≤u.kids.length∧jc p f u.kids a (u.kids.drop a)) (fun a=>u.kids.length-a) (by simp_all[jc.start]) fun b hx0 c=>have hx0:b≤u.kids.length∧jc p f u.kids b (u.kids.drop b):=hx0;have q0:b<u.kids.length→gD (u.kids++List.replicate a be) b=gD u.kids b:=fun h=>VB h;Ka 0 (Int.ofNat b) (Int.ofNat u.kids.length) (fun _ _=>K1 0 .rix (et (aK 0) (sA:b<u.kids.length))<|Mr (et (aK 0)<|rN aY (g:=Go.Ev.eU) aD (gR:b<(u.kids++List.replicate a be).length))<|Kp 4 (hf (gD (u.kids++List.replicate a be) b)<|by grind[fp])<|Kb 6 (b7 p<|gD (u.kids++List.replicate a be) b) (fun _=>Kp 4 (ih (gD (u.kids++List.replicate a be) b)<|by grind[fp])<|M1 .rix (et (aK 0) (sA:b<u.kids.length))<|M1 (.rst (aw [iV (gD (u.kids++List.replicate a be) b).act,iV (gD (u.kids++List.replicate a be) b).item,iV (gD (u.kids++List.replicate a be) b).n,iV (gD (u.kids++List.replicate a be) b).kind,aj (gD (u.kids++List.replicate a be) b).label,aW<|List.map aQ (gD (u.kids++List.replicate a be) b).head,aW<|List.map aQ (gD (u.kids++List.replicate a be) b).words,aW<|List.map aY (gD (u.kids++List.replicate a be) b).kids])<|((u.kids++List.replicate a be).set b<|bG p f<|gD (u.kids++List.replicate a be) b).map aY) (ct (aK 0) (rN aY (g:=Go.Ev.eU) aD (gR:b<(u.kids++List.replicate a be).length))<|D8 (f:=aY) (g:=Go.Ev.eU) aD (l:=u.kids++List.replicate a be) (i:=b) (w:=bG p f<|gD (u.kids++List.replicate a be) b))<|Mg 0<|M2 (.fsl 3 [3,6] 48<|(((u.kids++List.replicate a be).set b<|bG p f<|gD (u.kids++List.replicate a be) b).take u.kids.length).map aY) (kL rt rt rt ti) (ct (aK 0) (Cd (f:=aY) (l:=(u.kids++List.replicate a be).set b<|bG p f<|gD (u.kids++List.replicate a be) b) (n:=u.kids.length))<|aX ic<|((u.kids++List.replicate a be).set b<|bG p f<|gD (u.kids++List.replicate a be) b).take u.kids.length)<|Ml 48 (fG ((((u.kids++List.replicate a be).set b<|bG p f<|gD (u.kids++List.replicate a be) b).take u.kids.length).map aY) (oC (some<|u.kids.length+a)<|some u.kids.length)<|aX ic<|((u.kids++List.replicate a be).set b<|bG p f<|gD (u.kids++List.replicate a be) b).take u.kids.length)<|Kf 3 (aR (.cons (bu _)<|.cons (bu _)<|.cons (bu _)<|.cons (bu _)<|.cons (bu _)<|.cons (bu _)<|.cons (bu _)<|.cons (cJ<|rr0<|(((u.kids++List.replicate a be).set b<|bG p f<|gD (u.kids++List.replicate a be) b).take u.kids.length).map aY) .nil)<|by kernel_rfl:Le _ (AV.agg [iV u.act,iV u.item,iV u.n,iV u.kind,AV.str u.label,AV.ls (u.head.map aQ),AV.ls (u.words.map aQ),AV.ls ((((u.kids++List.replicate a be).set b (bG p f (gD (u.kids++List.replicate a be) b))).take u.kids.length).map aY)]))) fun _=>Kl 0 47 (ji b)<|Mg 0<|M2 (.frl 4 [3,4,6,7,26,27,28] [2]) (It (Pr (sz:=8) (op:=false) (ep:=0) (n:=4)<|aX ic<|u.kids++List.replicate a be) rt rt rt ti) (et (oA:(AV.func (Fn.func g) [] bs).top≤4) ti)<|Mf<|c (b+1) (by grind[Zq]) gR) fun _ _=>Mg 0<|M2 (.fsl 3 [3,6] 48<|((u.kids++List.replicate a be).take u.kids.length).map aY) (kL rt rt rt ti) (ct (aK 0) (Cd (f:=aY) (l:=u.kids++List.replicate a be) (n:=u.kids.length))<|aX ic<|(u.kids++List.replicate a be).take u.kids.length)<|Ml 48 (fG (((u.kids++List.replicate a be).take u.kids.length).map aY) (oC (some<|u.kids.length+a)<|some u.kids.length)<|aX ic<|(u.kids++List.replicate a be).take u.kids.length)<|Kf 3 (aR (.cons (bu _)<|.cons (bu _)<|.cons (bu _)<|.cons (bu _)<|.cons (bu _)<|.cons (bu _)<|.cons (bu _)<|.cons (cJ<|rr0<|((u.kids++List.replicate a be).take u.kids.length).map aY) .nil)<|by kernel_rfl:Le _ (AV.agg [iV u.act,iV u.item,iV u.n,iV u.kind,AV.str u.label,AV.ls (u.head.map aQ),AV.ls (u.words.map aQ),AV.ls (((u.kids++List.replicate a be).take u.kids.length).map aY)]))
theorem ig{g:Nat}{bs:List AV}{p:PId}(hb:aq bs=0)(x:TUnit):aq [eU x,aJ p,.func (.func g) [] bs]=0:=by
  have h1:(eU x).top=0:=by rw[←aD];exact ic x
  have h2:(AV.func (.func g) [] bs).top=0:=by simp only[AV.top,aq,hb];rfl
  exact kU.2 fun y hy=>by
    simp only[ed,List.mem_nil_iff,or_false]at hy
    rcases hy with rfl|rfl|rfl
    · omega
    · exact AP p
    omega
/-- with: the first unit of the number is changed, wherever it stands. -/
theorem pW(g:Nat)(bs:List AV)(p:PId)(f:TUnit→TUnit)(hb:aq bs=0):∀(u:TUnit),nU u≤2^19→(∀x,x∈bW u→x.head.length<2^30∧x.words.length<2^30)→
    (∀v,v∈bW u→fI p v=true→kP 138 [eU v,aJ p,.func (.func g) [] bs] (eU (f v)))→kP 138 [eU u,aJ p,.func (.func g) [] bs] (eU (bG p f u)):=by
  refine TUnit.ind fun u ih hn ht hit=>?_
  have hA:=ig (g:=g) (bs:=bs) (p:=p) hb
  cases hi:fI p u with
  |true=>grind[jN,bq]
  | false=>
    have hkl:=bz u
    rw[iQ hi]
    by_cases h0:u.kids=[]
    · have e:iU u (dn p f u.kids)=u:=by rw[h0,pJ];cases u;simp only[TUnit.kids]at h0;subst h0;rfl
      rw[e]
      exact Z2 g bs p u (hA u) (by simp only[AV.top,aq,hb];rfl) hi (by simp_all) (by rw[h0];rfl)
    · exact Z1 g bs p f u (hA u) (by simp only[AV.top,aq,hb];rfl) hi h0 (by omega) (fun k hk=>SU p k (by have:=gI hk;omega) fun x hx=>ht x (bX hk hx))
        fun k hk=>ih k hk (by have:=gI hk;omega) (fun x hx=>ht x (bX hk hx)) fun v hv=>hit v (bX hk hv)
theorem Bx{bs:List AV}(rs:List Nat)(h0:gY rs 0=0)(hb:aq bs=0):ma (gY rs) (.ptr 0 0 0 0::bs)=.ptr 0 0 0 0::bs:=by
  grind[ma,Ev.ren,fV]
theorem A5{g:Nat}{bs:List AV}{u u2:TUnit}{n n2 c:Nat}{X X2:List AV}{A B:AObj}(hb:aq bs=0)(hX:aq X=0)(hX2:aq X2=0)(h:kD g (.ptr 0 0 0 0::bs) (aa [dH u (.slice 1 0 0 n (some c)),dI X]) (.tuple []) (aa [dH u2 (.slice 1 0 0 n2 (some c)),dI X2])):
    kD g (.ptr 0 0 0 0::bs) (aa [dH u (.slice 3 0 0 n (some c)),A,B,dI X]) (.tuple []) (aa [dH u2 (.slice 3 0 0 n2 (some c)),A,B,dI X2]):=
  pS jY [0,3] h (Bx _ rfl hb) rfl rfl ⟨⟨rfl,vi (by kernel_rfl)⟩,⟨rfl,by show aq X≤2;omega⟩,trivial⟩ ⟨⟨rfl,vi (by kernel_rfl)⟩,⟨rfl,by show aq X2≤2;omega⟩,trivial⟩
    (by show Nat.mx _ (aq bs)≤2;rw[hb];exact vi (by kernel_rfl)) (bP _) ⟨by kernel_rfl,by rw[vL hX];kernel_rfl,trivial⟩ ⟨by kernel_rfl,by kernel_rfl,trivial⟩
    (by show _=AHeap.put (AHeap.put _ _ _) _ (ka _ (.row 8 false 0 X2));rw[vL hX2];kernel_rfl)
theorem Dy{g:Nat}{bs:List AV}{u u2:TUnit}{n c:Nat}{X Y:List AV}{A B:AObj}(hb:aq bs=0)(hX:aq X=0)(h:kD g (.ptr 0 0 0 0::bs) (aa [dH u (.slice 1 0 0 n (some c)),dI X]) (.tuple []) (aa [dH u2 (.ls Y),dI X])):
    kD g (.ptr 0 0 0 0::bs) (aa [dH u (.slice 3 0 0 n (some c)),A,B,dI X]) (.tuple []) (aa [dH u2 (.ls Y),A,B,dI X]):=
  pS jY [0,3] h (Bx _ rfl hb) rfl rfl ⟨⟨rfl,vi (by kernel_rfl)⟩,⟨rfl,by show aq X≤2;omega⟩,trivial⟩ ⟨⟨rfl,vi (by kernel_rfl)⟩,⟨rfl,by show aq X≤2;omega⟩,trivial⟩
    (by show Nat.mx _ (aq bs)≤2;rw[hb];exact vi (by kernel_rfl)) (bP _) ⟨by kernel_rfl,by rw[vL hX];kernel_rfl,trivial⟩ ⟨by kernel_rfl,by kernel_rfl,trivial⟩
    (by show _=AHeap.put (AHeap.put _ _ _) _ (ka _ (.row 8 false 0 X));rw[vL hX];kernel_rfl)
theorem j9{g:Nat}{bs:List AV}{u u2:TUnit}{A B:AObj}{K K2:AV}(hb:aq bs=0)(h1:aq [.agg [iV u.act,iV u.item,iV u.n,iV u.kind,.str u.label,.ls (u.head.map aQ),.ls (u.words.map aQ),K]]=0)(h2:aq [.agg [iV u2.act,iV u2.item,iV u2.n,iV u2.kind,.str u2.label,.ls (u2.head.map aQ),.ls (u2.words.map aQ),K2]]=0)(h:kD g (.ptr 0 0 0 0::bs) (aa [dH u K]) (.tuple []) (aa [dH u2 K2])):
    kD g (.ptr 0 0 0 0::bs) (aa [dH u K,A,B]) (.tuple []) (aa [dH u2 K2,A,B]):=
  fD jY 0 h1 h2 h (Bx _ rfl hb) rfl rfl (by simp only[aq,AV.top,hb];rfl) rfl (by kernel_rfl) (by kernel_rfl)
/-- The unit is found; it has kids; a kid more is laid into its row, or into a new one. -/
theorem L4(g:Nat)(bs:List AV)(p:PId)(u u2:TUnit)(n2:Nat)(Z:Nat→List AV)(hA:aq [eU u,aJ p,.func (.func g) [] bs]=0)(hp:(ak u.act p.a&&(ak u.item p.i&&ak u.n p.n))=true)(hl:u.kids.length≤2^20)(hne:u.kids≠[])(hn2:u2.kids.length=n2)
    (hdA:∀k,By (Nat.beq k 0) true→kD g (.ptr 0 0 0 0::bs) (aa [dH u (.slice 3 0 0 u.kids.length (some (u.kids.length+k))),vN p,zO,dI ((u.kids++List.replicate k be).map aY)]) (.tuple []) (aa [dH u2 (.ls (u2.kids.map aY)),vN p,zO,dI ((u.kids++List.replicate k be).map aY)]))
    (hdB:∀k,By (Nat.beq k 0) false→kD g (.ptr 0 0 0 0::bs) (aa [dH u (.slice 3 0 0 u.kids.length (some (u.kids.length+k))),vN p,zO,dI ((u.kids++List.replicate k be).map aY)]) (.tuple []) (aa [dH u2 (.slice 3 0 0 n2 (some (u.kids.length+k))),vN p,zO,dI (u2.kids.map aY++Z k)])):kP 138 [eU u,aJ p,.func (.func g) [] bs] (eU u2):=by
  let q:=aw [iV u2.act,iV u2.item,iV u2.n,iV u2.kind,aj u2.label,aW (u2.head.map aQ),aW (u2.words.map aQ),aW (u2.kids.map aY)];let q1:=[aw [iV u.act,iV u.item,iV u.n,iV u.kind,aj u.label,aW (u.head.map aQ),aW (u.words.map aQ),aW (u.kids.map aY)]];let q2:=[iV p.a,iV p.i,iV p.n];let q3:=[aw [iV 0,iV 0,iV 0,iV 0,aj [],ab,ab,ab]];exact bF (ht:=oA) Tryz.func138<|Kv 5 (l9 ((Tryz.prog).underlying 27) u.act u.item u.n p.a p.i p.n<|aa [aZ 8 false 0 q1,aZ 3 false 0 [aw q2],aZ 8 false 0 q3])<|Mt hp<|Mg 1<|Mq (E9 u.kids hne hl (aZ 8 false 0 q1) (aZ 3 false 0 [aw q2])<|aZ 8 false 0 q3) fun a _=>Ks 2 (a.beq 0) (fun b=>Me (hdA a b)<|Kf 1<|bu q) fun b=>Me (hdB a b)<|M2 (.fza 0 7 3 [3,6]<|u2.kids.map aY) (kL rt rt rt ti) (ct (aK 0) (PC (xs:=List.map aY u2.kids) (ys:=Z a) (n:=n2) sA)<|aX ic u2.kids)<|Kf 1<|bu q
/-- The unit is found; it has no kids; it gets one. -/
theorem L5(g:Nat)(bs:List AV)(p:PId)(u u2:TUnit)(hA:aq [eU u,aJ p,.func (.func g) [] bs]=0)(hp:(ak u.act p.a&&(ak u.item p.i&&ak u.n p.n))=true)(h0:u.kids=[])
    (hdN:kD g (.ptr 0 0 0 0::bs) (aa [dH u .nils,vN p,zO]) (.tuple []) (aa [dH u2 (.ls (u2.kids.map aY)),vN p,zO]))
    (hdP:kD g (.ptr 0 0 0 0::bs) (aa [dH u (.ps [] true),vN p,zO]) (.tuple []) (aa [dH u2 (.ls (u2.kids.map aY)),vN p,zO])):kP 138 [eU u,aJ p,.func (.func g) [] bs] (eU u2):=by
  obtain⟨a,i,n,k,l,h,w,ks⟩:=u
  simp only[TUnit.kids]at h0
  subst h0
  let q:=aw [iV u2.act,iV u2.item,iV u2.n,iV u2.kind,aj u2.label,aW (u2.head.map aQ),aW (u2.words.map aQ),aW (u2.kids.map aY)];let q1:=[iV p.a,iV p.i,iV p.n];exact bF (ht:=oA) Tryz.func138<|Kv 5 (l9 ((Tryz.prog).underlying 27) (TUnit.mk a i n k l h w []).act (TUnit.mk a i n k l h w []).item (TUnit.mk a i n k l h w []).n p.a p.i p.n<|aa [aZ 8 false 0 [aw [iV (TUnit.mk a i n k l h w []).act,iV (TUnit.mk a i n k l h w []).item,iV (TUnit.mk a i n k l h w []).n,iV (TUnit.mk a i n k l h w []).kind,aj l,aW<|List.map aQ (TUnit.mk a i n k l h w []).head,aW<|List.map aQ (TUnit.mk a i n k l h w []).words,aW []]],aZ 3 false 0 [aw q1],aZ 8 false 0 [aw [iV 0,iV 0,iV 0,iV 0,aj [],ab,ab,ab]]])<|Mt hp<|Mg 1<|Mz 17 (fun(_:([]:List AV)=[])=>Mp IX<|Ke 2 hdN<|Kf 1<|bu q)<|Mp IZ<|Ke 2 hdP<|Kf 1<|bu q
theorem kY{a b:List AV}(h1:aq a=0)(h2:aq b=0):aq (a++b)=0:=kU.2 fun x hx=>by
  rcases jg.1 hx with h|h
  · exact kU.1 h1 x h
  · exact kU.1 h2 x h
theorem SV(l:List TUnit):dF 8 (l.map aY)=true:=fT (fun u=>by cases u;rfl) l
theorem VN(x:TUnit):dF 8 [eU x]=true:=by kernel_rfl
theorem Ou(x:TUnit):(eU x).top=0:=by rw[←aD];exact ic x
theorem tP{i:Nat}{x:TUnit}{l:List AV}(h:aq l=0):aq (gN i (eU x) l)=0:=kU.2 fun y hy=>by
  unfold gN at hy
  rcases jg.1 hy with h1|h1
  · exact kU.1 h y (tF h1)
  · rcases ed.1 h1 with rfl|h1
    · exact Ou x
    · exact kU.1 h y (PU h1)
theorem L1(i:Nat)(x:TUnit)(l:List TUnit):(rz i x l).map aY=gN i (eU x) (l.map aY):=by
  unfold rz gN
  rw[m0,dl,List.map_take,List.map_drop,aD]
theorem MA(i:Nat)(l:List TUnit):(l.eraseIdx i).map aY=(l.map aY).eraseIdx i:=by
  grind[List.eraseIdx_eq_take_drop_succ,List.map_take,List.map_drop]
theorem C8{i:Nat}{x:TUnit}{l:List TUnit}(h:i≤l.length):(rz i x l).length=l.length+1:=by
  grind[rz]
theorem GT(l:List TUnit)(k:Nat):(l++List.replicate k be).map aY=l.map aY++List.replicate k (aY be):=by simp_all
theorem mo(k:Nat):aq (List.replicate k (aY be))=0:=by rw[←List.map_replicate];exact aX ic _
/-- A kid is taken out. -/
theorem Pb(p:PId)(i:Nat)(u:TUnit)(hn:nU u≤2^19)(ht:∀x,x∈bW u→x.head.length<2^30∧x.words.length<2^30)(hv:∀v,v∈bW u→fI p v=true→i<v.kids.length):
    bQ Tryz.prog G 138 [eU u,aJ p,.func (.func 236) [] [.pptr [.int .i64 (.ofNat i)] 0 0]] (eU (bG p (dg i) u)):=by
  refine pW _ _ p (dg i) rfl u hn ht fun v hm hid=>?_
  have hi:=hv v hm hid
  have hkl:=bz v
  have hvu:=eJ hm
  have hl:v.kids.length≤2^20:=by omega
  refine Vo _ _ p v (dg i v) (v.kids.length-1) (fun k=>zU::List.replicate k (aY be)) (ig rfl v) hid hl (fun e=>by grind) (by show(v.kids.eraseIdx i).length=_;grind) fun k=>?_
  have h:=Su (v.kids.map aY) (List.replicate k (aY be)) v.kids.length i hi (cK _) hl (SV _) (kY (aX ic _) (mo k))
  rw[qp]at h
  have hT:aq ((v.kids.map aY).eraseIdx i++(zU::List.replicate k (aY be)))=0:=kY (by rw[←MA];exact aX ic _) (by show Nat.mx zU.top (aq _)=0;rw[mo];rfl)
  rw[GT]
  show aI _ _ _ _ _ fun v1 h1=>v1=.tuple []∧h1=aa [dH v (.slice 3 0 0 (v.kids.length-1) (some (v.kids.length+k))),vN p,zO,dI ((v.kids.eraseIdx i).map aY++_)]
  rw[MA]
  refine A5 rfl (kY (aX ic _) (mo k)) hT (ZU v v.kids.length _ i _ _ (kY (aX ic _) (mo k)) hT hi hl ?_)
  exact fD jY 1 (kY (aX ic _) (mo k)) hT h rfl rfl (by simp_all) (by kernel_rfl) (by kernel_rfl) (by kernel_rfl) (by kernel_rfl)
theorem XF(x:TUnit)(t:Bool)(off len c:Nat)(X:List AV):kD 234 [.ps [eU x] t,.slice 0 0 off len (some c)] (aa [dI X]) (.bool false) (aa [dI X]):=
  BH (tS:=29) (tR:=4) (e:=31) (n:=8) Tryz.func234 (by kernel_rfl) (by kernel_rfl) (by kernel_rfl) (by kernel_rfl) (by simp_all) (by kernel_rfl) (jd _ _) (by kernel_rfl:(aa [dI X]).get 0=some (.row 8 false 0 X))
/-- A kid laid into a row that has room. -/
theorem G5(L:List AV)(x:TUnit)(z:AV)(Z:List AV)(n k i:Nat)(hi:i≤n)(hn:L.length=n)(hs:n<2^20)(hk:Z.length=k)(hf:dF 8 L=true)(hT:aq (L++z::Z)=0):kD 140 [.slice 0 0 0 n (some (n+(k+1))),nV i,.ps [eU x] true] (aa [dI (L++z::Z)]) (.slice 0 0 0 (n+1) (some (n+(k+1)))) (aa [dI (gN i (eU x) L++Z)]):=by
  rcases gX i n with h|h
  · grind[Rh,VN,XF]
  · obtain rfl:i=n:=by omega
    exact Rl L Z (eU x) z true i k hn hs hk (VN x)
theorem G8(L:List AV)(x:TUnit)(n i:Nat)(hi:i≤n)(hn:L.length=n)(hs:n<2^20)(hf:dF 8 L=true)(hT:aq L=0):kD 140 [.slice 0 0 0 n (some n),nV i,.ps [eU x] true] (aa [dI L]) (.ls (gN i (eU x) L)) (aa [dI L]):=by
  rcases gX i n with h|h
  · refine Rf L (eU x) true n i h hn hs (VN x) hf hT (kU.2 fun y hy=>?_) (tP hT)
    rcases jg.1 hy with h1|h1
    · exact kU.1 hT y (tF h1)
    · rcases ed.1 h1 with rfl|h1
      · exact Ou x
      · rw[(List.mem_replicate.1 h1).2];rfl
  · grind[Ri,VN,tP]
/-- A kid is laid in. -/
theorem Py(p:PId)(i:Nat)(x u:TUnit)(hn:nU u≤2^19)(ht:∀x,x∈bW u→x.head.length<2^30∧x.words.length<2^30)(hv:∀v,v∈bW u→fI p v=true→i≤v.kids.length):
    bQ Tryz.prog G 138 [eU u,aJ p,.func (.func 139) [] [.pptr [.int .i64 (.ofNat i)] 0 0,.pptr [eU x] 0 0]] (eU (bG p (cV i x) u)):=by
  have hb:aq [.pptr [.int .i64 (.ofNat i)] 0 0,.pptr [eU x] 0 0]=0:=by kernel_rfl
  refine pW _ _ p (cV i x) hb u hn ht fun v hm hid=>?_
  have hi:=hv v hm hid
  have hkl:=bz v
  have hvu:=eJ hm
  have hl:v.kids.length<2^20:=by omega
  have hK:=aX ic v.kids
  by_cases h0:v.kids=[]
  · rw[h0]at hi
    obtain rfl:i=0:=by simp_all
    have e:(cV 0 x v).kids =[x]:=by show rz 0 x v.kids=[x];rw[h0];rfl
    have e2:(cV 0 x v).kids.map aY=[eU x]:=by rw[e,dl,aD];rfl
    refine L5 _ _ p v (cV 0 x v) (ig hb v) hid h0 ?_ ?_
    · rw[e2];exact j9 (u2:=cV 0 x v) hb (by kernel_rfl) (by kernel_rfl) (YU v x [eU x] (G7 x true))
    · rw[e2];exact j9 (u2:=cV 0 x v) hb (by kernel_rfl) (by kernel_rfl) (YY v x [eU x] (G6 x true))
  · have e2:(cV i x v).kids.map aY=gN i (eU x) (v.kids.map aY):=L1 i x v.kids
    refine L4 _ _ p v (cV i x v) (v.kids.length+1) (fun k=>List.replicate (k-1) (aY be)) (ig hb v) hid (by omega) h0 (C8 hi) (fun k hk=>?_) fun k hk=>?_
    · obtain rfl:k=0:=qZ hk
      rw[e2,GT,List.replicate_zero,dO]
      refine Dy (u2:=cV i x v) hb hK (Yq v x v.kids.length _ i _ _ hK ?_)
      exact fD jY 1 hK hK (G8 (v.kids.map aY) x v.kids.length i hi (cK _) hl (SV _) hK) rfl rfl (by simp_all) (by kernel_rfl) (by kernel_rfl) (by kernel_rfl) (by kernel_rfl)
    · obtain⟨j,rfl⟩:∃j,k=j+1:=⟨k-1,by grind[Nat.ne_of_beq_eq_false]⟩
      rw[e2,GT,show j+1-1=j from rfl,List.replicate_succ]
      have hT:aq (v.kids.map aY++aY be::List.replicate j (aY be))=0:=by rw[←List.replicate_succ];grind[kY,mo]
      have hT2:aq (gN i (eU x) (v.kids.map aY)++List.replicate j (aY be))=0:=kY (tP hK) (mo _)
      refine A5 (u2:=cV i x v) hb hT hT2 (Yz v x v.kids.length _ i _ _ hT hT2 ?_)
      exact fD jY 1 hT hT2 (G5 (v.kids.map aY) x (aY be) (List.replicate j (aY be)) v.kids.length j i hi (cK _) hl (qp ..) (SV _) hT) rfl rfl (by simp_all) (by kernel_rfl) (by kernel_rfl) (by kernel_rfl) (by kernel_rfl)
/-- A kid is laid in. -/
theorem Pv(p:PId)(i:Nat)(x u:TUnit)(hn:nU u≤2^19)(ht:∀x,x∈bW u→x.head.length<2^30∧x.words.length<2^30)(hv:∀v,v∈bW u→fI p v=true→i≤v.kids.length):
    bQ Tryz.prog G 138 [eU u,aJ p,.func (.func 150) [] [.pptr [.int .i64 (.ofNat i)] 0 0,.pptr [eU x] 0 0]] (eU (bG p (cV i x) u)):=by
  have hb:aq [.pptr [.int .i64 (.ofNat i)] 0 0,.pptr [eU x] 0 0]=0:=by kernel_rfl
  refine pW _ _ p (cV i x) hb u hn ht fun v hm hid=>?_
  have hi:=hv v hm hid
  have hkl:=bz v
  have hvu:=eJ hm
  have hl:v.kids.length<2^20:=by omega
  have hK:=aX ic v.kids
  by_cases h0:v.kids=[]
  · rw[h0]at hi
    obtain rfl:i=0:=by simp_all
    have e:(cV 0 x v).kids =[x]:=by show rz 0 x v.kids=[x];rw[h0];rfl
    have e2:(cV 0 x v).kids.map aY=[eU x]:=by rw[e,dl,aD];rfl
    refine L5 _ _ p v (cV 0 x v) (ig hb v) hid h0 ?_ ?_
    · rw[e2];exact j9 (u2:=cV 0 x v) hb (by kernel_rfl) (by kernel_rfl) (X1 v x [eU x] (G7 x true))
    · rw[e2];exact j9 (u2:=cV 0 x v) hb (by kernel_rfl) (by kernel_rfl) (X0 v x [eU x] (G6 x true))
  · have e2:(cV i x v).kids.map aY=gN i (eU x) (v.kids.map aY):=L1 i x v.kids
    refine L4 _ _ p v (cV i x v) (v.kids.length+1) (fun k=>List.replicate (k-1) (aY be)) (ig hb v) hid (by omega) h0 (C8 hi) (fun k hk=>?_) fun k hk=>?_
    · obtain rfl:k=0:=qZ hk
      rw[e2,GT,List.replicate_zero,dO]
      refine Dy (u2:=cV i x v) hb hK (X3 v x v.kids.length _ i _ _ hK ?_)
      exact fD jY 1 hK hK (G8 (v.kids.map aY) x v.kids.length i hi (cK _) hl (SV _) hK) rfl rfl (by simp_all) (by kernel_rfl) (by kernel_rfl) (by kernel_rfl) (by kernel_rfl)
    · obtain⟨j,rfl⟩:∃j,k=j+1:=⟨k-1,by grind[Nat.ne_of_beq_eq_false]⟩
      rw[e2,GT,show j+1-1=j from rfl,List.replicate_succ]
      have hT:aq (v.kids.map aY++aY be::List.replicate j (aY be))=0:=by rw[←List.replicate_succ];grind[kY,mo]
      have hT2:aq (gN i (eU x) (v.kids.map aY)++List.replicate j (aY be))=0:=kY (tP hK) (mo _)
      refine A5 (u2:=cV i x v) hb hT hT2 (X4 v x v.kids.length _ i _ _ hT hT2 ?_)
      exact fD jY 1 hT hT2 (G5 (v.kids.map aY) x (aY be) (List.replicate j (aY be)) v.kids.length j i hi (cK _) hl (qp ..) (SV _) hT) rfl rfl (by simp_all) (by kernel_rfl) (by kernel_rfl) (by kernel_rfl) (by kernel_rfl)
theorem Pj(p:PId)(l:List PWord)(u:TUnit)(hn:nU u≤2^19)(ht:∀x,x∈bW u→x.head.length<2^30∧x.words.length<2^30):
    kP 138 [eU u,aJ p,.func (.func 143) [] [.pptr [.ls (l.map aQ)] 0 0]] (eU (bG p (fy l) u)):=by
  have hb:aq [.pptr [.ls (l.map aQ)] 0 0]=0:=by kernel_rfl
  refine pW _ _ p (fy l) hb u hn ht fun v hm hid=>?_
  have hkl:=bz v
  have hvu:=eJ hm
  exact yi _ _ p v ((fy l) v) (ig hb v) hid (by omega) (j9 hb (by kernel_rfl) (by kernel_rfl) (ZV v l))
theorem Pw(p:PId)(l:List PWord)(u:TUnit)(hn:nU u≤2^19)(ht:∀x,x∈bW u→x.head.length<2^30∧x.words.length<2^30):
    kP 138 [eU u,aJ p,.func (.func 145) [] [.pptr [.ls (l.map aQ)] 0 0]] (eU (bG p (fy l) u)):=by
  have hb:aq [.pptr [.ls (l.map aQ)] 0 0]=0:=by kernel_rfl
  refine pW _ _ p (fy l) hb u hn ht fun v hm hid=>?_
  have hkl:=bz v
  have hvu:=eJ hm
  exact yi _ _ p v ((fy l) v) (ig hb v) hid (by omega) (j9 hb (by kernel_rfl) (by kernel_rfl) (ZB v l))
theorem Pa(p:PId)(l:List PWord)(u:TUnit)(hn:nU u≤2^19)(ht:∀x,x∈bW u→x.head.length<2^30∧x.words.length<2^30):
    kP 138 [eU u,aJ p,.func (.func 147) [] [.pptr [.ls (l.map aQ)] 0 0]] (eU (bG p (kn l) u)):=by
  have hb:aq [.pptr [.ls (l.map aQ)] 0 0]=0:=by kernel_rfl
  refine pW _ _ p (kn l) hb u hn ht fun v hm hid=>?_
  have hkl:=bz v
  have hvu:=eJ hm
  exact yi _ _ p v ((kn l) v) (ig hb v) hid (by omega) (j9 hb (by kernel_rfl) (by kernel_rfl) (aab v l))
theorem Pk(p:PId)(d:PDeed)(u:TUnit)(hn:nU u≤2^19)(ht:∀x,x∈bW u→x.head.length<2^30∧x.words.length<2^30):
    kP 138 [eU u,aJ p,.func (.func 149) [] [.pptr [aU d] 0 0]] (eU (bG p (f9 d.it.label) u)):=by
  have hb:aq [.pptr [aU d] 0 0]=0:=by kernel_rfl
  refine pW _ _ p (f9 d.it.label) hb u hn ht fun v hm hid=>?_
  have hkl:=bz v
  have hvu:=eJ hm
  exact yi _ _ p v ((f9 d.it.label) v) (ig hb v) hid (by omega) (j9 hb (by kernel_rfl) (by kernel_rfl) (Zu v d))
end Go.Proofs.YtidehekfpcgelaaGreatDoor
