/- Functions walked: what each of them answers, for the law of the book's root: part 2. Conditions: those that each theorem names. -/
import Derived.Test.YtjokefckffbpeaaGreatDoorH1
namespace Go.Proofs.YtjokefckffbpeaaGreatDoor
open Go Go.Ev
theorem lQ(u:TUnit)(s:PStep):kP 229 [eU u,az s] (.bool (bD s u)):=by
  have rr0 b' (h:(bD s u)=b':=by(simp only[bD,bq,aS,aj,bS, *];first|done|rfl)):=h;exact bI Tryz.func229<|Kb 8 (ah u.kind s.kind) (fun a=>Kt 0 a<|Kt 0 a<|Kt 0 a<|Kt 0 a<|Ku 0 a<|Kf 0<|ch<|rr0<|eJ u.label s.label) fun a=>Mh a<|Mh a<|Mh a<|Mh a<|My a<|Ky 0<|rr0 false
noncomputable abbrev jr(p:List PStep):AObj:=.row 1 false 0 [.ls (p.map az)]
noncomputable abbrev EX(ep n:Nat):AObj:=.row 1 false 0 [.slice 2 ep 0 n none]
noncomputable abbrev BU(ep:Nat)(l:List TUnit):AObj:=.row 8 true ep (l.map aV)
noncomputable abbrev M9:AObj:=.row 1 false 0 [.nils]
theorem Cl(s:PStep)(rs:List PStep)(u:TUnit)(h:By (bD s u) false):kD 228 [eU u,.ptr 0 0 0 0,.ptr 1 0 0 0] (av [jr (s::rs),M9]) (.tuple []) (av [jr (s::rs),M9]):=by
  have h':bD s u=false:=h
  exact ed Tryz.func228 fun a=>Kp 4 (lQ u s)<|Mh h'<|M1 (.frz 2 []) (bT rt rt ti)<|Mf a
theorem I1(s:PStep)(rs:List PStep)(u:TUnit)(h:By (bD s u) true):kD 228 [eU u,.ptr 0 0 0 0,.ptr 1 0 0 0] (av [jr (s::rs),M9]) (.tuple []) (av [jr (s::rs),EX 0 1,BU 0 [u]]):=by
  have h':bD s u=true:=h
  exact Jt Tryz.func228<|Kp 4 (lQ u s)<|Mt h'<|Mg 7<|M0 (.ren [0,1,3,2] [] [])<|M1 (.frz 3 []) (jv rt rt rt ti)<|Mf<|et (aY<|bP []) (by(simp only[BU,eD,wZ,aR];rfl):(av [AObj.row 1 false 0 [AV.ls ((s::rs).map az)],AObj.row 1 false 0 [AV.slice 2 0 0 1 none],AObj.row 8 true 0 [AV.agg [iV u.act,iV u.item,iV u.n,iV u.kind,AV.str u.label,AV.ls (u.head.map aQ),AV.ls (u.words.map aQ),AV.ls (u.kids.map aV)]]])=(av [jr (s::rs),EX 0 1,BU 0 [u]]))
theorem Nd(s:PStep)(rs:List PStep)(u:TUnit)(ep n:Nat)(l:List TUnit)(h:By (bD s u) false):kD 228 [eU u,.ptr 0 0 0 0,.ptr 1 0 0 0] (av [jr (s::rs),EX ep n,BU ep l]) (.tuple []) (av [jr (s::rs),EX ep n,BU ep l]):=by
  have h':bD s u=false:=h
  exact ed Tryz.func228 fun a=>Kp 4 (lQ u s)<|Mh h'<|M1 (.frz 3 []) (jv (tR 8 true ep 3<|aX iK l) rt rt ti)<|Mf a
theorem Nf(s:PStep)(rs:List PStep)(u:TUnit)(ep n:Nat)(l:List TUnit)(h:By (bD s u) true)(hn:n=l.length)(hl:l.length<2^30):kD 228 [eU u,.ptr 0 0 0 0,.ptr 1 0 0 0] (av [jr (s::rs),EX ep n,BU ep l]) (.tuple []) (av [jr (s::rs),EX (ep+1) (n+1),BU (ep+1) (l++[u])]):=by
  have h':bD s u=true:=h
  let q:=[iV 0,iV 0,iV 0,iV 0,ax [],ay,ay,ay];let q1:=List.map aV l++[aa q];exact ed Tryz.func228 fun a=>Kp 4 (lQ u s)<|Mt h'<|Mg 3<|Mw (.apx q1<|.rix<|.rst (aa q) ((l++[u]).map aV)<|.go 0<|.frz 3 [] .fin)<|WR rt (hJ (tR 8 true ep 4<|aX iK l) rt) (et (mW _ _:([aa q]:List AV)≠[]) rt) (et (bT (aY ep) (sA:n=(l.map aV).length) (by(refine aL (m:=2^31) ?_ ?_ ?_<;>(try simp only[lC,lN])<;>omega):small (n+([AV.agg [iV 0,iV 0,iV 0,iV 0,AV.str [],AV.nils,AV.nils,AV.nils]]).length) 120=true))<|aY q1) (et (aY<|ep+1) (oA:n<n+1)) rt (hJ (tR 8 true (ep+1) 4 (by exact VH _ rfl:aq q1=0)) rt) (bT (aY<|ep+1) (PR (f:=aV) (l:=l) (z:=aa q) (oA:n=(l).length))<|PW (f:=aV) (g:=Go.Ev.eU) aR (l:=l) (z:=aa q) (w:=u) (oA:n=(l).length)) (jv (tR 8 true (ep+1) 3<|aX iK<|l++[u]) rt rt ti) a
theorem G3(s:PStep)(rs:List PStep):∀(u:TUnit),∀(ep n:Nat)(l:List TUnit),n=l.length→l.length+nU u<2^30→kC 227 [eU u,.func (.func 228) [] [.ptr 0 0 0 0,.ptr 1 0 0 0]] (av [jr (s::rs),EX ep n,BU ep l])
    (fun v h=>∃y:Nat×Nat×List TUnit,(y.2.1=y.2.2.length∧y.2.2=l++lj s u)∧v=.tuple []∧h=av [jr (s::rs),EX y.1 y.2.1,BU y.1 y.2.2]):=by
  refine TUnit.ind fun u ih ep n l hn hl=>?_
  have hq:=jK u
  have hkl:=bg u
  have hp:=zQ s u
  rcases Bool.eq_false_or_eq_true (bD s u)with hc|hc
  · rw[hc]at hp
    exact qY Tryz.func227 fun a=>K1 2 (.frz 3 [1,2,6,7]) (jv (tR 8 true ep 3<|aX iK l) rt rt ti)<|Me (Nf s rs u ep n l hc hn oA)<|Kl 2 11 (ln aV u.kids)<|Mg 0<|VZ aV u.kids (ep+1) (n+1) (l++[u]) [1,10,11,12] (fun a _ b c d=>([bY (bV 228) [] [bz 0 0 0 0,bz 1 0 0 0],aW<|u.kids.map aV,nV u.kids.length,nV a],[aZ 1 false 0 [aW<|(s::rs).map az],aZ 1 false 0 [aD 2 b 0 c none],aZ 8 true b<|d.map aV])) (fun a _ b c=>b=c.length∧c++dj s a=l++[u]++dj s u.kids∧c.length+eW a<2^30) gR (fun _ _ b c d _ _ _ e _=>Kh 0 e<|Mf<|a (b,c,d)<|by grind[mH]) fun a _ b c d e f g i j k m _ o _=>have o:=(o).trans<|congrArg some<|aR g;have:=ca (J:=fun a b=>b.2.1=b.2.2.length∧b.2.2++dj s a=l++[u]++dj s u.kids∧b.2.2.length+eW a<2^30) (a:=(b,c,d)) k f;have e:=bQ e k;have f:d.length+nU g<2^30:=(by grind[bf]);Kt 0 m<|Mx o<|K1 4 (.frz 3 [1,10,11,12,16,17]) (jv (tR 8 true b 3<|aX iK d) rt rt ti)<|Mq (ih g e b c d oA f) fun b _=>Kl 0 19 (dc a)<|Kf 0<|j b.1 b.2.1 b.2.2<|by grind[bf,gG,md]
  · rw[hc]at hp
    exact qY Tryz.func227 fun a=>K1 2 (.frz 3 [1,2,6,7]) (jv (tR 8 true ep 3<|aX iK l) rt rt ti)<|Me (Nd s rs u ep n l hc)<|Kl 2 11 (ln aV u.kids)<|Mg 0<|VZ aV u.kids ep n l [1,10,11,12] (fun a _ b c d=>([bY (bV 228) [] [bz 0 0 0 0,bz 1 0 0 0],aW<|u.kids.map aV,nV u.kids.length,nV a],[aZ 1 false 0 [aW<|(s::rs).map az],aZ 1 false 0 [aD 2 b 0 c none],aZ 8 true b<|d.map aV])) (fun a _ b c=>b=c.length∧c++dj s a=l++dj s u.kids∧c.length+eW a<2^30) gR (fun _ _ b c d _ _ _ e _=>Kh 0 e<|Mf<|a (b,c,d)<|by grind[mH]) fun a _ b c d e f g i j k m _ o _=>have o:=(o).trans<|congrArg some<|aR g;have:=ca (J:=fun a b=>b.2.1=b.2.2.length∧b.2.2++dj s a=l++dj s u.kids∧b.2.2.length+eW a<2^30) (a:=(b,c,d)) k f;have e:=bQ e k;have f:d.length+nU g<2^30:=(by grind[bf]);Kt 0 m<|Mx o<|K1 4 (.frz 3 [1,10,11,12,16,17]) (jv (tR 8 true b 3<|aX iK d) rt rt ti)<|Mq (ih g e b c d oA f) fun b _=>Kl 0 19 (dc a)<|Kf 0<|j b.1 b.2.1 b.2.2<|by grind[bf,gG,md]
theorem G4(s:PStep)(rs:List PStep):∀(u:TUnit),nU u≤2^20→By (lj s u).isEmpty true→kD 227 [eU u,.func (.func 228) [] [.ptr 0 0 0 0,.ptr 1 0 0 0]] (av [jr (s::rs),M9]) (.tuple []) (av [jr (s::rs),M9]):=by
  refine TUnit.ind fun u ih hn he=>?_
  have hkl:=bg u
  have hp:=zQ s u
  have he':=yj.1 (show(lj s u).isEmpty=true from he)
  rw[he']at hp
  rcases Bool.eq_false_or_eq_true (bD s u)with hc|hc
  · grind
  · rw[hc]at hp
    have hp:dj s u.kids=[]:=hp.symm
    exact ed Tryz.func227 fun a=>K1 2 (.frz 2 [1,2,6,7]) (bT rt rt ti)<|Me (Cl s rs u hc)<|Kl 2 11 (ln aV u.kids)<|Mg 0<|uT aV u.kids [1,10,11,12] (fun a _=>([bY (bV 228) [] [bz 0 0 0 0,bz 1 0 0 0],aW<|u.kids.map aV,nV u.kids.length,nV a],[aZ 1 false 0 [aW<|(s::rs).map az],aZ 1 false 0 [ay]])) (fun a=>dj s a=[]) oA (fun _ _ _ _ _ b _=>Kh 0 b<|Mf a) fun a _ b _ c d e f g _ h i=>have h:=h.trans<|congrArg some<|aR c;have j:=bQ b f;have b:=bR (tZ<|iE<|bQ b f) hn;have f:(lj s c).isEmpty=true:=(by rw[gG]at i;rw[(List.append_eq_nil_iff.1 i).1];rfl);Kt 0 g<|Mx h<|K1 4 (.frz 2 [1,10,11,12,16,17]) (bT rt rt ti)<|Me (ih c j b f)<|Kl 0 19 (dc a)<|Kf 0<|e<|by grind[gG]
theorem Rw(s:PStep)(rs:List PStep):∀(u:TUnit),nU u≤2^20→By (lj s u).isEmpty false→kC 227 [eU u,.func (.func 228) [] [.ptr 0 0 0 0,.ptr 1 0 0 0]] (av [jr (s::rs),M9])
    (fun v h=>∃y:Nat×Nat×List TUnit,(y.2.1=y.2.2.length∧y.2.2=lj s u)∧v=.tuple []∧h=av [jr (s::rs),EX y.1 y.2.1,BU y.1 y.2.2]):=by
  refine TUnit.ind fun u ih hn he=>?_
  have hq:=jK u
  have hkl:=bg u
  have hp:=zQ s u
  rcases Bool.eq_false_or_eq_true (bD s u)with hc|hc
  · rw[hc]at hp
    exact qY Tryz.func227 fun a=>K1 2 (.frz 2 [1,2,6,7]) (bT rt rt ti)<|Me (I1 s rs u hc)<|Kl 2 11 (ln aV u.kids)<|Mg 0<|VZ aV u.kids (0:Nat) (1:Nat) ([u]:List TUnit) [1,10,11,12] (fun a _ b c d=>([bY (bV 228) [] [bz 0 0 0 0,bz 1 0 0 0],aW<|u.kids.map aV,nV u.kids.length,nV a],[aZ 1 false 0 [aW<|(s::rs).map az],aZ 1 false 0 [aD 2 b 0 c none],aZ 8 true b<|d.map aV])) (fun a _ b c=>b=c.length∧c++dj s a=[u]++dj s u.kids∧c.length+eW a<2^30) gR (fun _ _ b c d _ _ _ e _=>Kh 0 e<|Mf<|a (b,c,d)<|by grind[mH]) fun a _ b c d e f g i j k l _ m _=>have m:=(m).trans<|congrArg some<|aR g;have:=ca (J:=fun a b=>b.2.1=b.2.2.length∧b.2.2++dj s a=[u]++dj s u.kids∧b.2.2.length+eW a<2^30) (a:=(b,c,d)) k f;have:=bQ e k;have e:d.length+nU g<2^30:=(by grind[bf]);Kt 0 l<|Mx m<|K1 4 (.frz 3 [1,10,11,12,16,17]) (jv (tR 8 true b 3<|aX iK d) rt rt ti)<|Mq (G3 s rs g b c d oA e) fun b _=>Kl 0 19 (dc a)<|Kf 0<|j b.1 b.2.1 b.2.2<|by grind[bf,gG,md]
  · rw[hc]at hp
    have hne:dj s u.kids≠[]:=fun e=>by
      simp_all
    exact qY Tryz.func227 fun a=>K1 2 (.frz 2 [1,2,6,7]) (bT rt rt ti)<|Me (Cl s rs u hc)<|Kl 2 11 (ln aV u.kids)<|Mg 0<|kg Nat Nat (List TUnit) aV u.kids [1,10,11,12] (fun a _=>([bY (bV 228) [] [bz 0 0 0 0,bz 1 0 0 0],aW<|u.kids.map aV,nV u.kids.length,nV a],[aZ 1 false 0 [aW<|(s::rs).map az],aZ 1 false 0 [ay]])) (fun a _ b c d=>([bY (bV 228) [] [bz 0 0 0 0,bz 1 0 0 0],aW<|u.kids.map aV,nV u.kids.length,nV a],[aZ 1 false 0 [aW<|(s::rs).map az],aZ 1 false 0 [aD 2 b 0 c none],aZ 8 true b<|d.map aV])) (fun a=>a≠[]∧dj s a=dj s u.kids) (fun a _ b c=>b=c.length∧c++dj s a=dj s u.kids∧c.length+eW a<2^30) (by(exact⟨KY rfl hne,rfl⟩)) (fun _ _ _ _ _ _ _=>Mw .abs (sA:False)) (fun a _ b c d f g i j k _ l _=>have l:=(l).trans<|congrArg some<|aR d;have:=ca (J:=fun a _=>a≠[]∧dj s a=dj s u.kids) (a:=()) j c;have c:=bQ b j;have m:=bR (tZ<|iE<|bQ b j) hn;have:nU d+eW f≤2^20:=(by have z:=oS b j;omega);Kt 0 k<|Mx l<|K1 4 (.frz 2 [1,10,11,12,16,17]) (bT rt rt ti)<|Ms (lj s d).isEmpty (fun b=>Me (G4 s rs d m b)<|Kl 0 19 (dc a)<|Kf 0<|g<|by(have e:dj s f=dj s u.kids:=(by grind[gG]);exact⟨KY e hne,e⟩)) fun b=>Mq (ih d c m b) fun b _=>Kl 0 19 (dc a)<|Kf 0<|i b.1 b.2.1 b.2.2<|by grind[gG,md]) (fun _ _ b c d _ _ _ f g=>Kh 0 f<|Mf<|a (b,c,d)<|by(refine⟨g.1,?_⟩;have:=g.2.1;rw[mH,ec]at this;simp_all)) fun a _ b c d f g i j _ k l m _ n _=>have n:=(n).trans<|congrArg some<|aR i;have:=ca (J:=fun a b=>b.2.1=b.2.2.length∧b.2.2++dj s a=dj s u.kids∧b.2.2.length+eW a<2^30) (a:=(b,c,d)) l g;have:=bQ f l;have:=bR (tZ<|iE<|bQ f l) hn;have:nU i+eW j≤2^20:=(by have z:=oS f l;omega);Kt 0 m<|Mx n<|K1 4 (.frz 3 [1,10,11,12,16,17]) (jv (tR 8 true b 3<|aX iK d) rt rt ti)<|Mq (G3 s rs i b c d oA<|by grind[bf]) fun b _=>Kl 0 19 (dc a)<|Kf 0<|k b.1 b.2.1 b.2.2<|by grind[gG,md]
theorem UU(u:TUnit)(hb:kB []=true):kP 191 [eU u,.ls (([]:List PStep).map az)] (.ls ((eQ u []).map aV)):=by
  have hv:=uR [] (by simp) (fun s h=>by grind)
  rw[Gf hb]
  have rr0 b' (h:(List.map aV [u])=b':=by(rw[eD,aR];rfl)):=h;let q:=[aa [iV u.act,iV u.item,iV u.n,iV u.kind,ax u.label,aW (u.head.map aQ),aW (u.words.map aQ),aW (u.kids.map aV)]];exact bI Tryz.func191<|Kp 3 hv<|Kf 10 (Le.lsp (rr0 q)<|by rfl:Le _ (AV.ps q true))
def Gi(u:TUnit)(s:PStep)(rs:List PStep)(z1000:List TUnit):Prop:=eQ u (s::rs)=ge rs z1000∧eW z1000≤2^22
noncomputable def Gh(u:TUnit)(s:PStep)(rs:List PStep)(z1000:List TUnit):List AV×List AObj:=([AV.ptr 0 0 0 0,AV.ptr 1 0 0 0],[AObj.row 1 false 0 [AV.ls ((s::rs).map az)],AObj.row 1 false 0 [AV.ls (z1000.map aV)]])
theorem QS(u:TUnit)(s:PStep)(rs:List PStep)(hn:nU u≤2^11)(hl:(s::rs).length<2^40)(hs:∀x,x∈s::rs→x.label.length≤2^39):kP 191 [eU u,.ls ((s::rs).map az)] (.ls ((eQ u (s::rs)).map aV)):=by
  have hv:=uR (s::rs) hl hs
  have hk:=Ho s
  have hpb:=FE s u fun x hx=>dO hx
  have hpm:nU u*nU u≤2^11*2^11:=Nat.mul_le_mul hn hn
  have hd:((s::rs).drop 1).length=rs.length:=rfl
  have rr0 b' (h:((eQ u (s::rs)).map aV)=b':=by first|rfl|(rw[I0 ‹_›];rfl)|(rw[hj0.1,H4])):=h;exact bI Tryz.func191<|Kp 3 hv<|Kn 0 (kB<|s::rs) (fun _=>Kf 0 (Le.lsn<|rr0 []:Le _ (ay))) fun _=>Mg 0<|Mj (List TUnit) [3,5] (Gh u s rs) (Gi u s rs) (fun a=>Kl 1 21 (ln az<|s::rs)<|Kp 5 hk<|Kb 0 (ah s.kind 0&&eJ s.label []) (fun _=>Kl 1 31 (Le.lsp (t:=true) (Eq.symm<|FL (f:=aV) (g:=Go.Ev.eU) (ws:=[u]) aR) (aY 0:aq ([aa [iV u.act,iV u.item,iV u.n,iV u.kind,ax u.label,aW (u.head.map aQ),aW (u.words.map aQ),aW (u.kids.map aV)]])=0))<|Mg 0<|M0 (.ren [1,2,0] [] [3,5])<|M1 (.frz 2 [3,5]) (bT rt rt ti)<|Mf<|a [u] (by exact⟨Gg (by omega) (by assumption),by grind[bf,mU]⟩:eQ u (s::rs)=ge rs [u]∧eW [u]≤2^22)) fun _=>Mg 1<|M0 (.ren [1,2,0] [] [3,5,16,17])<|M1 (.frz 2 [3,5,16,17]) (bT rt rt ti)<|Ms (lj s u).isEmpty (fun b=>Me (G4 s rs u oA b)<|M1 (.obw 1<|aW []) (WQ be rfl rfl)<|Mf<|a [] (by exact⟨by rw[wS (by omega) (by assumption),yj.1 b],by grind⟩:eQ u (s::rs)=ge rs []∧eW []≤2^22)) fun b=>Mq (Rw s rs u oA b) fun b c=>M2 (.fzo 1 2 [3,5]<|b.2.2.map aV) (bT rt rt ti) (bT (aY b.1) (tA aV b.2.2 b.2.1 (oA:(b.2.2).length=b.2.1))<|aX iK b.2.2)<|Mf<|a b.2.2 (by exact⟨by rw[wS (by omega) (by assumption),c.2],by grind⟩:eQ u (s::rs)=ge rs b.2.2∧eW b.2.2≤2^22)) fun a b=>have:eQ u (s::rs)=ge rs a∧eW a≤2^22:=b;K1 0 (.slp<|((s::rs).drop 1).map az) (bT (hM 2 az (s::rs) fun _=>rfl) (et (sA:1≤((s::rs).map az).length) (oA:((s::rs).map az).length≤((s::rs).map az).length))<|XI (f:=az) (l:=s::rs) (k:=1))<|Kl 0 34 (ln az<|List.drop 1<|s::rs)<|Mg 0<|M0 (.ren [1,0] [] [5,33,34,35])<|M1 (.frz 1 [5,33,34,35]) (et rt ti)<|OW az (List.drop 1<|s::rs) a [5,33,34,35] (fun a _ b=>([bz 0 0 0 0,aW<|((s::rs).drop 1).map az,nV ((s::rs).drop 1).length,nV a],[aZ 1 false 0 [aW<|b.map aV]])) (fun a b=>eQ u (s::rs)=ge a b∧eW b≤2^22) sA (fun _ _ a _ _ _ b hj0=>Kh 0 b<|Kf 1<|cY<|rr0<|a.map aV) fun a _ b _ _ c d e _ f _ g hj0=>have:b.length≤eW b:=x9 _;Kt 0 f<|Mx g<|Kl 5 40 (ln aV b)<|Mg 0<|kg Nat Nat (List TUnit) aV b [5,7,8,33,34,35,39,40,41] (fun d _=>([bz 0 0 0 0,bz 1 0 0 0,ay,aW<|((s::rs).drop 1).map az,nV ((s::rs).drop 1).length,nV a,aW<|b.map aV,nV b.length,nV d],[aZ 1 false 0 [aW<|b.map aV],aZ 2 false 0 [aa [iV c.kind,ax c.label]]])) (fun d _ e f g=>([bz 0 0 0 0,bz 1 0 0 0,aD 2 e 0 f none,aW<|((s::rs).drop 1).map az,nV ((s::rs).drop 1).length,nV a,aW<|b.map aV,nV b.length,nV d],[aZ 1 false 0 [aW<|b.map aV],aZ 2 false 0 [aa [iV c.kind,ax c.label]],aZ 8 true e<|g.map aV])) (fun a=>cn c a=cn c b) (fun a _ d e=>d=e.length∧e++cn c a=cn c b∧e.length+eW a<2^30) (by rfl) (fun _ _ _ _ _ b c=>Kh 0 b<|Kl 0 61 be<|Kl 1 62 (dc a)<|K1 0 (.frz 1 [5,33,34,35]) (et rt ti)<|Mf<|e []<|by exact fA hj0 c) (fun d _ e f g i j k l n _ o _=>have p:=(o).trans<|congrArg some<|aR g;have:=ca (J:=fun a _=>cn c a=cn c b) (a:=()) l f;have:nU g+eW i≤eW b:=oS e l;have:g.kids.length<nU g:=bg g;have:nU g=1+eW g.kids:=jK g;Kt 0 n<|Mx p<|Kl 5 47 (ln aV g.kids)<|K1 0 (.frz 2 [5,7,8,33,34,35,39,40,41,46,47,48]) (bT rt rt ti)<|kg Nat Nat (List TUnit) aV g.kids [5,7,8,33,34,35,39,40,41,46,47,48] (fun e _=>([bz 0 0 0 0,bz 1 0 0 0,ay,aW<|((s::rs).drop 1).map az,nV ((s::rs).drop 1).length,nV a,aW<|b.map aV,nV b.length,nV d,aW<|g.kids.map aV,nV g.kids.length,nV e],[aZ 1 false 0 [aW<|b.map aV],aZ 2 false 0 [aa [iV c.kind,ax c.label]]])) (fun e _ f i j=>([bz 0 0 0 0,bz 1 0 0 0,aD 2 f 0 i none,aW<|((s::rs).drop 1).map az,nV ((s::rs).drop 1).length,nV a,aW<|b.map aV,nV b.length,nV d,aW<|g.kids.map aV,nV g.kids.length,nV e],[aZ 1 false 0 [aW<|b.map aV],aZ 2 false 0 [aa [iV c.kind,ax c.label]],aZ 8 true f<|j.map aV])) (fun a=>List.filter (bD c) a++cn c i=cn c b) (fun a _ d e=>d=e.length∧e++(List.filter (bD c) a++cn c i)=cn c b∧e.length+(eW a+eW i)<2^30) (by simp_all[gA]) (fun _ _ _ _ _ a _=>Kh 0 a<|Kl 0 60 (dc d)<|Kf 0<|j sA) (fun a _ d e f j k l n p _ o _=>have o:=(o).trans<|congrArg some<|aR f;have:=ca (J:=fun a _=>List.filter (bD c) a++cn c i=cn c b) (a:=()) n e;have:nU f+eW j≤eW g.kids:=oS d n;Kt 0 p<|Mx o<|Kp 4 (lQ f c)<|Mb (bD c f) (fun _=>K1 3 (.obj 3<|aZ 8 true 0<|List.map aV [f]) (congrArg (aZ 8 true 0)<|FL (f:=aV) (g:=Go.Ev.eU) (ws:=[f]) aR)<|Kl 1 59 (dc a)<|K1 0 (.ren [0,1,3,2] [3] [5,7,8,33,34,35,39,40,41,46,47,48]) (tS 8 true 0<|aX iK [f])<|M1 (.frz 3 [5,7,8,33,34,35,39,40,41,46,47,48]) (jv (tR 8 true 0 3<|aX iK [f]) rt rt ti)<|Mf<|l 0 1 [f] gR) fun _=>Kl 0 59 (dc a)<|K1 0 (.frz 2 [5,7,8,33,34,35,39,40,41,46,47,48]) (bT rt rt ti)<|Mf<|k sA) (fun _ _ a e f _ _ _ g _=>Kh 0 g<|Kl 0 60 (dc d)<|Kf 0<|k a e f gR) fun a _ d e f j k l n _ p q r _ o _=>have o:=(o).trans<|congrArg some<|aR l;have k:=ca (J:=fun a d=>d.2.1=d.2.2.length∧d.2.2++(List.filter (bD c) a++cn c i)=cn c b∧d.2.2.length+(eW a+eW i)<2^30) (a:=(d,e,f)) q k;have:nU l+eW n≤eW g.kids:=oS j q;Kt 0 r<|Mx o<|Kp 4 (lQ l c)<|Mb (bD c l) (fun _=>K1 2 .app (bT (aY d) (sA:e=(f.map aV).length) (by(refine aL (m:=2^31) ?_ ?_ ?_<;>omega):small (e+1) 120=true))<|M1 (.obj 2<|aZ 8 true (d+1)<|(f++[l]).map aV) (congrArg (aZ 8 true<|d+1)<|yZ (f:=aV) (g:=Go.Ev.eU) (l:=f) (ws:=[l]) aR)<|Kl 1 59 (dc a)<|K1 0 (.frz 3 [5,7,8,33,34,35,39,40,41,46,47,48]) (jv (tR 8 true (d+1) 3<|aX iK<|f++[l]) rt rt ti)<|Mf<|p (d+1) (e+1) (f++[l])<|by exact Z6 k (by omega)) fun _=>Kl 0 59 (dc a)<|K1 0 (.frz 3 [5,7,8,33,34,35,39,40,41,46,47,48]) (jv (tR 8 true d 3<|aX iK f) rt rt ti)<|Mf<|p d e f<|by exact Z7 k (by omega)) (fun _ _ b c f _ _ _ g i=>let j:=List.map aV f;Kh 0 g<|Mg 0<|M2 (.fsl 2 [5,33,34,35] 61 j) (bT rt rt ti) (bT (aY b) (tA aV f c (oA:(f).length=c))<|aX iK f)<|Ml 61 (e9 j false<|aX iK f)<|Kl 1 62 (dc a)<|K1 0 (.frz 1 [5,33,34,35]) (et rt ti)<|Mf<|e f<|by exact fB hj0 i.2.1) fun d _ e f g i j k l _ n o p _ q _=>have r:=(q).trans<|congrArg some<|aR k;have j:=ca (J:=fun a d=>d.2.1=d.2.2.length∧d.2.2++cn c a=cn c b∧d.2.2.length+eW a<2^30) (a:=(e,f,g)) o j;have:nU k+eW l≤eW b:=oS i o;have:k.kids.length<nU k:=bg k;have:nU k=1+eW k.kids:=jK k;Kt 0 p<|Mx r<|Kl 5 47 (ln aV k.kids)<|K1 0 (.frz 3 [5,7,8,33,34,35,39,40,41,46,47,48]) (jv (tR 8 true e 3<|aX iK g) rt rt ti)<|VZ aV k.kids e f g [5,7,8,33,34,35,39,40,41,46,47,48] (fun e _ f g i=>([bz 0 0 0 0,bz 1 0 0 0,aD 2 f 0 g none,aW<|((s::rs).drop 1).map az,nV ((s::rs).drop 1).length,nV a,aW<|b.map aV,nV b.length,nV d,aW<|k.kids.map aV,nV k.kids.length,nV e],[aZ 1 false 0 [aW<|b.map aV],aZ 2 false 0 [aa [iV c.kind,ax c.label]],aZ 8 true f<|i.map aV])) (fun a _ d e=>d=e.length∧e++(List.filter (bD c) a++cn c l)=cn c b∧e.length+(eW a+eW l)<2^30) (by(exact gB j)) (fun _ _ a e f _ _ _ g _=>Kh 0 g<|Kl 0 60 (dc d)<|Kf 0<|n a e f gR) fun a _ d e f g i j n o p r _ q _=>have q:=(q).trans<|congrArg some<|aR j;have i:=ca (J:=fun a d=>d.2.1=d.2.2.length∧d.2.2++(List.filter (bD c) a++cn c l)=cn c b∧d.2.2.length+(eW a+eW l)<2^30) (a:=(d,e,f)) p i;have:nU j+eW n≤eW k.kids:=oS g p;Kt 0 r<|Mx q<|Kp 4 (lQ j c)<|Mb (bD c j) (fun _=>K1 2 .app (bT (aY d) (sA:e=(f.map aV).length) (by(refine aL (m:=2^31) ?_ ?_ ?_<;>omega):small (e+1) 120=true))<|M1 (.obj 2<|aZ 8 true (d+1)<|(f++[j]).map aV) (congrArg (aZ 8 true<|d+1)<|yZ (f:=aV) (g:=Go.Ev.eU) (l:=f) (ws:=[j]) aR)<|Kl 1 59 (dc a)<|K1 0 (.frz 3 [5,7,8,33,34,35,39,40,41,46,47,48]) (jv (tR 8 true (d+1) 3<|aX iK<|f++[j]) rt rt ti)<|Mf<|o (d+1) (e+1) (f++[j])<|by exact Z6 i (by omega)) fun _=>Kl 0 59 (dc a)<|K1 0 (.frz 3 [5,7,8,33,34,35,39,40,41,46,47,48]) (jv (tR 8 true d 3<|aX iK f) rt rt ti)<|Mf<|o d e f<|by exact Z7 i (by omega)
theorem UY(u:TUnit)(p:List PStep)(hn:nU u≤2^11)(hl:p.length<2^40)(hs:∀x,x∈p→x.label.length≤2^39):kP 191 [eU u,.ls (p.map az)] (.ls ((eQ u p).map aV)):=by
  cases p with
  |nil=>exact UU u rfl
  |cons s rs=>grind[QS]
theorem Nm(u:TUnit)(p:List PStep)(L:List TUnit)(hf:kP 191 [eU u,.ls (p.map az)] (.ls (L.map aV)))(hL:L.length≤2^22):kP 136 [eU u,.ls (p.map az)] (.ls ((L.map bJ).map aK)):=by
  have rr0 b' (h:((L.map bJ).map aK)=b':=by first|rfl|(rw[←hj0];rfl)|(rw[←hj0.2.2.1];simp)):=h;exact bI Tryz.func136<|Kp 4 hf<|Kl 0 11 (ln aV L)<|K1 0 (.frz 0 [5,10,11,12]) ti<|kg Nat Nat (List PId) aV L [5,10,11,12] (fun a _=>([ay,aW<|L.map aV,nV L.length,nV a],[])) (fun a _ b c d=>([aD 0 b 0 c none,aW<|L.map aV,nV L.length,nV a],[aZ 3 true b<|d.map aK])) (fun a=>a=L) (fun a _ b c=>b=c.length∧(0:Nat)<c.length∧c++List.map bJ a=List.map bJ L∧c.length+a.length=L.length) (by rfl) (fun _ _ _ _ _ a hj0=>Kh 0 a<|Kf 1 (Le.lsn<|rr0 []:Le _ (ay))) (fun a _ _ b c d _ e f g _ i _=>have i:=(i).trans<|congrArg some<|aR c;have hj0:=ca (J:=fun a _=>a=L) (a:=()) f b;Kt 0 g<|Mx i<|Kl 9 21 (iP a)<|Mg 0<|M0 (.ren [1,0] [] [5,10,11,12])<|M1 (.frz 1 [5,10,11,12]) (et rt ti)<|Mf<|e 0 1 [PId.mk c.act c.item c.n]<|by(refine⟨rfl,by simp,?_,?_⟩<;>(rw[←hj0])<;>(first|rfl|grind))) (fun _ _ a b c _ _ _ d hj0=>Kh 0 d<|Mg 1<|M2 (.fsl 0 [] 4<|c.map aK) ti (bT (aY a) (tA aK c b (oA:(c).length=b))<|aX JJ c)<|Ml 4 (e9 (c.map aK) false<|aX JJ c)<|Mf<|cY<|rr0<|c.map aK) fun a _ b c d _ e f g _ i j k _ l _=>have l:=(l).trans<|congrArg some<|aR f;have hj0:=ca (J:=fun a b=>b.2.1=b.2.2.length∧(0:Nat)<b.2.2.length∧b.2.2++List.map bJ a=List.map bJ L∧b.2.2.length+a.length=L.length) (a:=(b,c,d)) j e;Kt 0 k<|Mx l<|K1 6 .app (bT (aY b) (sA:c=(d.map aK).length) (by(refine aL (m:=2^25) ?_ ?_ ?_<;>omega):small (c+1) 24=true))<|M1 (.obj 0<|aZ 3 true (b+1)<|(d++[PId.mk f.act f.item f.n]).map aK) (congrArg (aZ 3 true<|b+1)<|ce (f:=aK) (l:=d) (ws:=[PId.mk f.act f.item f.n]))<|Kl 1 21 (iP a)<|K1 0 (.frz 1 [5,10,11,12]) (et (tR 3 true (b+1) 1<|aX JJ<|d++[PId.mk f.act f.item f.n]) ti)<|Mf<|i (b+1) (c+1) (d++[PId.mk f.act f.item f.n])<|by(refine⟨by simp_all,by simp,?_,?_⟩<;>first|(rw[←hj0.2.2.1,eD,nw];rfl)|(rw[←hj0.2.2.1];simp;done)|grind)
theorem Nh(u:TUnit)(p:List PStep)(hf:kP 136 [eU u,.ls (p.map az)] (.ls (([]:List PId).map aK))):kP 114 [eU u,.ls (p.map az)] (.tuple [aK bj,iV 7]):=by
  exact bI Tryz.func114<|Kp 4 hf<|Kf 8<|bd<|bP [aa [iV 0,iV 0,iV 0],iV 7]
theorem Nl(u x:TUnit)(p:List PStep)(hf:kP 136 [eU u,.ls (p.map az)] (.ls ([bJ x].map aK))):kP 114 [eU u,.ls (p.map az)] (.tuple [aK (bJ x),iV 0]):=by
  exact bI Tryz.func114<|Kp 4 hf<|Kf 13<|bd<|bP [aa [iV (bJ x).a,iV (bJ x).i,iV (bJ x).n],iV 0]
theorem Ni(u:TUnit)(p:List PStep)(a b:PId)(r:List PId)(hf:kP 136 [eU u,.ls (p.map az)] (.ls ((a::b::r).map aK))):kP 114 [eU u,.ls (p.map az)] (.tuple [aK bj,iV 8]):=by
  have q1:ah (Int.ofNat (r.length+1+1)) 0=false:=rfl
  have q2:ah (Int.ofNat (r.length+1+1)) 1=false:=rfl
  exact bI Tryz.func114<|Kp 4 hf<|Kl 2 11 (ln aK<|a::b::r)<|Kf 8<|bd<|bP [aa [iV 0,iV 0,iV 0],iV 8]
/-- The way of an address, whatever it finds. -/
theorem Ng(u:TUnit)(p:List PStep)(hf:kP 191 [eU u,.ls (p.map az)] (.ls ((eQ u p).map aV)))(hn:nU u≤2^11):kP 114 [eU u,.ls (p.map az)] (.tuple [aK (aF u p).1,iV (aF u p).2]):=by
  have ha:=Nm u p (eQ u p) hf (IR p hn)
  cases e:eQ u p with
  |nil=>grind[Gs,Nh]
  | cons x r=>
    cases r with
    |nil=>grind[Gr,Nl]
    |cons y r=>grind[Gp,Ni]
noncomputable abbrev zU:AV:=.agg [iV 0,iV 0,iV 0,iV 0,.str [],.nils,.nils,.nils]
noncomputable abbrev dG(xs:List AV):AObj:=.row 8 false 0 xs
theorem Un{L Z:List AV}{n i:Nat}(hn:L.length=n)(hi:i<n):((L++Z).drop (i+1)).take (n-(i+1))=L.drop (i+1):=by
  grind
theorem Uo{L Z:List AV}{n i:Nat}(hn:L.length=n)(hi:i<n):bC (L++Z) (0+i) (L.drop (i+1))=L.eraseIdx i++(L.drop (n-1)++Z):=by
  unfold bC
  grind
theorem D9{L Z:List AV}{z:AV}{n i:Nat}(hn:L.length=n)(hi:i<n):bC (L.eraseIdx i++(L.drop (n-1)++Z)) (n-1) (List.replicate 1 z)=L.eraseIdx i++(z::Z):=by
  unfold bC
  have h1:(L.eraseIdx i).length=n-1:=by grind
  have h2:(L.drop (n-1)).length=1:=by grind
  grind
theorem Yw{a b:Nat}(h:a≠b):ah (Int.ofNat a) (Int.ofNat b)=false:=by
  grind[rf]
theorem Rf(L Z:List AV)(n k i:Nat)(hi:i+1<n)(hn:L.length=n)(hs:n≤2^20)(hf:dD 8 L=true)(hZ:Z.length=k)(hT:aq (L++Z)=0):kD 210 [.slice 0 0 0 n (some (n+k)),nV i,nV (i+1)] (av [dG (L++Z)]) (.slice 0 0 0 (n-1) (some (n+k))) (av [dG (L.eraseIdx i++(zU::Z))]):=by
  have hq:ah (Int.ofNat i) (Int.ofNat (i+1))=false:=Yw (by omega)
  let q:=AHeap.mk 1000000 (bB (av [aZ 8 false 0 (L++Z)]) ([0]) Tr.nil);let q1:=av [aZ 8 false 0 (L.eraseIdx i++(L.drop (n-1)++Z))];let q2:=av [aZ 8 false 0 (L++Z)];let q3:=(some (aD 0 0 0 n (some (n+k))));let q4:=aD 0 0 (i+1) (n-(i+1)) (some (n+k-(i+1)));let q5:=(some (nV (i+1)));let q6:=(some (nV i));let q7:=(some (nV n));let q8:=AHeap.mk 1 (bB q2 ([0,0]) Tr.nil);let q9:=aD 0 0 0 (n-1) (some (n+k));let q10:=aD 0 0 (n-1) 1 (some (k+1));let q11:=aD 0 0 0 i (some (n+k));exact ed Tryz.func210 fun a=>Ko 5 (by exact DK (xs:=L++Z) (l:=i) (h:=i+1) (m:=n) (by kernel_rfl) (by rfl) (by rfl) (by rfl) (by omega) (by omega) (by omega) (by omega) (by omega) (by omega) (by omega):bv q2 (dz (8) q2 q3 q6 q5 q7)=some (ARes.val (AV.slice 0 0 i 1 (some (n-i))) q2))<|Kh 2 hq<|Kv 4 (by exact ia (xs:=L++Z) (l:=0) (h:=i) (by kernel_rfl) (by rfl) (by rfl) (by omega) (by omega) (by omega) (by omega) (by omega) (by omega):bv (q) (dz (8) (q) q3 (none) q6 (none))=some (ARes.val q11 q))<|Kv 1 (by exact ia (xs:=L++Z) (l:=i+1) (h:=n) (by kernel_rfl) (by rfl) (by rfl) (by omega) (by omega) (by omega) (by omega) (by omega) (by omega):bv (q) (dz (8) (q) q3 q5 (none) (none))=some (ARes.val q4 q))<|Md rt (hJ (tR 8 false 0 1 (oA:aq (L++Z)=0))<|hJ (tR 8 false 0 1 (oA:aq (L++Z)=0)) rt) (by exact LA (new:=L.drop (i+1)) rfl (yC rfl (Un hn (by omega))) (rb hf) (fun e=>by have:=congrArg List.length e;grind) (by grind) (by grind) (aL (m:=2^20) (by grind) (by omega) (by omega)) (by grind) (Uo hn (by omega)):eM (cO (8) (120) (q8) ((some q11)) ((some q4)))=some (ARes.val q9 (AHeap.put q8 0 (AObj.row 8 false 0 (L.eraseIdx i++(L.drop (n-1)++Z))))))<|Ko 4 (by exact ia (xs:=L.eraseIdx i++(L.drop (n-1)++Z)) (l:=n-1) (h:=n) (by kernel_rfl) (by rfl) (by rfl) (by omega) (by omega) (by omega) (by omega) (by omega) (by omega):bv q1 (dz (8) q1 ((some q9)) ((some (nV (n-1)))) q7 (none))=some (ARes.val q10 q1))<|Mo (by exact Jz rfl (by kernel_rfl) (D9 hn (by omega)):eM (vN (8) (AV.agg [iV 0,iV 0,iV 0,iV 0,AV.str [],AV.nils,AV.nils,AV.nils]) q1 ((some q10)))=some (ARes.val (AV.tuple []) (av [AObj.row 8 false 0 (L.eraseIdx i++zU::Z)])))<|Kf 1 a
theorem Re(L Z:List AV)(k i:Nat)(hn:L.length=i+1)(hs:i<2^20)(hk:0<k)(hZ:Z.length=k)(hT:aq (L++Z)=0):kD 210 [.slice 0 0 0 (i+1) (some (i+1+k)),nV i,nV (i+1)] (av [dG (L++Z)]) (.slice 0 0 0 i (some (i+1+k))) (av [dG (L.eraseIdx i++(zU::Z))]):=by
  have hq:ah (Int.ofNat i) (Int.ofNat (i+1))=false:=Yw (by omega)
  have hr:L.eraseIdx i++(L.drop (i+1-1)++Z)=L++Z:=by
    rw[OU,Ep (by omega),ec,←nw,show i+1-1=i from rfl,Jm]
  have hc:bC (L++Z) i (List.replicate 1 zU)=L.eraseIdx i++(zU::Z):=by
    have h:=D9 (z:=zU) (Z:=Z) hn (show i<i+1 by omega)
    grind
  let q:=av [aZ 8 false 0 (L++Z)];let q1:=AHeap.mk 1000000 (bB q ([0]) Tr.nil);let q2:=(some (nV (i+1)));let q3:=aD 0 0 0 i (some (i+1+k));let q4:=(some (aD 0 0 0 (i+1) (some (i+1+k))));let q5:=(some (nV i));let q6:=AHeap.mk 1 (bB q ([0,0]) Tr.nil);let q7:=aD 0 0 (i+1) 0 (some k);let q8:=aD 0 0 i 1 (some (k+1));exact ed Tryz.func210 fun a=>Ko 5 (by exact DK (xs:=L++Z) (l:=i) (h:=i+1) (m:=i+1) (by kernel_rfl) (by rfl) (by rfl) (by rfl) (by omega) (by omega) (by omega) (by omega) (by omega) (by omega) (by omega):bv q (dz (8) q q4 q5 q2 q2)=some (ARes.val (AV.slice 0 0 i 1 (some 1)) q))<|Kh 2 hq<|Kv 4 (by exact ia (xs:=L++Z) (l:=0) (h:=i) (by kernel_rfl) (by rfl) (by rfl) (by omega) (by omega) (by omega) (by omega) (by omega) (by omega):bv (q1) (dz (8) (q1) q4 (none) q5 (none))=some (ARes.val q3 q1))<|Kv 1 (by exact ia (xs:=L++Z) (l:=i+1) (h:=i+1) (by kernel_rfl) (by rfl) (by rfl) (by omega) (by omega) (by omega) (by omega) (by omega) (by omega):bv (q1) (dz (8) (q1) q4 q2 (none) (none))=some (ARes.val q7 q1))<|Md rt (hJ (tR 8 false 0 1 (oA:aq (L++Z)=0))<|hJ (tR 8 false 0 1 (oA:aq (L++Z)=0)) rt) (by exact SZ (yC rfl List.take_zero):eM (cO (8) (120) (q6) ((some q3)) ((some q7)))=some (ARes.val q3 q6))<|Ko 4 (by exact ia (xs:=L++Z) (l:=i) (h:=i+1) (by kernel_rfl) (by rfl) (by rfl) (by omega) (by omega) (by omega) (by omega) (by omega) (by omega):bv q (dz (8) q ((some q3)) q5 q2 (none))=some (ARes.val q8 q))<|Mo (by exact Jz rfl (by kernel_rfl) hc:eM (vN (8) (AV.agg [iV 0,iV 0,iV 0,iV 0,AV.str [],AV.nils,AV.nils,AV.nils]) q ((some q8)))=some (ARes.val (AV.tuple []) (av [AObj.row 8 false 0 (L.eraseIdx i++zU::Z)])))<|Kf 1 a
theorem Rd(L:List AV)(i:Nat)(hn:L.length=i+1)(hs:i<2^20)(hT:aq L=0):kD 210 [.slice 0 0 0 (i+1) (some (i+1)),nV i,nV (i+1)] (av [dG L]) (.slice 0 0 0 i (some (i+1))) (av [dG (L.eraseIdx i++[zU])]):=by
  have hq:ah (Int.ofNat i) (Int.ofNat (i+1))=false:=Yw (by omega)
  have hr:L.eraseIdx i++(L.drop (i+1-1)++[])=L:=by
    rw[OU,Ep (by omega),ec,ec,show i+1-1=i from rfl,Jm]
  have hc:bC L i (List.replicate 1 zU)=L.eraseIdx i++[zU]:=by
    have h:=D9 (z:=zU) (Z:=[]) hn (show i<i+1 by omega)
    grind
  let q:=av [aZ 8 false 0 L];let q1:=AHeap.mk 1000000 (bB q ([0]) Tr.nil);let q2:=(some (nV (i+1)));let q3:=aD 0 0 0 i (some (i+1));let q4:=(some (aD 0 0 0 (i+1) (some (i+1))));let q5:=(some (nV i));let q6:=aD 0 0 i 1 (some 1);let q7:=AHeap.mk 1 (bB q ([0,0]) Tr.nil);let q8:=aD 0 0 0 0 (some 0);exact ed Tryz.func210 fun a=>Ko 5 (by exact DK (xs:=L) (l:=i) (h:=i+1) (m:=i+1) (by kernel_rfl) (by rfl) (by rfl) (by rfl) (by omega) (by omega) (by omega) (by omega) (by omega) (by omega) (by omega):bv q (dz (8) q q4 q5 q2 q2)=some (ARes.val q6 q))<|Kh 2 hq<|Kv 4 (by exact ia (xs:=L) (l:=0) (h:=i) (by kernel_rfl) (by rfl) (by rfl) (by omega) (by omega) (by omega) (by omega) (by omega) (by omega):bv (q1) (dz (8) (q1) q4 (none) q5 (none))=some (ARes.val q3 q1))<|Kv 1 (by exact J0 (xs:=L) (l:=i+1) (h:=i+1) (by kernel_rfl) (by rfl) (by rfl) (by rfl) rfl:bv (q1) (dz (8) (q1) q4 q2 (none) (none))=some (ARes.val q8 q1))<|Md rt (hJ (tR 8 false 0 1 (oA:aq (L)=0))<|hJ (tR 8 false 0 1 (oA:aq (L)=0)) rt) (by exact SZ (yC rfl List.take_zero):eM (cO (8) (120) (q7) ((some q3)) ((some q8)))=some (ARes.val q3 q7))<|Ko 4 (by exact ia (xs:=L) (l:=i) (h:=i+1) (by kernel_rfl) (by rfl) (by rfl) (by omega) (by omega) (by omega) (by omega) (by omega) (by omega):bv q (dz (8) q ((some q3)) q5 q2 (none))=some (ARes.val q6 q))<|Mo (by exact Jz rfl (by kernel_rfl) hc:eM (vN (8) (AV.agg [iV 0,iV 0,iV 0,iV 0,AV.str [],AV.nils,AV.nils,AV.nils]) q ((some q6)))=some (ARes.val (AV.tuple []) (av [AObj.row 8 false 0 (L.eraseIdx i++[zU])])))<|Kf 1 a
theorem Rc(L Z:List AV)(n i:Nat)(hi:i<n)(hn:L.length=n)(hs:n≤2^20)(hf:dD 8 L=true)(hT:aq (L++Z)=0):kD 210 [.slice 0 0 0 n (some (n+Z.length)),nV i,nV (i+1)] (av [dG (L++Z)]) (.slice 0 0 0 (n-1) (some (n+Z.length))) (av [dG (L.eraseIdx i++(zU::Z))]):=by
  rcases fF (i+1) n with h|h
  · exact Rf L Z n _ i h hn hs hf rfl hT
  · obtain rfl:n=i+1:=by omega
    cases Z with
    |nil=>rw[ec];rw[ec]at hT;exact Rd L i hn (by omega) hT
    |cons z r=>exact Re L (z::r) _ i hn (by omega) (wQ _) rfl hT
/-- A list with an element more at a place. -/
def gm(i:Nat)(x:AV)(l:List AV):List AV:=l.take i++(x::l.drop i)
theorem zF{i:Nat}{x:AV}{l:List AV}(h:i≤l.length):(gm i x l).length=l.length+1:=by
  grind[gm]
theorem GJ{x:AV}{l:List AV}{n:Nat}(h:l.length=n):gm n x l=l++[x]:=by
  grind[gm]
theorem YB(n:Nat):ah (Int.ofNat n) (Int.ofNat n)=true:=bq _
theorem ZC{a b:Nat}(h:a<b):aC (Int.ofNat a) (Int.ofNat b)=true:=ko (by simp_all)
theorem ZD{a b:Nat}(h:b≤a):aC (Int.ofNat a) (Int.ofNat b)=false:=lk (by simp_all)
theorem Ug{L Z:List AV}{x z:AV}{n:Nat}(h:L.length=n):bC (L++z::Z) (0+n) [x]=gm n x L++Z:=by
  unfold bC
  rw[GJ h,fZ,←h,List.take_left,show(L++z::Z).drop (L.length+[x].length)=Z by rw[←Bm,List.drop_left];rfl]
theorem Tg{L Z:List AV}{z:AV}{n i:Nat}(h:L.length=n)(hi:i<n):bC (L++z::Z) (i+1) (L.drop i)=L.take (i+1)++(L.drop i++Z):=by
  unfold bC
  rw[List.take_append_of_le_length (by omega),nw,wX,show i+1+(L.length-i)=L.length+1 by omega,←Bm,List.drop_left];rfl
theorem P7{L Z:List AV}{x:AV}{n i:Nat}(h:L.length=n)(hi:i<n):bC (L.take (i+1)++(L.drop i++Z)) i [x]=gm i x L++Z:=by
  unfold bC gm
  grind
theorem Tv{L:List AV}{z x:AV}{n i:Nat}(h:L.length=n)(hi:i<n):bC (L.take i++List.replicate (n+1-i) z) i [x]=L.take i++(x::List.replicate (n-i) z):=by
  unfold bC
  have h1:(L.take i).length=i:=by grind
  have e:n+1-i=(n-i)+1:=by omega
  rw[List.take_append_of_le_length (by omega),wW (by omega),←Bm]
  simp_all
theorem P5{L:List AV}{z x:AV}{n i:Nat}(h:L.length=n)(hi:i<n):bC (L.take i++(x::List.replicate (n-i) z)) (i+1) (L.drop i)=gm i x L:=by
  unfold bC gm
  have h1:(L.take i).length=i:=by grind
  have h2:(L.take i++(x::List.replicate (n-i) z)).length=n+1:=by grind
  have e:(L.take i++(x::List.replicate (n-i) z)).drop (i+1+(L.drop i).length)=[]:=Ep (by grind)
  grind
theorem Qg(L Z:List AV)(x z:AV)(t:Bool)(n k:Nat)(hn:L.length=n)(hs:n<2^20)(hk:Z.length=k)(hx:dD 8 [x]=true):kD 151 [.slice 0 0 0 n (some (n+(k+1))),nV n,.ps [x] t] (av [dG (L++z::Z)]) (.slice 0 0 0 (n+1) (some (n+(k+1)))) (av [dG (gm n x L++Z)]):=by
  have hq:=YB n
  let q:=av [aZ 8 false 0 (L++z::Z)];exact ed Tryz.func151 fun a=>Ko 2 (by exact ia (xs:=L++z::Z) (l:=n) (h:=n) (by kernel_rfl) (by rfl) (by rfl) (by omega) (by omega) (by omega) (by omega) (by omega) (by omega):bv q (dz (8) q ((some (AV.slice 0 0 0 n (some (n+(k+1)))))) ((some (nV n))) (none) (none))=some (ARes.val (AV.slice 0 0 n 0 (some (k+1))) q))<|Kt 11 hq<|Ko 1 (by exact LA (new:=[x]) rfl (by rfl) hx (mW _ _) (by simp_all) (by simp_all) (aL (m:=2^20) (by grind) (by omega) (by omega)) rfl (Ug hn):eM (cO (8) (120) (av [AObj.row 8 false 0 (L++z::Z)]) ((some (AV.slice 0 0 0 n (some (n+(k+1)))))) ((some (AV.ps [x] t))))=some (ARes.val (AV.slice 0 0 0 (n+1) (some (n+(k+1)))) (av [AObj.row 8 false 0 (gm n x L++Z)])))<|Kf 0 a
theorem Qf(L:List AV)(x:AV)(t:Bool)(n:Nat)(hn:L.length=n)(hs:n<2^20)(hx:dD 8 [x]=true)(hT:aq L=0)(hI:aq (gm n x L)=0):kD 151 [.slice 0 0 0 n (some n),nV n,.ps [x] t] (av [dG L]) (.ls (gm n x L)) (av [dG L]):=by
  have hq:=YB n
  have hIl:(gm n x L).length=n+1:=(zF (by omega)).trans (by omega)
  let q:=av [aZ 8 false 0 L];exact ed Tryz.func151 fun a=>Ko 2 (by exact J0 (xs:=L) (l:=n) (h:=n) (by kernel_rfl) (by rfl) (by rfl) (by rfl) rfl:bv q (dz (8) q ((some (AV.slice 0 0 0 n (some n)))) ((some (nV n))) (none) (none))=some (ARes.val (AV.slice 0 0 0 0 (some 0)) q))<|Kt 11 hq<|Ko 1 (by exact U3 (new:=[x]) rfl (by rfl) hx (mW _ _) (by simp_all) (aL (m:=2^20) (by grind) (by omega) (by omega)) (by grind[GJ]) ((zF (by omega)).trans (by omega)):eM (cO (8) (120) (av [AObj.row 8 false 0 L]) ((some (AV.slice 0 0 0 n (some n)))) ((some (AV.ps [x] t))))=some (ARes.val (AV.slice 1 0 0 (n+1) none) (av [AObj.row 8 false 0 L,AObj.row 8 true 0 (gm n x L)])))<|Mg 0<|M2 (.fsl 1 [] 6<|gm n x L) (et (tR 8 false 0 1 (oA:aq (L)=0)) ti) (bT (aY 0) (VV (oA:(gm n x L).length=n+1)) (oA:aq (gm n x L)=0))<|Ml 6 (e9 (gm n x L) false (oA:aq (gm n x L)=0))<|Mf a
theorem Qe(L Z:List AV)(x z:AV)(t:Bool)(n k i:Nat)(hi:i<n)(hn:L.length=n)(hs:n<2^20)(hk:Z.length=k)(hx:dD 8 [x]=true)(hf:dD 8 L=true)(hT:aq (L++z::Z)=0)(hov:kD 207 [.ps [x] t,.slice 0 0 (i+1) (n-i) (some (n+(k+1)-(i+1)))] (av [dG (L++z::Z)]) (.bool false) (av [dG (L++z::Z)])):kD 151 [.slice 0 0 0 n (some (n+(k+1))),nV i,.ps [x] t] (av [dG (L++z::Z)]) (.slice 0 0 0 (n+1) (some (n+(k+1)))) (av [dG (gm i x L++Z)]):=by
  have hq:ah (Int.ofNat i) (Int.ofNat n)=false:=Yw (by omega)
  have hl:aC (Int.ofNat (n+(k+1))) (Int.ofNat (n+1))=false:=ZD (by omega)
  let q:=av [aZ 8 false 0 (L++z::Z)];let q1:=av [aZ 8 false 0 (L.take (i+1)++(L.drop i++Z))];let q2:=AHeap.mk 1000000 (bB q ([0]) Tr.nil);let q3:=aD 0 0 0 (n+1) (some (n+(k+1)));let q4:=aD 0 0 i (n+1-i) (some (n+(k+1)-i));let q5:=(some (nV i));let q6:=aD 0 0 (i+1) (n-i) (some (n+(k+1)-(i+1)));let q7:=(some (nV (i+1)));let q8:=(some (aD 0 0 0 n (some (n+(k+1)))));exact ed Tryz.func151 fun a=>Ko 2 (by exact ia (xs:=L++z::Z) (l:=i) (h:=n) (by kernel_rfl) (by rfl) (by rfl) (by omega) (by omega) (by omega) (by omega) (by omega) (by omega):bv q (dz (8) q q8 q5 (none) (none))=some (ARes.val (AV.slice 0 0 i (n-i) (some (n+(k+1)-i))) q))<|Kh 11 hq<|Kl 2 28 (iP n)<|Kh 2 hl<|Kl 3 59 (iP n)<|Mo (by exact ia (xs:=L++z::Z) (l:=0) (h:=n+1) (by kernel_rfl) (by rfl) (by rfl) (by omega) (by omega) (by omega) (by omega) (by omega) (by omega):bv q (dz (8) q q8 (none) ((some (nV (n+1)))) (none))=some (ARes.val q3 q))<|Kl 5 65 (iP i)<|Mo (by exact ia (xs:=L++z::Z) (l:=i+1) (h:=n+1) (by kernel_rfl) (by rfl) (by rfl) (by omega) (by omega) (by omega) (by omega) (by omega) (by omega):bv q (dz (8) q ((some q3)) q7 (none) (none))=some (ARes.val q6 q))<|Me hov<|Mg 4<|Ma (iP i)<|Mv (by exact ia (xs:=L++z::Z) (l:=i+1) (h:=n+1) (by kernel_rfl) (by rfl) (by rfl) (by omega) (by omega) (by omega) (by omega) (by omega) (by omega):bv (q2) (dz (8) (q2) ((some q3)) q7 (none) (none))=some (ARes.val q6 q2))<|Kv 1 (by exact ia (xs:=L++z::Z) (l:=i) (h:=n+1) (by kernel_rfl) (by rfl) (by rfl) (by omega) (by omega) (by omega) (by omega) (by omega) (by omega):bv (q2) (dz (8) (q2) ((some q3)) q5 (none) (none))=some (ARes.val q4 q2))<|Md rt (hJ (tR 8 false 0 1 (oA:aq (L++z::Z)=0))<|hJ (tR 8 false 0 1 (oA:aq (L++z::Z)=0)) rt) (by exact Lg (zs:=((L++z::Z).drop i).take (n+1-i)) rfl (yC rfl rfl) (by grind[rb]) (by grind) (by grind[Tg]):eM (uB (8) ((AHeap.mk 1 (bB (av [AObj.row 8 false 0 (L++z::Z)]) ([0,0]) Tr.nil))) ((some (AV.slice 0 0 (i+1) (n-i) (some (n+(k+1)-(i+1)))))) ((some (AV.slice 0 0 i (n+1-i) (some (n+(k+1)-i))))))=some (ARes.val (nV (n-i)) (AHeap.put (AHeap.mk 1 (bB (av [AObj.row 8 false 0 (L++z::Z)]) ([0,0]) Tr.nil)) 0 (AObj.row 8 false 0 (L.take (i+1)++(L.drop i++Z))))))<|Ko 1 (by exact ia (xs:=L.take (i+1)++(L.drop i++Z)) (l:=i) (h:=n+1) (by kernel_rfl) (by rfl) (by rfl) (by omega) (by omega) (by omega) (by omega) (by omega) (by omega):bv q1 (dz (8) q1 ((some q3)) q5 (none) (none))=some (ARes.val q4 q1))<|Ko 0 (by exact Lg (zs:=[x]) rfl (by rfl) (ra hx) (by grind) (by grind[List.take_of_length_le,P7]):eM (uB (8) q1 ((some q4)) ((some (AV.ps [x] t))))=some (ARes.val (iV 1) (av [AObj.row 8 false 0 (gm i x L++Z)])))<|Kf 1 a
theorem Qd(L:List AV)(x:AV)(t:Bool)(n i:Nat)(hi:i<n)(hn:L.length=n)(hs:n<2^20)(hx:dD 8 [x]=true)(hf:dD 8 L=true)(hT:aq L=0)(hT2:aq (L.take i++(x::List.replicate (n-i) zU))=0)(hI:aq (gm i x L)=0):kD 151 [.slice 0 0 0 n (some n),nV i,.ps [x] t] (av [dG L]) (.ls (gm i x L)) (av [dG L]):=by
  have hq:ah (Int.ofNat i) (Int.ofNat n)=false:=Yw (by omega)
  have hl:aC (Int.ofNat n) (Int.ofNat (n+1))=true:=ZC (by omega)
  have hIl:(gm i x L).length=n+1:=(zF (by omega)).trans (by omega)
  let q:=av [aZ 8 false 0 L,aZ 8 true 0 (L.take i++x::List.replicate (n-i) zU)];let q1:=av [aZ 8 false 0 L,aZ 8 true 0 (L.take i++List.replicate (n+1-i) zU)];let q2:=av [aZ 8 false 0 L];let q3:=(some (nV i));let q4:=AHeap.mk 1000000 (bB q ([0]) Tr.nil);let q5:=aD 0 0 i (n-i) (some (n-i));let q6:=(some (aD 0 0 0 n (some n)));let q7:=AHeap.mk 2 (bB q ([1,0]) Tr.nil);let q8:=aD 1 0 i (n+1-i) none;let q9:=aD 1 0 0 (n+1) none;let q10:=aD 0 0 0 i (some n);exact ed Tryz.func151 fun a=>Ko 2 (by exact ia (xs:=L) (l:=i) (h:=n) (by kernel_rfl) (by rfl) (by rfl) (by omega) (by omega) (by omega) (by omega) (by omega) (by omega):bv q2 (dz (8) q2 q6 q3 (none) (none))=some (ARes.val q5 q2))<|Kh 11 hq<|Kl 2 28 (iP n)<|Kt 2 hl<|Ko 1 (by exact ia (xs:=L) (l:=0) (h:=i) (by kernel_rfl) (by rfl) (by rfl) (by omega) (by omega) (by omega) (by omega) (by omega) (by omega):bv q2 (dz (8) q2 q6 (none) q3 (none))=some (ARes.val q10 q2))<|Kl 2 37 (iP n)<|Ko 0 (by(show bv _ (some (AV.int .i64 (IntKind.i64.wrap (Int.ofNat (n+1)-Int.ofNat i))))=_;rw[show(Int.ofNat (n+1)-Int.ofNat i)=Int.ofNat (n+1-i) by grind,xA (by simp_all) (by grind)];rfl):bv (av [AObj.row 8 false 0 L]) (Su (pN BinOp.sub (Tryz.prog.underlying 3) (cM Tryz.prog 3) (cR Tryz.prog 3) (dT Tryz.prog 10 3 0)) ((some (nV (n+1)))) ((some (nV i))))=some (ARes.val (nV (n+1-i)) (av [AObj.row 8 false 0 L])))<|Mo (by exact Te rfl (by omega) (by omega) (by kernel_rfl) (aL (m:=2^21) (by omega) (by omega) (by omega)) (aL (m:=2^21) (by omega) (by omega) (by omega)) (by simp_all) (by grind):eM (Cy (8) (120) (AV.agg [iV 0,iV 0,iV 0,iV 0,AV.str [],AV.nils,AV.nils,AV.nils]) q2 ((some q10)) ((some (nV (n+1-i)))))=some (ARes.val q9 q1))<|Ko 2 (by exact JT (xs:=L.take i++List.replicate (n+1-i) zU) (l:=i) (h:=n+1) (by kernel_rfl) (by rfl) (by rfl) (by omega) (by grind) (by omega) (by omega):bv q1 (dz (8) q1 ((some q9)) q3 (none) (none))=some (ARes.val q8 q1))<|Ko 0 (by exact Lg (zs:=[x]) rfl (by rfl) (ra hx) (by grind) (by grind[List.take_of_length_le,Tv]):eM (uB (8) q1 ((some q8)) ((some (AV.ps [x] t))))=some (ARes.val (iV 1) q))<|Mg 2<|Ma (iP i)<|Mv (by exact JT (xs:=L.take i++(x::List.replicate (n-i) zU)) (l:=i+1) (h:=n+1) (by kernel_rfl) (by rfl) (by rfl) (by omega) (by grind) (by omega) (by omega):bv ((AHeap.mk 1000000 (bB (av [AObj.row 8 false 0 L,AObj.row 8 true 0 (L.take i++x::List.replicate (n-i) zU)]) ([1]) Tr.nil))) (dz (8) ((AHeap.mk 1000000 (bB (av [AObj.row 8 false 0 L,AObj.row 8 true 0 (L.take i++x::List.replicate (n-i) zU)]) ([1]) Tr.nil))) ((some (AV.slice 1 0 0 (n+1) none))) ((some (nV (i+1)))) (none) (none))=some (ARes.val (AV.slice 1 0 (i+1) (n-i) none) (AHeap.mk 1000000 (bB (av [AObj.row 8 false 0 L,AObj.row 8 true 0 (L.take i++x::List.replicate (n-i) zU)]) ([1]) Tr.nil))))<|Kv 1 (by exact ia (xs:=L) (l:=i) (h:=n) (by kernel_rfl) (by rfl) (by rfl) (by omega) (by omega) (by omega) (by omega) (by omega) (by omega):bv (q4) (dz (8) (q4) q6 q3 (none) (none))=some (ARes.val q5 q4))<|Md rt (hJ (tR 8 true 0 2 (oA:aq (L.take i++x::List.replicate (n-i) zU)=0))<|hJ (tR 8 false 0 2 (oA:aq (L)=0)) rt) (by exact Lg (zs:=L.drop i) rfl (yC rfl (wW (by simp_all))) (ra (rb hf)) (by simp_all) (by grind[List.length_drop,P5]):eM (uB (8) (q7) ((some (AV.slice 1 0 (i+1) (n-i) none))) ((some q5)))=some (ARes.val (nV (n-i)) (AHeap.put q7 1 (AObj.row 8 true 0 (gm i x L)))))<|Mg 1<|M2 (.fsl 1 [] 6<|gm i x L) (et (tR 8 false 0 1 (oA:aq (L)=0)) ti) (bT (aY 0) (VV (oA:(gm i x L).length=n+1)) (oA:aq (gm i x L)=0))<|Ml 6 (e9 (gm i x L) false (oA:aq (gm i x L)=0))<|Mf a
theorem GX(x:TUnit)(t:Bool):kP 151 [.nils,iV 0,.ps [eU x] t] (.ls [eU x]):=by
  have hx:dD 8 [eU x]=true:=by kernel_rfl
  have hIl:[eU x].length=1:=rfl
  have hI:aq [eU x]=0:=by kernel_rfl
  let q:=[aa [iV x.act,iV x.item,iV x.n,iV x.kind,ax x.label,aW (x.head.map aQ),aW (x.words.map aQ),aW (x.kids.map aV)]];exact bI Tryz.func151<|Ko 18 (by(simp only[cO,gV,kW,ky,gc,hx];rfl):eM (cO (8) (120) (av []) ((some (AV.nils))) ((some (AV.ps [AV.agg [iV x.act,iV x.item,iV x.n,iV x.kind,AV.str x.label,AV.ls (x.head.map aQ),AV.ls (x.words.map aQ),AV.ls (x.kids.map aV)]] t))))=some (ARes.val (AV.slice 0 0 0 1 none) (av [AObj.row 8 true 0 [eU x]])))<|K1 0 (.frz 0 [6]) ti<|Mf (e9 q _<|by rfl:Le _ (AV.ps q false))
theorem GZ(x:TUnit)(t:Bool):kP 151 [.ps [] true,iV 0,.ps [eU x] t] (.ls [eU x]):=by
  have hx:dD 8 [eU x]=true:=by kernel_rfl
  have hIl:[eU x].length=1:=rfl
  have hI:aq [eU x]=0:=by kernel_rfl
  let q:=[aa [iV x.act,iV x.item,iV x.n,iV x.kind,ax x.label,aW (x.head.map aQ),aW (x.words.map aQ),aW (x.kids.map aV)]];exact bI Tryz.func151<|Ko 18 (by(simp only[cO,gV,kW,ky,gc,hx];rfl):eM (cO (8) (120) (av []) ((some (AV.ps [] true))) ((some (AV.ps [AV.agg [iV x.act,iV x.item,iV x.n,iV x.kind,AV.str x.label,AV.ls (x.head.map aQ),AV.ls (x.words.map aQ),AV.ls (x.kids.map aV)]] t))))=some (ARes.val (AV.slice 0 0 0 1 none) (av [AObj.row 8 true 0 [eU x]])))<|K1 0 (.frz 0 [6]) ti<|Mf (e9 q _<|by rfl:Le _ (AV.ps q false))
noncomputable def JH:TypeInfo:=(Tryz.prog.info? 36).getD default
theorem OB:Tryz.prog.info? 36=some JH:=by kernel_rfl
/-- A unit of zero values says no more than the zero value. -/
theorem Xm:Le (aV bc) zU:=aP (.cons (Le.refl _) (.cons (Le.refl _) (.cons (Le.refl _) (.cons (Le.refl _) (.cons (Le.refl _) (.cons Le.nils (.cons Le.nils (.cons Le.nils .nil)))))))) rfl
theorem HS:JH.size=8:=by kernel_rfl
theorem EO:JH.bytes=120:=by kernel_rfl
theorem Yu(l:List TUnit):dD 8 (l.map aV)=true:=gn (fun u=>by cases u;rfl) l
/-- A copy of units: a row of its own, which holds zero values behind them. -/
theorem EQ(xs:List TUnit)(hne:xs≠[])(hl:xs.length≤2^20)(a b c:AObj):kC 206 [.ls (xs.map aV)] (av [a,b,c])
    (fun v h=>∃k:Nat,True∧v=.slice 3 0 0 xs.length (some (xs.length+k))∧h=av [a,b,c,dG ((xs++List.replicate k bc).map aV)]):=by
  simp only[po,List.map_replicate]
  have hn:xs.map aV≠[]:=fun h=>hne (List.map_eq_nil_iff.1 h)
  have hf:=Yu xs
  have hsm:small (xs.map aV).length 120=true:=by grind[aL]
  have hlen:xs.length=(xs.map aV).length:=(b7 ..).symm
  rw[hlen]
  generalize xs.map aV=L at hn hf hsm
  refine aH.enter 2 (fn:=Tryz.f206) Tryz.func206 (by kernel_rfl) rfl ⟨by kernel_rfl,by kernel_rfl⟩ ?_
  refine ar.seq (ar.mono (DB oK iJ (ev 40) (s':=⟨eZ 8 [(0,.ls L),(2,.nils)],av [a,b,c]⟩) (.go 0 .fin) (by kernel_rfl)) ?_)
  rintro _ _ ⟨rfl,rfl⟩
  refine ar.seq (ar.seq (ar.mono (xS iJ (ev 40) (Ψ:=fun s=>s=⟨eZ 8 [(0,.ls L),(2,.nils),(3,.ps L false),(4,.bool false)],av [a,b,c]⟩) (.go 0 (.nz 3 .abs (.go 0 .fin)))
    (W:=(L=[]→False)∧(⟨eZ 8 [(0,.ls L),(2,.nils),(3,.ps L false),(4,.bool false)],av [a,b,c]⟩:St)=⟨eZ 8 [(0,.ls L),(2,.nils),(3,.ps L false),(4,.bool false)],av [a,b,c]⟩) ⟨hn,rfl⟩ (by kernel_rfl)) ?_))
  rintro _ _ ⟨rfl,rfl⟩
  refine ar.cond (t:=false) (by kernel_rfl) (fun h=>by grind) fun _=>ar.skip ?_
  refine ar.seq (ar.region ?_)
  show cw _ _ _ _ [_,_,_,_] _ _
  refine cw.one (s':=⟨eZ 8 [(0,.ls L),(2,.nils),(3,.ps L false),(4,.bool false),(5,.ps [] true)],av [a,b,c]⟩) (ev 40) (by kernel_rfl) ?_
  refine cw.one (s':=⟨eZ 8 [(0,.ls L),(2,.nils),(3,.ps L false),(4,.bool false),(5,.ps [] true),(6,.ls L)],av [a,b,c]⟩) (ev 40) (by kernel_rfl) ?_
  refine rE (I:=fun _=>True) (r:=fun k:Nat=>.slice 3 0 0 L.length (some (L.length+k))) (H:=fun k=>av [a,b,c,.row 8 false 0 (L++List.replicate k (aV bc))]) (by kernel_rfl)
    (fun pl M a w g1 g2 g3=>uM (z:=aV bc) (z0:=zU) (xs:=L) (t:=34) (tx:=34) (e:=36) (i:=JH) HS EO (by kernel_rfl) ⟨36,by kernel_rfl⟩ OB (by kernel_rfl) Xm (by kernel_rfl) (by kernel_rfl) hn hf (by kernel_rfl) hsm (by omega) pl M a w g1 g2 g3) fun k _=>?_
  refine⟨eZ 8 [(0,.ls L),(2,.nils),(3,.ps L false),(4,.bool false),(5,.ps [] true),(6,.ls L),(7,.slice 3 0 0 L.length (some (L.length+k)))],by kernel_rfl,?_⟩
  refine cw.one (s':=⟨eZ 8 [(0,.ls L),(2,.slice 3 0 0 L.length (some (L.length+k))),(3,.ps L false),(4,.bool false),(5,.ps [] true),(6,.ls L),(7,.slice 3 0 0 L.length (some (L.length+k)))],av [a,b,c,.row 8 false 0 (L++List.replicate k (aV bc))]⟩) (ev 40) (by kernel_rfl) (cw.nil (ar.ret ⟨fun id h=>(by grind),.slice 3 0 0 L.length (some (L.length+k)),by kernel_rfl,k,trivial,by kernel_rfl,by kernel_rfl⟩))
/-- The unit that a closure changes: its kids are 'K'. -/
noncomputable abbrev dF(u:TUnit)(K:AV):AObj:=.row 8 false 0 [.agg [iV u.act,iV u.item,iV u.n,iV u.kind,.str u.label,.ls (u.head.map aQ),.ls (u.words.map aQ),K]]
theorem Xp(u:TUnit)(n c i:Nat)(R R':List AV)(hT:aq R=0)(hT2:aq R'=0)(hi:i<n)(hs:n≤2^20)(hD:kD 210 [.slice 1 0 0 n (some c),nV i,nV (i+1)] (av [dF u (.slice 1 0 0 n (some c)),dG R]) (.slice 1 0 0 (n-1) (some c)) (av [dF u (.slice 1 0 0 n (some c)),dG R'])):
    kD 209 [.ptr 0 0 0 0,.pptr [nV i] 0 0] (av [dF u (.slice 1 0 0 n (some c)),dG R]) (.tuple []) (av [dF u (.slice 1 0 0 (n-1) (some c)),dG R']):=by
  exact ed Tryz.func209 fun a=>Mg 6<|Ma (iP i)<|M3 (.efx false (aD 1 0 0 (n-1)<|some c)<|av [aZ 8 false 0 [aa [iV u.act,iV u.item,iV u.n,iV u.kind,ax u.label,aW<|u.head.map aQ,aW<|u.words.map aQ,aD 1 0 0 n<|some c]],aZ 8 false 0 R']) (bT (tR 8 false 0 2 (oA:aq (R)=0)) rt ti) ti hD<|Kf 2 a
theorem Wm(u x:TUnit)(n c i:Nat)(R R':List AV)(hT:aq R=0)(hT2:aq R'=0)(hD:kD 151 [.slice 1 0 0 n (some c),nV i,.ps [eU x] true] (av [dF u (.slice 1 0 0 n (some c)),dG R]) (.slice 1 0 0 (n+1) (some c)) (av [dF u (.slice 1 0 0 n (some c)),dG R'])):
    kD 150 [.ptr 0 0 0 0,.pptr [nV i] 0 0,.pptr [eU x] 0 0] (av [dF u (.slice 1 0 0 n (some c)),dG R]) (.tuple []) (av [dF u (.slice 1 0 0 (n+1) (some c)),dG R']):=by
  exact ed Tryz.func150 fun a=>Mg 7<|M3 (.efx false (aD 1 0 0 (n+1)<|some c)<|av [aZ 8 false 0 [aa [iV u.act,iV u.item,iV u.n,iV u.kind,ax u.label,aW<|u.head.map aQ,aW<|u.words.map aQ,aD 1 0 0 n<|some c]],aZ 8 false 0 R']) (bT (tR 8 false 0 2 (oA:aq (R)=0)) rt ti) ti hD<|Kf 2 a
theorem Wl(u x:TUnit)(n c i:Nat)(R Y:List AV)(hT:aq R=0)(hD:kD 151 [.slice 1 0 0 n (some c),nV i,.ps [eU x] true] (av [dF u (.slice 1 0 0 n (some c)),dG R]) (.ls Y) (av [dF u (.slice 1 0 0 n (some c)),dG R])):
    kD 150 [.ptr 0 0 0 0,.pptr [nV i] 0 0,.pptr [eU x] 0 0] (av [dF u (.slice 1 0 0 n (some c)),dG R]) (.tuple []) (av [dF u (.ls Y),dG R]):=by
  let q:=[aa [iV u.act,iV u.item,iV u.n,iV u.kind,ax u.label,aW (u.head.map aQ),aW (u.words.map aQ),aD 1 0 0 n (some c)]];exact ed Tryz.func150 fun a=>Mg 7<|M3 (.efx true (aW Y)<|av [aZ 8 false 0 q,aZ 8 false 0 R]) (bT (tR 8 false 0 2 (oA:aq (R)=0)) rt ti) (bT (aY<|some<|aZ 8 false 0 R) (aY<|some<|aZ 8 false 0 q) ti) hD<|Kf 2 a
theorem Wi(u x:TUnit)(Y:List AV)(hD:kP 151 [.nils,iV 0,.ps [eU x] true] (.ls Y)):
    kD 150 [.ptr 0 0 0 0,.pptr [iV 0] 0 0,.pptr [eU x] 0 0] (av [dF u .nils]) (.tuple []) (av [dF u (.ls Y)]):=by
  exact ed Tryz.func150 fun a=>Kp 7 hD<|Kf 2 a
theorem Wh(u x:TUnit)(Y:List AV)(hD:kP 151 [(.ps [] true),iV 0,.ps [eU x] true] (.ls Y)):
    kD 150 [.ptr 0 0 0 0,.pptr [iV 0] 0 0,.pptr [eU x] 0 0] (av [dF u (.ps [] true)]) (.tuple []) (av [dF u (.ls Y)]):=by
  exact ed Tryz.func150 fun a=>Kp 7 hD<|Kf 2 a
theorem Wx(u x:TUnit)(n c i:Nat)(R R':List AV)(hT:aq R=0)(hT2:aq R'=0)(hD:kD 151 [.slice 1 0 0 n (some c),nV i,.ps [eU x] true] (av [dF u (.slice 1 0 0 n (some c)),dG R]) (.slice 1 0 0 (n+1) (some c)) (av [dF u (.slice 1 0 0 n (some c)),dG R'])):
    kD 160 [.ptr 0 0 0 0,.pptr [nV i] 0 0,.pptr [eU x] 0 0] (av [dF u (.slice 1 0 0 n (some c)),dG R]) (.tuple []) (av [dF u (.slice 1 0 0 (n+1) (some c)),dG R']):=by
  exact ed Tryz.func160 fun a=>Mg 7<|M3 (.efx false (aD 1 0 0 (n+1)<|some c)<|av [aZ 8 false 0 [aa [iV u.act,iV u.item,iV u.n,iV u.kind,ax u.label,aW<|u.head.map aQ,aW<|u.words.map aQ,aD 1 0 0 n<|some c]],aZ 8 false 0 R']) (bT (tR 8 false 0 2 (oA:aq (R)=0)) rt ti) ti hD<|Kf 2 a
theorem Wz(u x:TUnit)(n c i:Nat)(R Y:List AV)(hT:aq R=0)(hD:kD 151 [.slice 1 0 0 n (some c),nV i,.ps [eU x] true] (av [dF u (.slice 1 0 0 n (some c)),dG R]) (.ls Y) (av [dF u (.slice 1 0 0 n (some c)),dG R])):
    kD 160 [.ptr 0 0 0 0,.pptr [nV i] 0 0,.pptr [eU x] 0 0] (av [dF u (.slice 1 0 0 n (some c)),dG R]) (.tuple []) (av [dF u (.ls Y),dG R]):=by
  let q:=[aa [iV u.act,iV u.item,iV u.n,iV u.kind,ax u.label,aW (u.head.map aQ),aW (u.words.map aQ),aD 1 0 0 n (some c)]];exact ed Tryz.func160 fun a=>Mg 7<|M3 (.efx true (aW Y)<|av [aZ 8 false 0 q,aZ 8 false 0 R]) (bT (tR 8 false 0 2 (oA:aq (R)=0)) rt ti) (bT (aY<|some<|aZ 8 false 0 R) (aY<|some<|aZ 8 false 0 q) ti) hD<|Kf 2 a
theorem Wq(u x:TUnit)(Y:List AV)(hD:kP 151 [.nils,iV 0,.ps [eU x] true] (.ls Y)):
    kD 160 [.ptr 0 0 0 0,.pptr [iV 0] 0 0,.pptr [eU x] 0 0] (av [dF u .nils]) (.tuple []) (av [dF u (.ls Y)]):=by
  exact ed Tryz.func160 fun a=>Kp 7 hD<|Kf 2 a
theorem WU(u x:TUnit)(Y:List AV)(hD:kP 151 [(.ps [] true),iV 0,.ps [eU x] true] (.ls Y)):
    kD 160 [.ptr 0 0 0 0,.pptr [iV 0] 0 0,.pptr [eU x] 0 0] (av [dF u (.ps [] true)]) (.tuple []) (av [dF u (.ls Y)]):=by
  exact ed Tryz.func160 fun a=>Kp 7 hD<|Kf 2 a
theorem Xn(u:TUnit)(l:List PWord):kD 154 [.ptr 0 0 0 0,.pptr [.ls (l.map aQ)] 0 0] (av [dF u (.ls (u.kids.map aV))]) (.tuple []) (av [dF (mJ l u) (.ls (u.kids.map aV))]):=by
  exact ed Tryz.func154 fun a=>Kf 4 a
theorem YZ(u:TUnit)(l:List PWord):kD 156 [.ptr 0 0 0 0,.pptr [.ls (l.map aQ)] 0 0] (av [dF u (.ls (u.kids.map aV))]) (.tuple []) (av [dF (mJ l u) (.ls (u.kids.map aV))]):=by
  exact ed Tryz.func156 fun a=>Kf 4 a
theorem Yo(u:TUnit)(l:List PWord):kD 158 [.ptr 0 0 0 0,.pptr [.ls (l.map aQ)] 0 0] (av [dF u (.ls (u.kids.map aV))]) (.tuple []) (av [dF (zL l u) (.ls (u.kids.map aV))]):=by
  exact ed Tryz.func158 fun a=>Kf 4 a
theorem X9(u:TUnit)(d:PDeed):kD 159 [.ptr 0 0 0 0,.pptr [aU d] 0 0] (av [dF u (.ls (u.kids.map aV))]) (.tuple []) (av [dF (pU d.it.label u) (.ls (u.kids.map aV))]):=by
  exact ed Tryz.func159 fun a=>Kf 6 a
noncomputable abbrev vb(p:PId):AObj:=.row 3 false 0 [aK p]
noncomputable abbrev zO:AObj:=.row 8 false 0 [zU]
theorem HV:kP 206 [.nils] .nils:=by
  exact wk Tryz.func206 (.go 4 .fin)<|bd ay
theorem HK:kP 206 [.ps [] false] (.ps [] true):=by
  exact wk Tryz.func206 (.go 7 .fin)<|bd<|iR [] true
theorem Rr(w:TUnit)(r:List TUnit)(hl:r.length<2^20):kP 206 [.ls ((w::r).map aV)] (.ls ((w::r).map aV)):=by
  let q:=List.map aV (w::r);exact bI Tryz.func206<|Mg 1<|Mz 3 (fun(a:((w::r).map aV:List AV)=[])=>Mw .abs<|mW _ _ a)<|Mg 3<|M2 .apl (et (sA:List.map aV (w::r)≠[])<|gn (sz:=8) (f:=aV) (fun _=>by(rw[aR];rfl))<|w::r) (by(refine aL (m:=2^21) ?_ ?_ ?_<;>first|omega|grind):small ((w::r).map aV).length 120=true)<|Mg 0<|M2 (.fsl 0 [] 2 q) ti (bT (aY 0) (tA aV (w::r) q.length (sA:(w::r).length=((w::r).map aV).length))<|aX iK<|w::r)<|Ml 2 (e9 q false<|aX iK<|w::r)<|Mf<|bd<|aW q
theorem CL(l:List TUnit)(hl:l.length≤2^20):kP 206 [.ls (l.map aV)] (.ls (l.map aV)):=by
  cases l with
  |nil=>exact aM.ls0 (HV.less Le.nils) (HK.lessB (u:=.ls []) (by kernel_rfl))
  |cons w r=>grind[Rr]
/-- The unit is found; its kids stay what they are. -/
theorem yW(g:Nat)(bs:List AV)(p:PId)(u u2:TUnit)(hA:aq [eU u,aK p,.func (.func g) [] bs]=0)(hp:(ah u.act p.a&&(ah u.item p.i&&ah u.n p.n))=true)(hl:u.kids.length≤2^20)(hd:kD g (.ptr 0 0 0 0::bs) (av [dF u (.ls (u.kids.map aV)),vb p,zO]) (.tuple []) (av [dF u2 (.ls (u2.kids.map aV)),vb p,zO])):kP 149 [eU u,aK p,.func (.func g) [] bs] (eU u2):=by
  have hc:=CL u.kids hl
  let q:=[iV p.a,iV p.i,iV p.n];exact bI (ht:=oA) Tryz.func149<|Kv 5 (kR ((Tryz.prog).underlying 24) u.act u.item u.n p.a p.i p.n<|av [aZ 8 false 0 [aa [iV u.act,iV u.item,iV u.n,iV u.kind,ax u.label,aW<|u.head.map aQ,aW<|u.words.map aQ,aW<|u.kids.map aV]],aZ 3 false 0 [aa q],aZ 8 false 0 [aa [iV 0,iV 0,iV 0,iV 0,ax [],ay,ay,ay]]])<|Mt hp<|Kp 1 hc<|Ke 2 hd<|Kf 1<|bd<|aa [iV u2.act,iV u2.item,iV u2.n,iV u2.kind,ax u2.label,aW<|u2.head.map aQ,aW<|u2.words.map aQ,aW<|u2.kids.map aV]
/-- The unit is found; it has kids; in its own row something is done. -/
theorem T5(g:Nat)(bs:List AV)(p:PId)(u u2:TUnit)(n2:Nat)(Z:Nat→List AV)(hA:aq [eU u,aK p,.func (.func g) [] bs]=0)(hp:(ah u.act p.a&&(ah u.item p.i&&ah u.n p.n))=true)(hl:u.kids.length≤2^20)(hne:u.kids≠[])(hn2:u2.kids.length=n2)(hd:∀k,kD g (.ptr 0 0 0 0::bs) (av [dF u (.slice 3 0 0 u.kids.length (some (u.kids.length+k))),vb p,zO,dG ((u.kids++List.replicate k bc).map aV)]) (.tuple []) (av [dF u2 (.slice 3 0 0 n2 (some (u.kids.length+k))),vb p,zO,dG (u2.kids.map aV++Z k)])):kP 149 [eU u,aK p,.func (.func g) [] bs] (eU u2):=by
  let q:=[aa [iV u.act,iV u.item,iV u.n,iV u.kind,ax u.label,aW (u.head.map aQ),aW (u.words.map aQ),aW (u.kids.map aV)]];let q1:=[iV p.a,iV p.i,iV p.n];let q2:=[aa [iV 0,iV 0,iV 0,iV 0,ax [],ay,ay,ay]];let q3:=List.map aV u2.kids;exact bI (ht:=oA) Tryz.func149<|Kv 5 (kR ((Tryz.prog).underlying 24) u.act u.item u.n p.a p.i p.n<|av [aZ 8 false 0 q,aZ 3 false 0 [aa q1],aZ 8 false 0 q2])<|Mt hp<|Mg 1<|Mq (EQ u.kids hne hl (aZ 8 false 0 q) (aZ 3 false 0 [aa q1])<|aZ 8 false 0 q2) fun a _=>Ke 2 (hd a)<|M2 (.fza 0 7 3 [3,6] q3) (jv rt rt rt ti) (bT (aY 0) (VY (xs:=List.map aV u2.kids) (ys:=Z a) (n:=n2) sA)<|aX iK u2.kids)<|Kf 1<|bd<|aa [iV u2.act,iV u2.item,iV u2.n,iV u2.kind,ax u2.label,aW<|u2.head.map aQ,aW<|u2.words.map aQ,aW q3]
theorem UZ{l m:List TUnit}{i:Nat}(h:i<l.length):gD (l++m) i=gD l i:=by
  grind[gD]
theorem tv{l m:List TUnit}{i n:Nat}{x:TUnit}(h:l.length=n)(hi:i<n):((l++m).set i x).take n=l.set i x:=by
  simp_all
theorem Sq{l m:List TUnit}{n:Nat}(h:l.length=n):(l++m).take n=l:=by simp_all
theorem Lv{l:List TUnit}{i:Nat}(h:i<l.length):l.drop i=gD l i::l.drop (i+1):=by
  grind[List.drop_eq_getElem_cons,gD]
theorem Xt{p:PId}{f:TUnit→TUnit}{l:List TUnit}{i:Nat}(h:jq p f l i (l.drop i))(hi:l.length≤i):eg p f l=l:=by
  grind[List.drop_eq_nil_of_le,jq.done]
theorem Xr{p:PId}{f:TUnit→TUnit}{l:List TUnit}{i:Nat}(h:jq p f l i (l.drop i))(hi:i<l.length)(hw:bA p (gD l i)=false):jq p f l (i+1) (l.drop (i+1)):=by
  grind[Lv,jq.skip]
theorem Xs{p:PId}{f:TUnit→TUnit}{l:List TUnit}{i:Nat}(h:jq p f l i (l.drop i))(hi:i<l.length)(hw:bA p (gD l i)=true):eg p f l=l.set i (dV p f (gD l i)):=by
  grind[Lv,jq.hit]
/-- The unit is another one without kids. -/
theorem Yb(g:Nat)(bs:List AV)(p:PId)(u:TUnit)(hA:aq [eU u,aK p,.func (.func g) [] bs]=0)(hA2:(AV.func (.func g) [] bs).top=0)(hp:(ah u.act p.a&&(ah u.item p.i&&ah u.n p.n))=false)(h0:u.kids.length=0)(hl0:aC 0 (Int.ofNat u.kids.length)=false):kP 149 [eU u,aK p,.func (.func g) [] bs] (eU u):=by
  have hc:=CL u.kids (by omega)
  let q:=[aZ 8 false 0 [aa [iV u.act,iV u.item,iV u.n,iV u.kind,ax u.label,aW (u.head.map aQ),aW (u.words.map aQ),aW (u.kids.map aV)]],aZ 3 false 0 [aa [iV p.a,iV p.i,iV p.n]],aZ 8 false 0 [aa [iV 0,iV 0,iV 0,iV 0,ax [],ay,ay,ay]]];let q1:=[bY (bV g) [] bs,bz 0 0 0 0,bz 1 0 0 0,bz 2 0 0 0,aW (u.kids.map aV),aW (u.kids.map aV),nV u.kids.length,iV 0];exact bI (ht:=oA) Tryz.func149<|Kv 5 (kR ((Tryz.prog).underlying 24) u.act u.item u.n p.a p.i p.n<|av q)<|Mh hp<|Kp 1 hc<|Kl 2 27 (ln aV u.kids)<|Mg 0<|ZK [2,3,4,6,7,26,27,28] (q1,q) True 0 ti fun _ _=>Kh 0 hl0<|Kf 4<|bd<|aa [iV u.act,iV u.item,iV u.n,iV u.kind,ax u.label,aW<|u.head.map aQ,aW<|u.words.map aQ,aW<|u.kids.map aV]
/-- The unit is another: what is done below. -/
theorem Ya(g:Nat)(bs:List AV)(p:PId)(f:TUnit→TUnit)(u:TUnit)(hA:aq [eU u,aK p,.func (.func g) [] bs]=0)(hA2:(AV.func (.func g) [] bs).top=0)(hp:(ah u.act p.a&&(ah u.item p.i&&ah u.n p.n))=false)(hne:u.kids≠[])(hn:u.kids.length≤2^20)
    (hf:∀k,k∈u.kids→kP 17 [eU k,aK p] (.tuple [eU (dh p k),.bool (bA p k)]))
    (ih:∀k,k∈u.kids→kP 149 [eU k,aK p,.func (.func g) [] bs] (eU (dV p f k))):kP 149 [eU u,aK p,.func (.func g) [] bs] (eU (eY u (eg p f u.kids))):=by
  have rr0:∀b',(h:(List.map aV (eY u (eg p f u.kids)).kids)=b':=by first|rfl|(rw[Xs hx0.2 (by(first|omega|(simp only[oN]at *;omega))) (by rw[←q0 (by(first|omega|(simp only[oN]at *;omega)))];assumption),q0 (by(first|omega|(simp only[oN]at *;omega)))];exact congrArg _ (tv rfl (by(first|omega|(simp only[oN]at *;omega)))).symm)|(rw[Xt hx0.2 (by(first|omega|(simp only[oN]at *;omega)))];exact congrArg _ (Sq rfl).symm))→(List.map aV (eY u (eg p f u.kids)).kids)=b':=(fun _ h=>h);exact bI (ht:=oA) Tryz.func149<|Kv 5 (kR ((Tryz.prog).underlying 24) u.act u.item u.n p.a p.i p.n<|av [aZ 8 false 0 [aa [iV u.act,iV u.item,iV u.n,iV u.kind,ax u.label,aW<|u.head.map aQ,aW<|u.words.map aQ,aW<|u.kids.map aV]],aZ 3 false 0 [aa [iV p.a,iV p.i,iV p.n]],aZ 8 false 0 [aa [iV 0,iV 0,iV 0,iV 0,ax [],ay,ay,ay]]])<|Mh hp<|Mg 1<|Mq (EQ u.kids hne hn (aZ 8 false 0 [aa [iV u.act,iV u.item,iV u.n,iV u.kind,ax u.label,aW<|u.head.map aQ,aW<|u.words.map aQ,aW<|u.kids.map aV]]) (aZ 3 false 0 [aa [iV p.a,iV p.i,iV p.n]])<|aZ 8 false 0 [aa [iV 0,iV 0,iV 0,iV 0,ax [],ay,ay,ay]]) fun a _=>Mg 3<|MO1 (0:Nat) [2,3,4,6,7,26,27,28] (fun b=>([bY (bV g) [] bs,bz 0 0 0 0,bz 1 0 0 0,bz 2 0 0 0,aD 3 0 0 u.kids.length<|some<|u.kids.length+a,aD 3 0 0 u.kids.length<|some<|u.kids.length+a,nV u.kids.length,nV b],[aZ 8 false 0 [aa [iV u.act,iV u.item,iV u.n,iV u.kind,ax u.label,aW<|u.head.map aQ,aW<|u.words.map aQ,aW<|u.kids.map aV]],aZ 3 false 0 [aa [iV p.a,iV p.i,iV p.n]],aZ 8 false 0 [aa [iV 0,iV 0,iV 0,iV 0,ax [],ay,ay,ay]],aZ 8 false 0<|(u.kids++List.replicate a bc).map aV])) (fun a=>a≤u.kids.length∧jq p f u.kids a (u.kids.drop a)) (fun a=>u.kids.length-a) (by simp_all[jq.start]) fun b hx0 c=>have hx0:b≤u.kids.length∧jq p f u.kids b (u.kids.drop b):=hx0;have q0:b<u.kids.length→gD (u.kids++List.replicate a bc) b=gD u.kids b:=fun h=>UZ h;Ka 0 (Int.ofNat b) (Int.ofNat u.kids.length) (fun _ _=>K1 0 .rix (et (aY 0) (sA:b<u.kids.length))<|Mr (et (aY 0)<|rU aV (g:=Go.Ev.eU) aR (gR:b<(u.kids++List.replicate a bc).length))<|Kp 4 (hf (gD (u.kids++List.replicate a bc) b)<|by grind[ib])<|Kb 6 (bA p<|gD (u.kids++List.replicate a bc) b) (fun _=>Kp 4 (ih (gD (u.kids++List.replicate a bc) b)<|by grind[ib])<|M1 .rix (et (aY 0) (sA:b<u.kids.length))<|M1 (.rst (aa [iV (gD (u.kids++List.replicate a bc) b).act,iV (gD (u.kids++List.replicate a bc) b).item,iV (gD (u.kids++List.replicate a bc) b).n,iV (gD (u.kids++List.replicate a bc) b).kind,ax (gD (u.kids++List.replicate a bc) b).label,aW<|List.map aQ (gD (u.kids++List.replicate a bc) b).head,aW<|List.map aQ (gD (u.kids++List.replicate a bc) b).words,aW<|List.map aV (gD (u.kids++List.replicate a bc) b).kids])<|((u.kids++List.replicate a bc).set b<|dV p f<|gD (u.kids++List.replicate a bc) b).map aV) (bT (aY 0) (rU aV (g:=Go.Ev.eU) aR (gR:b<(u.kids++List.replicate a bc).length))<|DV (f:=aV) (g:=Go.Ev.eU) aR (l:=u.kids++List.replicate a bc) (i:=b) (w:=dV p f<|gD (u.kids++List.replicate a bc) b))<|Mg 0<|M2 (.fsl 3 [3,6] 48<|(((u.kids++List.replicate a bc).set b<|dV p f<|gD (u.kids++List.replicate a bc) b).take u.kids.length).map aV) (jv rt rt rt ti) (bT (aY 0) (we (f:=aV) (l:=(u.kids++List.replicate a bc).set b<|dV p f<|gD (u.kids++List.replicate a bc) b) (n:=u.kids.length))<|aX iK<|((u.kids++List.replicate a bc).set b<|dV p f<|gD (u.kids++List.replicate a bc) b).take u.kids.length)<|Ml 48 (e9 ((((u.kids++List.replicate a bc).set b<|dV p f<|gD (u.kids++List.replicate a bc) b).take u.kids.length).map aV) (oW (some<|u.kids.length+a)<|some u.kids.length)<|aX iK<|((u.kids++List.replicate a bc).set b<|dV p f<|gD (u.kids++List.replicate a bc) b).take u.kids.length)<|Kf 3 (aP (.cons (bd _)<|.cons (bd _)<|.cons (bd _)<|.cons (bd _)<|.cons (bd _)<|.cons (bd _)<|.cons (bd _)<|.cons (cY<|rr0<|(((u.kids++List.replicate a bc).set b<|dV p f<|gD (u.kids++List.replicate a bc) b).take u.kids.length).map aV) .nil)<|by kernel_rfl:Le _ (AV.agg [iV u.act,iV u.item,iV u.n,iV u.kind,AV.str u.label,AV.ls (u.head.map aQ),AV.ls (u.words.map aQ),AV.ls ((((u.kids++List.replicate a bc).set b (dV p f (gD (u.kids++List.replicate a bc) b))).take u.kids.length).map aV)]))) fun _=>Kl 0 47 (iP b)<|Mg 0<|M2 (.frl 4 [3,4,6,7,26,27,28] [2]) (vG (OI (sz:=8) (op:=false) (ep:=0) (n:=4)<|aX iK<|u.kids++List.replicate a bc) rt rt rt ti) (et (oA:(AV.func (Fn.func g) [] bs).top≤4) ti)<|Mf<|c (b+1) (by grind[Xr]) gR) fun _ _=>Mg 0<|M2 (.fsl 3 [3,6] 48<|((u.kids++List.replicate a bc).take u.kids.length).map aV) (jv rt rt rt ti) (bT (aY 0) (we (f:=aV) (l:=u.kids++List.replicate a bc) (n:=u.kids.length))<|aX iK<|(u.kids++List.replicate a bc).take u.kids.length)<|Ml 48 (e9 (((u.kids++List.replicate a bc).take u.kids.length).map aV) (oW (some<|u.kids.length+a)<|some u.kids.length)<|aX iK<|(u.kids++List.replicate a bc).take u.kids.length)<|Kf 3 (aP (.cons (bd _)<|.cons (bd _)<|.cons (bd _)<|.cons (bd _)<|.cons (bd _)<|.cons (bd _)<|.cons (bd _)<|.cons (cY<|rr0<|((u.kids++List.replicate a bc).take u.kids.length).map aV) .nil)<|by kernel_rfl:Le _ (AV.agg [iV u.act,iV u.item,iV u.n,iV u.kind,AV.str u.label,AV.ls (u.head.map aQ),AV.ls (u.words.map aQ),AV.ls (((u.kids++List.replicate a bc).take u.kids.length).map aV)]))
theorem iU{g:Nat}{bs:List AV}{p:PId}(hb:aq bs=0)(x:TUnit):aq [eU x,aK p,.func (.func g) [] bs]=0:=by
  have h1:(eU x).top=0:=by rw[←aR];exact iK x
  have h2:(AV.func (.func g) [] bs).top=0:=by simp only[AV.top,aq,hb];rfl
  exact j9.2 fun y hy=>by
    simp only[fC,List.mem_nil_iff,or_false]at hy
    rcases hy with rfl|rfl|rfl
    · omega
    · exact JJ p
    omega
/-- with: the first unit of the number is changed, wherever it stands. -/
theorem oG(g:Nat)(bs:List AV)(p:PId)(f:TUnit→TUnit)(hb:aq bs=0):∀(u:TUnit),nU u≤2^19→(∀x,x∈bu u→x.head.length<2^30∧x.words.length<2^30)→
    (∀v,v∈bu u→fE p v=true→kP 149 [eU v,aK p,.func (.func g) [] bs] (eU (f v)))→kP 149 [eU u,aK p,.func (.func g) [] bs] (eU (dV p f u)):=by
  refine TUnit.ind fun u ih hn ht hit=>?_
  have hA:=iU (g:=g) (bs:=bs) (p:=p) hb
  cases hi:fE p u with
  |true=>grind[qS,dl]
  | false=>
    have hkl:=bg u
    rw[kF hi]
    by_cases h0:u.kids=[]
    · have e:eY u (eg p f u.kids)=u:=by rw[h0,sj];cases u;simp only[TUnit.kids]at h0;subst h0;rfl
      rw[e]
      exact Yb g bs p u (hA u) (by simp only[AV.top,aq,hb];rfl) hi (by simp_all) (by rw[h0];rfl)
    · exact Ya g bs p f u (hA u) (by simp only[AV.top,aq,hb];rfl) hi h0 (by omega) (fun k hk=>Q5 p k (by have:=iE hk;omega) fun x hx=>ht x (bH hk hx))
        fun k hk=>ih k hk (by have:=iE hk;omega) (fun x hx=>ht x (bH hk hx)) fun v hv=>hit v (bH hk hv)
theorem AB{bs:List AV}(rs:List Nat)(h0:fL rs 0=0)(hb:aq bs=0):lT (fL rs) (.ptr 0 0 0 0::bs)=.ptr 0 0 0 0::bs:=by
  grind[lT,Ev.ren,eR]
theorem Aw{g:Nat}{bs:List AV}{u u2:TUnit}{n n2 c:Nat}{X X2:List AV}{A B:AObj}(hb:aq bs=0)(hX:aq X=0)(hX2:aq X2=0)(h:kD g (.ptr 0 0 0 0::bs) (av [dF u (.slice 1 0 0 n (some c)),dG X]) (.tuple []) (av [dF u2 (.slice 1 0 0 n2 (some c)),dG X2])):
    kD g (.ptr 0 0 0 0::bs) (av [dF u (.slice 3 0 0 n (some c)),A,B,dG X]) (.tuple []) (av [dF u2 (.slice 3 0 0 n2 (some c)),A,B,dG X2]):=
  pm iJ [0,3] h (AB _ rfl hb) rfl rfl ⟨⟨rfl,vQ (by kernel_rfl)⟩,⟨rfl,by show aq X≤2;omega⟩,trivial⟩ ⟨⟨rfl,vQ (by kernel_rfl)⟩,⟨rfl,by show aq X2≤2;omega⟩,trivial⟩
    (by show Nat.mx _ (aq bs)≤2;rw[hb];exact vQ (by kernel_rfl)) (bL _) ⟨by kernel_rfl,by rw[vw hX];kernel_rfl,trivial⟩ ⟨by kernel_rfl,by kernel_rfl,trivial⟩
    (by show _=AHeap.put (AHeap.put _ _ _) _ (kK _ (.row 8 false 0 X2));rw[vw hX2];kernel_rfl)
theorem CE{g:Nat}{bs:List AV}{u u2:TUnit}{n c:Nat}{X Y:List AV}{A B:AObj}(hb:aq bs=0)(hX:aq X=0)(h:kD g (.ptr 0 0 0 0::bs) (av [dF u (.slice 1 0 0 n (some c)),dG X]) (.tuple []) (av [dF u2 (.ls Y),dG X])):
    kD g (.ptr 0 0 0 0::bs) (av [dF u (.slice 3 0 0 n (some c)),A,B,dG X]) (.tuple []) (av [dF u2 (.ls Y),A,B,dG X]):=
  pm iJ [0,3] h (AB _ rfl hb) rfl rfl ⟨⟨rfl,vQ (by kernel_rfl)⟩,⟨rfl,by show aq X≤2;omega⟩,trivial⟩ ⟨⟨rfl,vQ (by kernel_rfl)⟩,⟨rfl,by show aq X≤2;omega⟩,trivial⟩
    (by show Nat.mx _ (aq bs)≤2;rw[hb];exact vQ (by kernel_rfl)) (bL _) ⟨by kernel_rfl,by rw[vw hX];kernel_rfl,trivial⟩ ⟨by kernel_rfl,by kernel_rfl,trivial⟩
    (by show _=AHeap.put (AHeap.put _ _ _) _ (kK _ (.row 8 false 0 X));rw[vw hX];kernel_rfl)
theorem jT{g:Nat}{bs:List AV}{u u2:TUnit}{A B:AObj}{K K2:AV}(hb:aq bs=0)(h1:aq [.agg [iV u.act,iV u.item,iV u.n,iV u.kind,.str u.label,.ls (u.head.map aQ),.ls (u.words.map aQ),K]]=0)(h2:aq [.agg [iV u2.act,iV u2.item,iV u2.n,iV u2.kind,.str u2.label,.ls (u2.head.map aQ),.ls (u2.words.map aQ),K2]]=0)(h:kD g (.ptr 0 0 0 0::bs) (av [dF u K]) (.tuple []) (av [dF u2 K2])):
    kD g (.ptr 0 0 0 0::bs) (av [dF u K,A,B]) (.tuple []) (av [dF u2 K2,A,B]):=
  fj iJ 0 h1 h2 h (AB _ rfl hb) rfl rfl (by simp only[aq,AV.top,hb];rfl) rfl (by kernel_rfl) (by kernel_rfl)
/-- The unit is found; it has kids; a kid more is laid into its row, or into a new one. -/
theorem LZ(g:Nat)(bs:List AV)(p:PId)(u u2:TUnit)(n2:Nat)(Z:Nat→List AV)(hA:aq [eU u,aK p,.func (.func g) [] bs]=0)(hp:(ah u.act p.a&&(ah u.item p.i&&ah u.n p.n))=true)(hl:u.kids.length≤2^20)(hne:u.kids≠[])(hn2:u2.kids.length=n2)
    (hdA:∀k,By (Nat.beq k 0) true→kD g (.ptr 0 0 0 0::bs) (av [dF u (.slice 3 0 0 u.kids.length (some (u.kids.length+k))),vb p,zO,dG ((u.kids++List.replicate k bc).map aV)]) (.tuple []) (av [dF u2 (.ls (u2.kids.map aV)),vb p,zO,dG ((u.kids++List.replicate k bc).map aV)]))
    (hdB:∀k,By (Nat.beq k 0) false→kD g (.ptr 0 0 0 0::bs) (av [dF u (.slice 3 0 0 u.kids.length (some (u.kids.length+k))),vb p,zO,dG ((u.kids++List.replicate k bc).map aV)]) (.tuple []) (av [dF u2 (.slice 3 0 0 n2 (some (u.kids.length+k))),vb p,zO,dG (u2.kids.map aV++Z k)])):kP 149 [eU u,aK p,.func (.func g) [] bs] (eU u2):=by
  let q:=aa [iV u2.act,iV u2.item,iV u2.n,iV u2.kind,ax u2.label,aW (u2.head.map aQ),aW (u2.words.map aQ),aW (u2.kids.map aV)];let q1:=[aa [iV u.act,iV u.item,iV u.n,iV u.kind,ax u.label,aW (u.head.map aQ),aW (u.words.map aQ),aW (u.kids.map aV)]];let q2:=[iV p.a,iV p.i,iV p.n];let q3:=[aa [iV 0,iV 0,iV 0,iV 0,ax [],ay,ay,ay]];exact bI (ht:=oA) Tryz.func149<|Kv 5 (kR ((Tryz.prog).underlying 24) u.act u.item u.n p.a p.i p.n<|av [aZ 8 false 0 q1,aZ 3 false 0 [aa q2],aZ 8 false 0 q3])<|Mt hp<|Mg 1<|Mq (EQ u.kids hne hl (aZ 8 false 0 q1) (aZ 3 false 0 [aa q2])<|aZ 8 false 0 q3) fun a _=>Ks 2 (a.beq 0) (fun b=>Me (hdA a b)<|Kf 1<|bd q) fun b=>Me (hdB a b)<|M2 (.fza 0 7 3 [3,6]<|u2.kids.map aV) (jv rt rt rt ti) (bT (aY 0) (VY (xs:=List.map aV u2.kids) (ys:=Z a) (n:=n2) sA)<|aX iK u2.kids)<|Kf 1<|bd q
/-- The unit is found; it has no kids; it gets one. -/
theorem LX(g:Nat)(bs:List AV)(p:PId)(u u2:TUnit)(hA:aq [eU u,aK p,.func (.func g) [] bs]=0)(hp:(ah u.act p.a&&(ah u.item p.i&&ah u.n p.n))=true)(h0:u.kids=[])
    (hdN:kD g (.ptr 0 0 0 0::bs) (av [dF u .nils,vb p,zO]) (.tuple []) (av [dF u2 (.ls (u2.kids.map aV)),vb p,zO]))
    (hdP:kD g (.ptr 0 0 0 0::bs) (av [dF u (.ps [] true),vb p,zO]) (.tuple []) (av [dF u2 (.ls (u2.kids.map aV)),vb p,zO])):kP 149 [eU u,aK p,.func (.func g) [] bs] (eU u2):=by
  obtain⟨a,i,n,k,l,h,w,ks⟩:=u
  simp only[TUnit.kids]at h0
  subst h0
  let q:=aa [iV u2.act,iV u2.item,iV u2.n,iV u2.kind,ax u2.label,aW (u2.head.map aQ),aW (u2.words.map aQ),aW (u2.kids.map aV)];let q1:=[iV p.a,iV p.i,iV p.n];exact bI (ht:=oA) Tryz.func149<|Kv 5 (kR ((Tryz.prog).underlying 24) (TUnit.mk a i n k l h w []).act (TUnit.mk a i n k l h w []).item (TUnit.mk a i n k l h w []).n p.a p.i p.n<|av [aZ 8 false 0 [aa [iV (TUnit.mk a i n k l h w []).act,iV (TUnit.mk a i n k l h w []).item,iV (TUnit.mk a i n k l h w []).n,iV (TUnit.mk a i n k l h w []).kind,ax l,aW<|List.map aQ (TUnit.mk a i n k l h w []).head,aW<|List.map aQ (TUnit.mk a i n k l h w []).words,aW []]],aZ 3 false 0 [aa q1],aZ 8 false 0 [aa [iV 0,iV 0,iV 0,iV 0,ax [],ay,ay,ay]]])<|Mt hp<|Mg 1<|Mz 17 (fun(_:([]:List AV)=[])=>Mp HV<|Ke 2 hdN<|Kf 1<|bd q)<|Mp HK<|Ke 2 hdP<|Kf 1<|bd q
theorem j8{a b:List AV}(h1:aq a=0)(h2:aq b=0):aq (a++b)=0:=j9.2 fun x hx=>by
  rcases jy.1 hx with h|h
  · exact j9.1 h1 x h
  · exact j9.1 h2 x h
theorem Q3(l:List TUnit):dD 8 (l.map aV)=true:=gn (fun u=>by cases u;rfl) l
theorem Uq(x:TUnit):dD 8 [eU x]=true:=by kernel_rfl
theorem NB(x:TUnit):(eU x).top=0:=by rw[←aR];exact iK x
theorem tY{i:Nat}{x:TUnit}{l:List AV}(h:aq l=0):aq (gm i (eU x) l)=0:=j9.2 fun y hy=>by
  unfold gm at hy
  rcases jy.1 hy with h1|h1
  · exact j9.1 h y (tJ h1)
  · rcases fC.1 h1 with rfl|h1
    · exact NB x
    · exact j9.1 h y (Oq h1)
theorem K8(i:Nat)(x:TUnit)(l:List TUnit):(wO i x l).map aV=gm i (eU x) (l.map aV):=by
  unfold wO gm
  rw[po,eD,List.map_take,List.map_drop,aR]
theorem La(i:Nat)(l:List TUnit):(l.eraseIdx i).map aV=(l.map aV).eraseIdx i:=by
  grind[List.eraseIdx_eq_take_drop_succ,List.map_take,List.map_drop]
theorem Cf{i:Nat}{x:TUnit}{l:List TUnit}(h:i≤l.length):(wO i x l).length=l.length+1:=by
  grind[wO]
theorem F3(l:List TUnit)(k:Nat):(l++List.replicate k bc).map aV=l.map aV++List.replicate k (aV bc):=by simp_all
theorem mV(k:Nat):aq (List.replicate k (aV bc))=0:=by rw[←List.map_replicate];exact aX iK _
/-- A kid is taken out. -/
theorem Of(p:PId)(i:Nat)(u:TUnit)(hn:nU u≤2^19)(ht:∀x,x∈bu u→x.head.length<2^30∧x.words.length<2^30)(hv:∀v,v∈bu u→fE p v=true→i<v.kids.length):
    aM Tryz.prog G 149 [eU u,aK p,.func (.func 209) [] [.pptr [.int .i64 (.ofNat i)] 0 0]] (eU (dV p (gp i) u)):=by
  refine oG _ _ p (gp i) rfl u hn ht fun v hm hid=>?_
  have hi:=hv v hm hid
  have hkl:=bg v
  have hvu:=dO hm
  have hl:v.kids.length≤2^20:=by omega
  refine T5 _ _ p v (gp i v) (v.kids.length-1) (fun k=>zU::List.replicate k (aV bc)) (iU rfl v) hid hl (fun e=>by grind) (by show(v.kids.eraseIdx i).length=_;grind) fun k=>?_
  have h:=Rc (v.kids.map aV) (List.replicate k (aV bc)) v.kids.length i hi (b7 _) hl (Q3 _) (j8 (aX iK _) (mV k))
  rw[qX]at h
  have hT:aq ((v.kids.map aV).eraseIdx i++(zU::List.replicate k (aV bc)))=0:=j8 (by rw[←La];exact aX iK _) (by show Nat.mx zU.top (aq _)=0;rw[mV];rfl)
  rw[F3]
  show aH _ _ _ _ _ fun v1 h1=>v1=.tuple []∧h1=av [dF v (.slice 3 0 0 (v.kids.length-1) (some (v.kids.length+k))),vb p,zO,dG ((v.kids.eraseIdx i).map aV++_)]
  rw[La]
  refine Aw rfl (j8 (aX iK _) (mV k)) hT (Xp v v.kids.length _ i _ _ (j8 (aX iK _) (mV k)) hT hi hl ?_)
  exact fj iJ 1 (j8 (aX iK _) (mV k)) hT h rfl rfl (by simp_all) (by kernel_rfl) (by kernel_rfl) (by kernel_rfl) (by kernel_rfl)
theorem V7(x:TUnit)(t:Bool)(off len c:Nat)(X:List AV):kD 207 [.ps [eU x] t,.slice 0 0 off len (some c)] (av [dG X]) (.bool false) (av [dG X]):=
  Bz (tS:=34) (tR:=4) (e:=36) (n:=8) Tryz.func207 (by kernel_rfl) (by kernel_rfl) (by kernel_rfl) (by kernel_rfl) (by simp_all) (by kernel_rfl) (mW _ _) (by kernel_rfl:(av [dG X]).get 0=some (.row 8 false 0 X))
/-- A kid laid into a row that has room. -/
theorem GQ(L:List AV)(x:TUnit)(z:AV)(Z:List AV)(n k i:Nat)(hi:i≤n)(hn:L.length=n)(hs:n<2^20)(hk:Z.length=k)(hf:dD 8 L=true)(hT:aq (L++z::Z)=0):kD 151 [.slice 0 0 0 n (some (n+(k+1))),nV i,.ps [eU x] true] (av [dG (L++z::Z)]) (.slice 0 0 0 (n+1) (some (n+(k+1)))) (av [dG (gm i (eU x) L++Z)]):=by
  rcases fF i n with h|h
  · grind[Qe,Uq,V7]
  · obtain rfl:i=n:=by omega
    exact Qg L Z (eU x) z true i k hn hs hk (Uq x)
theorem GW(L:List AV)(x:TUnit)(n i:Nat)(hi:i≤n)(hn:L.length=n)(hs:n<2^20)(hf:dD 8 L=true)(hT:aq L=0):kD 151 [.slice 0 0 0 n (some n),nV i,.ps [eU x] true] (av [dG L]) (.ls (gm i (eU x) L)) (av [dG L]):=by
  rcases fF i n with h|h
  · refine Qd L (eU x) true n i h hn hs (Uq x) hf hT (j9.2 fun y hy=>?_) (tY hT)
    rcases jy.1 hy with h1|h1
    · exact j9.1 hT y (tJ h1)
    · rcases fC.1 h1 with rfl|h1
      · exact NB x
      · rw[(List.mem_replicate.1 h1).2];rfl
  · grind[Qf,Uq,tY]
/-- A kid is laid in. -/
theorem Od(p:PId)(i:Nat)(x u:TUnit)(hn:nU u≤2^19)(ht:∀x,x∈bu u→x.head.length<2^30∧x.words.length<2^30)(hv:∀v,v∈bu u→fE p v=true→i≤v.kids.length):
    aM Tryz.prog G 149 [eU u,aK p,.func (.func 150) [] [.pptr [.int .i64 (.ofNat i)] 0 0,.pptr [eU x] 0 0]] (eU (dV p (dC i x) u)):=by
  have hb:aq [.pptr [.int .i64 (.ofNat i)] 0 0,.pptr [eU x] 0 0]=0:=by kernel_rfl
  refine oG _ _ p (dC i x) hb u hn ht fun v hm hid=>?_
  have hi:=hv v hm hid
  have hkl:=bg v
  have hvu:=dO hm
  have hl:v.kids.length<2^20:=by omega
  have hK:=aX iK v.kids
  by_cases h0:v.kids=[]
  · rw[h0]at hi
    obtain rfl:i=0:=by simp_all
    have e:(dC 0 x v).kids =[x]:=by show wO 0 x v.kids=[x];rw[h0];rfl
    have e2:(dC 0 x v).kids.map aV=[eU x]:=by rw[e,eD,aR];rfl
    refine LX _ _ p v (dC 0 x v) (iU hb v) hid h0 ?_ ?_
    · rw[e2];exact jT (u2:=dC 0 x v) hb (by kernel_rfl) (by kernel_rfl) (Wi v x [eU x] (GX x true))
    · rw[e2];exact jT (u2:=dC 0 x v) hb (by kernel_rfl) (by kernel_rfl) (Wh v x [eU x] (GZ x true))
  · have e2:(dC i x v).kids.map aV=gm i (eU x) (v.kids.map aV):=K8 i x v.kids
    refine LZ _ _ p v (dC i x v) (v.kids.length+1) (fun k=>List.replicate (k-1) (aV bc)) (iU hb v) hid (by omega) h0 (Cf hi) (fun k hk=>?_) fun k hk=>?_
    · obtain rfl:k=0:=pp hk
      rw[e2,F3,List.replicate_zero,ec]
      refine CE (u2:=dC i x v) hb hK (Wl v x v.kids.length _ i _ _ hK ?_)
      exact fj iJ 1 hK hK (GW (v.kids.map aV) x v.kids.length i hi (b7 _) hl (Q3 _) hK) rfl rfl (by simp_all) (by kernel_rfl) (by kernel_rfl) (by kernel_rfl) (by kernel_rfl)
    · obtain⟨j,rfl⟩:∃j,k=j+1:=⟨k-1,by grind[Nat.ne_of_beq_eq_false]⟩
      rw[e2,F3,show j+1-1=j from rfl,List.replicate_succ]
      have hT:aq (v.kids.map aV++aV bc::List.replicate j (aV bc))=0:=by rw[←List.replicate_succ];grind[j8,mV]
      have hT2:aq (gm i (eU x) (v.kids.map aV)++List.replicate j (aV bc))=0:=j8 (tY hK) (mV _)
      refine Aw (u2:=dC i x v) hb hT hT2 (Wm v x v.kids.length _ i _ _ hT hT2 ?_)
      exact fj iJ 1 hT hT2 (GQ (v.kids.map aV) x (aV bc) (List.replicate j (aV bc)) v.kids.length j i hi (b7 _) hl (qX ..) (Q3 _) hT) rfl rfl (by simp_all) (by kernel_rfl) (by kernel_rfl) (by kernel_rfl) (by kernel_rfl)
/-- A kid is laid in. -/
theorem Ob(p:PId)(i:Nat)(x u:TUnit)(hn:nU u≤2^19)(ht:∀x,x∈bu u→x.head.length<2^30∧x.words.length<2^30)(hv:∀v,v∈bu u→fE p v=true→i≤v.kids.length):
    aM Tryz.prog G 149 [eU u,aK p,.func (.func 160) [] [.pptr [.int .i64 (.ofNat i)] 0 0,.pptr [eU x] 0 0]] (eU (dV p (dC i x) u)):=by
  have hb:aq [.pptr [.int .i64 (.ofNat i)] 0 0,.pptr [eU x] 0 0]=0:=by kernel_rfl
  refine oG _ _ p (dC i x) hb u hn ht fun v hm hid=>?_
  have hi:=hv v hm hid
  have hkl:=bg v
  have hvu:=dO hm
  have hl:v.kids.length<2^20:=by omega
  have hK:=aX iK v.kids
  by_cases h0:v.kids=[]
  · rw[h0]at hi
    obtain rfl:i=0:=by simp_all
    have e:(dC 0 x v).kids =[x]:=by show wO 0 x v.kids=[x];rw[h0];rfl
    have e2:(dC 0 x v).kids.map aV=[eU x]:=by rw[e,eD,aR];rfl
    refine LX _ _ p v (dC 0 x v) (iU hb v) hid h0 ?_ ?_
    · rw[e2];exact jT (u2:=dC 0 x v) hb (by kernel_rfl) (by kernel_rfl) (Wq v x [eU x] (GX x true))
    · rw[e2];exact jT (u2:=dC 0 x v) hb (by kernel_rfl) (by kernel_rfl) (WU v x [eU x] (GZ x true))
  · have e2:(dC i x v).kids.map aV=gm i (eU x) (v.kids.map aV):=K8 i x v.kids
    refine LZ _ _ p v (dC i x v) (v.kids.length+1) (fun k=>List.replicate (k-1) (aV bc)) (iU hb v) hid (by omega) h0 (Cf hi) (fun k hk=>?_) fun k hk=>?_
    · obtain rfl:k=0:=pp hk
      rw[e2,F3,List.replicate_zero,ec]
      refine CE (u2:=dC i x v) hb hK (Wz v x v.kids.length _ i _ _ hK ?_)
      exact fj iJ 1 hK hK (GW (v.kids.map aV) x v.kids.length i hi (b7 _) hl (Q3 _) hK) rfl rfl (by simp_all) (by kernel_rfl) (by kernel_rfl) (by kernel_rfl) (by kernel_rfl)
    · obtain⟨j,rfl⟩:∃j,k=j+1:=⟨k-1,by grind[Nat.ne_of_beq_eq_false]⟩
      rw[e2,F3,show j+1-1=j from rfl,List.replicate_succ]
      have hT:aq (v.kids.map aV++aV bc::List.replicate j (aV bc))=0:=by rw[←List.replicate_succ];grind[j8,mV]
      have hT2:aq (gm i (eU x) (v.kids.map aV)++List.replicate j (aV bc))=0:=j8 (tY hK) (mV _)
      refine Aw (u2:=dC i x v) hb hT hT2 (Wx v x v.kids.length _ i _ _ hT hT2 ?_)
      exact fj iJ 1 hT hT2 (GQ (v.kids.map aV) x (aV bc) (List.replicate j (aV bc)) v.kids.length j i hi (b7 _) hl (qX ..) (Q3 _) hT) rfl rfl (by simp_all) (by kernel_rfl) (by kernel_rfl) (by kernel_rfl) (by kernel_rfl)
theorem Ov(p:PId)(l:List PWord)(u:TUnit)(hn:nU u≤2^19)(ht:∀x,x∈bu u→x.head.length<2^30∧x.words.length<2^30):
    kP 149 [eU u,aK p,.func (.func 154) [] [.pptr [.ls (l.map aQ)] 0 0]] (eU (dV p (mJ l) u)):=by
  have hb:aq [.pptr [.ls (l.map aQ)] 0 0]=0:=by kernel_rfl
  refine oG _ _ p (mJ l) hb u hn ht fun v hm hid=>?_
  have hkl:=bg v
  have hvu:=dO hm
  exact yW _ _ p v ((mJ l) v) (iU hb v) hid (by omega) (jT hb (by kernel_rfl) (by kernel_rfl) (Xn v l))
theorem Oa(p:PId)(l:List PWord)(u:TUnit)(hn:nU u≤2^19)(ht:∀x,x∈bu u→x.head.length<2^30∧x.words.length<2^30):
    kP 149 [eU u,aK p,.func (.func 156) [] [.pptr [.ls (l.map aQ)] 0 0]] (eU (dV p (mJ l) u)):=by
  have hb:aq [.pptr [.ls (l.map aQ)] 0 0]=0:=by kernel_rfl
  refine oG _ _ p (mJ l) hb u hn ht fun v hm hid=>?_
  have hkl:=bg v
  have hvu:=dO hm
  exact yW _ _ p v ((mJ l) v) (iU hb v) hid (by omega) (jT hb (by kernel_rfl) (by kernel_rfl) (YZ v l))
theorem Oe(p:PId)(l:List PWord)(u:TUnit)(hn:nU u≤2^19)(ht:∀x,x∈bu u→x.head.length<2^30∧x.words.length<2^30):
    kP 149 [eU u,aK p,.func (.func 158) [] [.pptr [.ls (l.map aQ)] 0 0]] (eU (dV p (zL l) u)):=by
  have hb:aq [.pptr [.ls (l.map aQ)] 0 0]=0:=by kernel_rfl
  refine oG _ _ p (zL l) hb u hn ht fun v hm hid=>?_
  have hkl:=bg v
  have hvu:=dO hm
  exact yW _ _ p v ((zL l) v) (iU hb v) hid (by omega) (jT hb (by kernel_rfl) (by kernel_rfl) (Yo v l))
theorem Oy(p:PId)(d:PDeed)(u:TUnit)(hn:nU u≤2^19)(ht:∀x,x∈bu u→x.head.length<2^30∧x.words.length<2^30):
    kP 149 [eU u,aK p,.func (.func 159) [] [.pptr [aU d] 0 0]] (eU (dV p (pU d.it.label) u)):=by
  have hb:aq [.pptr [aU d] 0 0]=0:=by kernel_rfl
  refine oG _ _ p (pU d.it.label) hb u hn ht fun v hm hid=>?_
  have hkl:=bg v
  have hvu:=dO hm
  exact yW _ _ p v ((pU d.it.label) v) (iU hb v) hid (by omega) (jT hb (by kernel_rfl) (by kernel_rfl) (X9 v d))
end Go.Proofs.YtjokefckffbpeaaGreatDoor
