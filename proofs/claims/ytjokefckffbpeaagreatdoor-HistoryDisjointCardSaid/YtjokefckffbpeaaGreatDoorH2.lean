/- Functions walked: what each of them answers, for the law of disjoint versions: part 2. Conditions: those that each theorem names. -/
import Derived.Test.YtjokefckffbpeaaGreatDoorH1
namespace Go.Proofs.YtjokefckffbpeaaGreatDoor
open Go Go.Ev
theorem lW(u:TUnit)(s:PStep):kP 229 [eU u,az s] (.bool (bD s u)):=by
  have rr0 b' (h:(bD s u)=b':=by(simp only[bD,bx,aS,ax,bS, *];first|done|rfl)):=h;exact bM Tryz.func229<|Kb 8 (ah u.kind s.kind) (fun a=>Kt 0 a<|Kt 0 a<|Kt 0 a<|Kt 0 a<|Ku 0 a<|Kf 0<|cb<|rr0<|eX u.label s.label) fun a=>Mh a<|Mh a<|Mh a<|Mh a<|My a<|Ky 0<|rr0 false
noncomputable abbrev jA(p:List PStep):AObj:=.row 1 false 0 [.ls (p.map az)]
noncomputable abbrev Eb(ep n:Nat):AObj:=.row 1 false 0 [.slice 2 ep 0 n none]
noncomputable abbrev Bf(ep:Nat)(l:List TUnit):AObj:=.row 8 true ep (l.map aV)
noncomputable abbrev NK:AObj:=.row 1 false 0 [.nils]
theorem CD(s:PStep)(rs:List PStep)(u:TUnit)(h:By (bD s u) false):kD 228 [eU u,.ptr 0 0 0 0,.ptr 1 0 0 0] (av [jA (s::rs),NK]) (.tuple []) (av [jA (s::rs),NK]):=by
  have h':bD s u=false:=h
  exact eg Tryz.func228 fun a=>Kp 4 (lW u s)<|Mh h'<|M1 (.frz 2 []) (b6 rt rt ti)<|Mf a
theorem I7(s:PStep)(rs:List PStep)(u:TUnit)(h:By (bD s u) true):kD 228 [eU u,.ptr 0 0 0 0,.ptr 1 0 0 0] (av [jA (s::rs),NK]) (.tuple []) (av [jA (s::rs),Eb 0 1,Bf 0 [u]]):=by
  have h':bD s u=true:=h
  exact JF Tryz.func228<|Kp 4 (lW u s)<|Mt h'<|Mg 7<|M0 (.ren [0,1,3,2] [] [])<|M1 (.frz 3 []) (jc rt rt rt ti)<|Mf<|et (aY<|b9 []) (by(simp only[Bf,eB,wq,aO];rfl):(av [AObj.row 1 false 0 [AV.ls ((s::rs).map az)],AObj.row 1 false 0 [AV.slice 2 0 0 1 none],AObj.row 8 true 0 [AV.agg [iV u.act,iV u.item,iV u.n,iV u.kind,AV.str u.label,AV.ls (u.head.map aQ),AV.ls (u.words.map aQ),AV.ls (u.kids.map aV)]]])=(av [jA (s::rs),Eb 0 1,Bf 0 [u]]))
theorem Ni(s:PStep)(rs:List PStep)(u:TUnit)(ep n:Nat)(l:List TUnit)(h:By (bD s u) false):kD 228 [eU u,.ptr 0 0 0 0,.ptr 1 0 0 0] (av [jA (s::rs),Eb ep n,Bf ep l]) (.tuple []) (av [jA (s::rs),Eb ep n,Bf ep l]):=by
  have h':bD s u=false:=h
  exact eg Tryz.func228 fun a=>Kp 4 (lW u s)<|Mh h'<|M1 (.frz 3 []) (jc (tR 8 true ep 3<|aX iY l) rt rt ti)<|Mf a
theorem Nl(s:PStep)(rs:List PStep)(u:TUnit)(ep n:Nat)(l:List TUnit)(h:By (bD s u) true)(hn:n=l.length)(hl:l.length<2^30):kD 228 [eU u,.ptr 0 0 0 0,.ptr 1 0 0 0] (av [jA (s::rs),Eb ep n,Bf ep l]) (.tuple []) (av [jA (s::rs),Eb (ep+1) (n+1),Bf (ep+1) (l++[u])]):=by
  have h':bD s u=true:=h
  let q:=[iV 0,iV 0,iV 0,iV 0,aj [],ab,ab,ab];let q1:=List.map aV l++[ay q];exact eg Tryz.func228 fun a=>Kp 4 (lW u s)<|Mt h'<|Mg 3<|Mw (.apx q1<|.rix<|.rst (ay q) ((l++[u]).map aV)<|.go 0<|.frz 3 [] .fin)<|WT rt (iX (tR 8 true ep 4<|aX iY l) rt) (et (mJ _ _:([ay q]:List AV)≠[]) rt) (et (b6 (aY ep) (sA:n=(l.map aV).length) (by(refine aM (m:=2^31) ?_ ?_ ?_<;>(try simp only[lC,lN])<;>omega):small (n+([AV.agg [iV 0,iV 0,iV 0,iV 0,AV.str [],AV.nils,AV.nils,AV.nils]]).length) 120=true))<|aY q1) (et (aY<|ep+1) (oA:n<n+1)) rt (iX (tR 8 true (ep+1) 4 (by exact VI _ rfl:aq q1=0)) rt) (b6 (aY<|ep+1) (PT (f:=aV) (l:=l) (z:=ay q) (oA:n=(l).length))<|PY (f:=aV) (g:=Go.Ev.eU) aO (l:=l) (z:=ay q) (w:=u) (oA:n=(l).length)) (jc (tR 8 true (ep+1) 3<|aX iY<|l++[u]) rt rt ti) a
theorem HW(s:PStep)(rs:List PStep):∀(u:TUnit),∀(ep n:Nat)(l:List TUnit),n=l.length→l.length+nU u<2^30→kC 227 [eU u,.func (.func 228) [] [.ptr 0 0 0 0,.ptr 1 0 0 0]] (av [jA (s::rs),Eb ep n,Bf ep l])
    (fun v h=>∃y:Nat×Nat×List TUnit,(y.2.1=y.2.2.length∧y.2.2=l++lw s u)∧v=.tuple []∧h=av [jA (s::rs),Eb y.1 y.2.1,Bf y.1 y.2.2]):=by
  refine TUnit.ind fun u ih ep n l hn hl=>?_
  have hq:=jq u
  have hkl:=bf u
  have hp:=zY s u
  rcases Bool.eq_false_or_eq_true (bD s u)with hc|hc
  · rw[hc]at hp
    exact qY Tryz.func227 fun a=>K1 2 (.frz 3 [1,2,6,7]) (jc (tR 8 true ep 3<|aX iY l) rt rt ti)<|Me (Nl s rs u ep n l hc hn oA)<|Kl 2 11 (ln aV u.kids)<|Mg 0<|VX aV u.kids (ep+1) (n+1) (l++[u]) [1,10,11,12] (fun a _ b c d=>([bU (bY 228) [] [bJ 0 0 0 0,bJ 1 0 0 0],aW<|u.kids.map aV,nV u.kids.length,nV a],[aZ 1 false 0 [aW<|(s::rs).map az],aZ 1 false 0 [aE 2 b 0 c none],aZ 8 true b<|d.map aV])) (fun a _ b c=>b=c.length∧c++dx s a=l++[u]++dx s u.kids∧c.length+eV a<2^30) gR (fun _ _ b c d _ _ _ e _=>Kh 0 e<|Mf<|a (b,c,d)<|by grind[mP]) fun a _ b c d e f g i j k m _ o _=>have o:=(o).trans<|congrArg some<|aO g;have:=ch (J:=fun a b=>b.2.1=b.2.2.length∧b.2.2++dx s a=l++[u]++dx s u.kids∧b.2.2.length+eV a<2^30) (a:=(b,c,d)) k f;have e:=aN e k;have f:d.length+nU g<2^30:=(by grind[be]);Kt 0 m<|Mx o<|K1 4 (.frz 3 [1,10,11,12,16,17]) (jc (tR 8 true b 3<|aX iY d) rt rt ti)<|Mq (ih g e b c d oA f) fun b _=>Kl 0 19 (dq a)<|Kf 0<|j b.1 b.2.1 b.2.2<|by grind[be,gM,mh]
  · rw[hc]at hp
    exact qY Tryz.func227 fun a=>K1 2 (.frz 3 [1,2,6,7]) (jc (tR 8 true ep 3<|aX iY l) rt rt ti)<|Me (Ni s rs u ep n l hc)<|Kl 2 11 (ln aV u.kids)<|Mg 0<|VX aV u.kids ep n l [1,10,11,12] (fun a _ b c d=>([bU (bY 228) [] [bJ 0 0 0 0,bJ 1 0 0 0],aW<|u.kids.map aV,nV u.kids.length,nV a],[aZ 1 false 0 [aW<|(s::rs).map az],aZ 1 false 0 [aE 2 b 0 c none],aZ 8 true b<|d.map aV])) (fun a _ b c=>b=c.length∧c++dx s a=l++dx s u.kids∧c.length+eV a<2^30) gR (fun _ _ b c d _ _ _ e _=>Kh 0 e<|Mf<|a (b,c,d)<|by grind[mP]) fun a _ b c d e f g i j k m _ o _=>have o:=(o).trans<|congrArg some<|aO g;have:=ch (J:=fun a b=>b.2.1=b.2.2.length∧b.2.2++dx s a=l++dx s u.kids∧b.2.2.length+eV a<2^30) (a:=(b,c,d)) k f;have e:=aN e k;have f:d.length+nU g<2^30:=(by grind[be]);Kt 0 m<|Mx o<|K1 4 (.frz 3 [1,10,11,12,16,17]) (jc (tR 8 true b 3<|aX iY d) rt rt ti)<|Mq (ih g e b c d oA f) fun b _=>Kl 0 19 (dq a)<|Kf 0<|j b.1 b.2.1 b.2.2<|by grind[be,gM,mh]
theorem HJ(s:PStep)(rs:List PStep):∀(u:TUnit),nU u≤2^20→By (lw s u).isEmpty true→kD 227 [eU u,.func (.func 228) [] [.ptr 0 0 0 0,.ptr 1 0 0 0]] (av [jA (s::rs),NK]) (.tuple []) (av [jA (s::rs),NK]):=by
  refine TUnit.ind fun u ih hn he=>?_
  have hkl:=bf u
  have hp:=zY s u
  have he':=yb.1 (show(lw s u).isEmpty=true from he)
  rw[he']at hp
  rcases Bool.eq_false_or_eq_true (bD s u)with hc|hc
  · grind
  · rw[hc]at hp
    have hp:dx s u.kids=[]:=hp.symm
    exact eg Tryz.func227 fun a=>K1 2 (.frz 2 [1,2,6,7]) (b6 rt rt ti)<|Me (CD s rs u hc)<|Kl 2 11 (ln aV u.kids)<|Mg 0<|tJ aV u.kids [1,10,11,12] (fun a _=>([bU (bY 228) [] [bJ 0 0 0 0,bJ 1 0 0 0],aW<|u.kids.map aV,nV u.kids.length,nV a],[aZ 1 false 0 [aW<|(s::rs).map az],aZ 1 false 0 [ab]])) (fun a=>dx s a=[]) oA (fun _ _ _ _ _ b _=>Kh 0 b<|Mf a) fun a _ b _ c d e f g _ h i=>have h:=h.trans<|congrArg some<|aO c;have j:=aN b f;have b:=bT (tK<|iH<|aN b f) hn;have f:(lw s c).isEmpty=true:=(by rw[gM]at i;rw[(List.append_eq_nil_iff.1 i).1];rfl);Kt 0 g<|Mx h<|K1 4 (.frz 2 [1,10,11,12,16,17]) (b6 rt rt ti)<|Me (ih c j b f)<|Kl 0 19 (dq a)<|Kf 0<|e<|by grind[gM]
theorem Ra(s:PStep)(rs:List PStep):∀(u:TUnit),nU u≤2^20→By (lw s u).isEmpty false→kC 227 [eU u,.func (.func 228) [] [.ptr 0 0 0 0,.ptr 1 0 0 0]] (av [jA (s::rs),NK])
    (fun v h=>∃y:Nat×Nat×List TUnit,(y.2.1=y.2.2.length∧y.2.2=lw s u)∧v=.tuple []∧h=av [jA (s::rs),Eb y.1 y.2.1,Bf y.1 y.2.2]):=by
  refine TUnit.ind fun u ih hn he=>?_
  have hq:=jq u
  have hkl:=bf u
  have hp:=zY s u
  rcases Bool.eq_false_or_eq_true (bD s u)with hc|hc
  · rw[hc]at hp
    exact qY Tryz.func227 fun a=>K1 2 (.frz 2 [1,2,6,7]) (b6 rt rt ti)<|Me (I7 s rs u hc)<|Kl 2 11 (ln aV u.kids)<|Mg 0<|VX aV u.kids (0:Nat) (1:Nat) ([u]:List TUnit) [1,10,11,12] (fun a _ b c d=>([bU (bY 228) [] [bJ 0 0 0 0,bJ 1 0 0 0],aW<|u.kids.map aV,nV u.kids.length,nV a],[aZ 1 false 0 [aW<|(s::rs).map az],aZ 1 false 0 [aE 2 b 0 c none],aZ 8 true b<|d.map aV])) (fun a _ b c=>b=c.length∧c++dx s a=[u]++dx s u.kids∧c.length+eV a<2^30) gR (fun _ _ b c d _ _ _ e _=>Kh 0 e<|Mf<|a (b,c,d)<|by grind[mP]) fun a _ b c d e f g i j k l _ m _=>have m:=(m).trans<|congrArg some<|aO g;have:=ch (J:=fun a b=>b.2.1=b.2.2.length∧b.2.2++dx s a=[u]++dx s u.kids∧b.2.2.length+eV a<2^30) (a:=(b,c,d)) k f;have:=aN e k;have e:d.length+nU g<2^30:=(by grind[be]);Kt 0 l<|Mx m<|K1 4 (.frz 3 [1,10,11,12,16,17]) (jc (tR 8 true b 3<|aX iY d) rt rt ti)<|Mq (HW s rs g b c d oA e) fun b _=>Kl 0 19 (dq a)<|Kf 0<|j b.1 b.2.1 b.2.2<|by grind[be,gM,mh]
  · rw[hc]at hp
    have hne:dx s u.kids≠[]:=fun e=>by
      simp_all
    exact qY Tryz.func227 fun a=>K1 2 (.frz 2 [1,2,6,7]) (b6 rt rt ti)<|Me (CD s rs u hc)<|Kl 2 11 (ln aV u.kids)<|Mg 0<|kr Nat Nat (List TUnit) aV u.kids [1,10,11,12] (fun a _=>([bU (bY 228) [] [bJ 0 0 0 0,bJ 1 0 0 0],aW<|u.kids.map aV,nV u.kids.length,nV a],[aZ 1 false 0 [aW<|(s::rs).map az],aZ 1 false 0 [ab]])) (fun a _ b c d=>([bU (bY 228) [] [bJ 0 0 0 0,bJ 1 0 0 0],aW<|u.kids.map aV,nV u.kids.length,nV a],[aZ 1 false 0 [aW<|(s::rs).map az],aZ 1 false 0 [aE 2 b 0 c none],aZ 8 true b<|d.map aV])) (fun a=>a≠[]∧dx s a=dx s u.kids) (fun a _ b c=>b=c.length∧c++dx s a=dx s u.kids∧c.length+eV a<2^30) (by(exact⟨Km rfl hne,rfl⟩)) (fun _ _ _ _ _ _ _=>Mw .abs (sA:False)) (fun a _ b c d f g i j k _ l _=>have l:=(l).trans<|congrArg some<|aO d;have:=ch (J:=fun a _=>a≠[]∧dx s a=dx s u.kids) (a:=()) j c;have c:=aN b j;have m:=bT (tK<|iH<|aN b j) hn;have:nU d+eV f≤2^20:=(by have z:=o3 b j;omega);Kt 0 k<|Mx l<|K1 4 (.frz 2 [1,10,11,12,16,17]) (b6 rt rt ti)<|Ms (lw s d).isEmpty (fun b=>Me (HJ s rs d m b)<|Kl 0 19 (dq a)<|Kf 0<|g<|by(have e:dx s f=dx s u.kids:=(by grind[gM]);exact⟨Km e hne,e⟩)) fun b=>Mq (ih d c m b) fun b _=>Kl 0 19 (dq a)<|Kf 0<|i b.1 b.2.1 b.2.2<|by grind[gM,mh]) (fun _ _ b c d _ _ _ f g=>Kh 0 f<|Mf<|a (b,c,d)<|by(refine⟨g.1,?_⟩;have:=g.2.1;rw[mP,ec]at this;simp_all)) fun a _ b c d f g i j _ k l m _ n _=>have n:=(n).trans<|congrArg some<|aO i;have:=ch (J:=fun a b=>b.2.1=b.2.2.length∧b.2.2++dx s a=dx s u.kids∧b.2.2.length+eV a<2^30) (a:=(b,c,d)) l g;have:=aN f l;have:=bT (tK<|iH<|aN f l) hn;have:nU i+eV j≤2^20:=(by have z:=o3 f l;omega);Kt 0 m<|Mx n<|K1 4 (.frz 3 [1,10,11,12,16,17]) (jc (tR 8 true b 3<|aX iY d) rt rt ti)<|Mq (HW s rs i b c d oA<|by grind[be]) fun b _=>Kl 0 19 (dq a)<|Kf 0<|k b.1 b.2.1 b.2.2<|by grind[gM,mh]
theorem Uk(u:TUnit)(hb:kI []=true):kP 191 [eU u,.ls (([]:List PStep).map az)] (.ls ((eZ u []).map aV)):=by
  have hv:=vW [] (by simp) (fun s h=>by grind)
  rw[Gu hb]
  have rr0 b' (h:(List.map aV [u])=b':=by(rw[eB,aO];rfl)):=h;let q:=[ay [iV u.act,iV u.item,iV u.n,iV u.kind,aj u.label,aW (u.head.map aQ),aW (u.words.map aQ),aW (u.kids.map aV)]];exact bM Tryz.func191<|Kp 3 hv<|Kf 10 (Le.lsp (rr0 q)<|by rfl:Le _ (AV.ps q true))
def GC(u:TUnit)(s:PStep)(rs:List PStep)(z1000:List TUnit):Prop:=eZ u (s::rs)=gn rs z1000∧eV z1000≤2^22
noncomputable def GB(u:TUnit)(s:PStep)(rs:List PStep)(z1000:List TUnit):List AV×List AObj:=([AV.ptr 0 0 0 0,AV.ptr 1 0 0 0],[AObj.row 1 false 0 [AV.ls ((s::rs).map az)],AObj.row 1 false 0 [AV.ls (z1000.map aV)]])
theorem Q0(u:TUnit)(s:PStep)(rs:List PStep)(hn:nU u≤2^11)(hl:(s::rs).length<2^40)(hs:∀x,x∈s::rs→x.label.length≤2^39):kP 191 [eU u,.ls ((s::rs).map az)] (.ls ((eZ u (s::rs)).map aV)):=by
  have hv:=vW (s::rs) hl hs
  have hk:=HD s
  have hpb:=FT s u fun x hx=>dP hx
  have hpm:nU u*nU u≤2^11*2^11:=Nat.mul_le_mul hn hn
  have hd:((s::rs).drop 1).length=rs.length:=rfl
  have rr0 b' (h:((eZ u (s::rs)).map aV)=b':=by first|rfl|(rw[I6 ‹_›];rfl)|(rw[hj0.1,IW])):=h;exact bM Tryz.func191<|Kp 3 hv<|Kn 0 (kI<|s::rs) (fun _=>Kf 0 (Le.lsn<|rr0 []:Le _ (ab))) fun _=>Mg 0<|Mj (List TUnit) [3,5] (GB u s rs) (GC u s rs) (fun a=>Kl 1 21 (ln az<|s::rs)<|Kp 5 hk<|Kb 0 (ah s.kind 0&&eX s.label []) (fun _=>Kl 1 31 (Le.lsp (t:=true) (Eq.symm<|F4 (f:=aV) (g:=Go.Ev.eU) (ws:=[u]) aO) (aY 0:aq ([ay [iV u.act,iV u.item,iV u.n,iV u.kind,aj u.label,aW (u.head.map aQ),aW (u.words.map aQ),aW (u.kids.map aV)]])=0))<|Mg 0<|M0 (.ren [1,2,0] [] [3,5])<|M1 (.frz 2 [3,5]) (b6 rt rt ti)<|Mf<|a [u] (by exact⟨GA (by omega) (by assumption),by grind[be,mq]⟩:eZ u (s::rs)=gn rs [u]∧eV [u]≤2^22)) fun _=>Mg 1<|M0 (.ren [1,2,0] [] [3,5,16,17])<|M1 (.frz 2 [3,5,16,17]) (b6 rt rt ti)<|Ms (lw s u).isEmpty (fun b=>Me (HJ s rs u oA b)<|M1 (.obw 1<|aW []) (WW bL rfl rfl)<|Mf<|a [] (by exact⟨by rw[xZ (by omega) (by assumption),yb.1 b],by grind⟩:eZ u (s::rs)=gn rs []∧eV []≤2^22)) fun b=>Mq (Ra s rs u oA b) fun b c=>M2 (.fzo 1 2 [3,5]<|b.2.2.map aV) (b6 rt rt ti) (b6 (aY b.1) (tA aV b.2.2 b.2.1 (oA:(b.2.2).length=b.2.1))<|aX iY b.2.2)<|Mf<|a b.2.2 (by exact⟨by rw[xZ (by omega) (by assumption),c.2],by grind⟩:eZ u (s::rs)=gn rs b.2.2∧eV b.2.2≤2^22)) fun a b=>have:eZ u (s::rs)=gn rs a∧eV a≤2^22:=b;K1 0 (.slp<|((s::rs).drop 1).map az) (b6 (hM 2 az (s::rs) fun _=>rfl) (et (sA:1≤((s::rs).map az).length) (oA:((s::rs).map az).length≤((s::rs).map az).length))<|XL (f:=az) (l:=s::rs) (k:=1))<|Kl 0 34 (ln az<|List.drop 1<|s::rs)<|Mg 0<|M0 (.ren [1,0] [] [5,33,34,35])<|M1 (.frz 1 [5,33,34,35]) (et rt ti)<|LN az (List.drop 1<|s::rs) a [5,33,34,35] (fun a _ b=>([bJ 0 0 0 0,aW<|((s::rs).drop 1).map az,nV ((s::rs).drop 1).length,nV a],[aZ 1 false 0 [aW<|b.map aV]])) (fun a b=>eZ u (s::rs)=gn a b∧eV b≤2^22) sA (fun _ _ a _ _ _ b hj0=>Kh 0 b<|Kf 1<|cV<|rr0<|a.map aV) fun a _ b _ _ c d e _ f _ g hj0=>have:b.length≤eV b:=yX _;Kt 0 f<|Mx g<|Kl 5 40 (ln aV b)<|Mg 0<|kr Nat Nat (List TUnit) aV b [5,7,8,33,34,35,39,40,41] (fun d _=>([bJ 0 0 0 0,bJ 1 0 0 0,ab,aW<|((s::rs).drop 1).map az,nV ((s::rs).drop 1).length,nV a,aW<|b.map aV,nV b.length,nV d],[aZ 1 false 0 [aW<|b.map aV],aZ 2 false 0 [ay [iV c.kind,aj c.label]]])) (fun d _ e f g=>([bJ 0 0 0 0,bJ 1 0 0 0,aE 2 e 0 f none,aW<|((s::rs).drop 1).map az,nV ((s::rs).drop 1).length,nV a,aW<|b.map aV,nV b.length,nV d],[aZ 1 false 0 [aW<|b.map aV],aZ 2 false 0 [ay [iV c.kind,aj c.label]],aZ 8 true e<|g.map aV])) (fun a=>cp c a=cp c b) (fun a _ d e=>d=e.length∧e++cp c a=cp c b∧e.length+eV a<2^30) (by rfl) (fun _ _ _ _ _ b c=>Kh 0 b<|Kl 0 61 bL<|Kl 1 62 (dq a)<|K1 0 (.frz 1 [5,33,34,35]) (et rt ti)<|Mf<|e []<|by exact fA hj0 c) (fun d _ e f g i j k l n _ o _=>have p:=(o).trans<|congrArg some<|aO g;have:=ch (J:=fun a _=>cp c a=cp c b) (a:=()) l f;have:nU g+eV i≤eV b:=o3 e l;have:g.kids.length<nU g:=bf g;have:nU g=1+eV g.kids:=jq g;Kt 0 n<|Mx p<|Kl 5 47 (ln aV g.kids)<|K1 0 (.frz 2 [5,7,8,33,34,35,39,40,41,46,47,48]) (b6 rt rt ti)<|kr Nat Nat (List TUnit) aV g.kids [5,7,8,33,34,35,39,40,41,46,47,48] (fun e _=>([bJ 0 0 0 0,bJ 1 0 0 0,ab,aW<|((s::rs).drop 1).map az,nV ((s::rs).drop 1).length,nV a,aW<|b.map aV,nV b.length,nV d,aW<|g.kids.map aV,nV g.kids.length,nV e],[aZ 1 false 0 [aW<|b.map aV],aZ 2 false 0 [ay [iV c.kind,aj c.label]]])) (fun e _ f i j=>([bJ 0 0 0 0,bJ 1 0 0 0,aE 2 f 0 i none,aW<|((s::rs).drop 1).map az,nV ((s::rs).drop 1).length,nV a,aW<|b.map aV,nV b.length,nV d,aW<|g.kids.map aV,nV g.kids.length,nV e],[aZ 1 false 0 [aW<|b.map aV],aZ 2 false 0 [ay [iV c.kind,aj c.label]],aZ 8 true f<|j.map aV])) (fun a=>List.filter (bD c) a++cp c i=cp c b) (fun a _ d e=>d=e.length∧e++(List.filter (bD c) a++cp c i)=cp c b∧e.length+(eV a+eV i)<2^30) (by simp_all[gA]) (fun _ _ _ _ _ a _=>Kh 0 a<|Kl 0 60 (dq d)<|Kf 0<|j sA) (fun a _ d e f j k l n p _ o _=>have o:=(o).trans<|congrArg some<|aO f;have:=ch (J:=fun a _=>List.filter (bD c) a++cp c i=cp c b) (a:=()) n e;have:nU f+eV j≤eV g.kids:=o3 d n;Kt 0 p<|Mx o<|Kp 4 (lW f c)<|Mb (bD c f) (fun _=>K1 3 (.obj 3<|aZ 8 true 0<|List.map aV [f]) (congrArg (aZ 8 true 0)<|F4 (f:=aV) (g:=Go.Ev.eU) (ws:=[f]) aO)<|Kl 1 59 (dq a)<|K1 0 (.ren [0,1,3,2] [3] [5,7,8,33,34,35,39,40,41,46,47,48]) (tS 8 true 0<|aX iY [f])<|M1 (.frz 3 [5,7,8,33,34,35,39,40,41,46,47,48]) (jc (tR 8 true 0 3<|aX iY [f]) rt rt ti)<|Mf<|l 0 1 [f] gR) fun _=>Kl 0 59 (dq a)<|K1 0 (.frz 2 [5,7,8,33,34,35,39,40,41,46,47,48]) (b6 rt rt ti)<|Mf<|k sA) (fun _ _ a e f _ _ _ g _=>Kh 0 g<|Kl 0 60 (dq d)<|Kf 0<|k a e f gR) fun a _ d e f j k l n _ p q r _ o _=>have o:=(o).trans<|congrArg some<|aO l;have k:=ch (J:=fun a d=>d.2.1=d.2.2.length∧d.2.2++(List.filter (bD c) a++cp c i)=cp c b∧d.2.2.length+(eV a+eV i)<2^30) (a:=(d,e,f)) q k;have:nU l+eV n≤eV g.kids:=o3 j q;Kt 0 r<|Mx o<|Kp 4 (lW l c)<|Mb (bD c l) (fun _=>K1 2 .app (b6 (aY d) (sA:e=(f.map aV).length) (by(refine aM (m:=2^31) ?_ ?_ ?_<;>omega):small (e+1) 120=true))<|M1 (.obj 2<|aZ 8 true (d+1)<|(f++[l]).map aV) (congrArg (aZ 8 true<|d+1)<|yJ (f:=aV) (g:=Go.Ev.eU) (l:=f) (ws:=[l]) aO)<|Kl 1 59 (dq a)<|K1 0 (.frz 3 [5,7,8,33,34,35,39,40,41,46,47,48]) (jc (tR 8 true (d+1) 3<|aX iY<|f++[l]) rt rt ti)<|Mf<|p (d+1) (e+1) (f++[l])<|by exact Z5 k (by omega)) fun _=>Kl 0 59 (dq a)<|K1 0 (.frz 3 [5,7,8,33,34,35,39,40,41,46,47,48]) (jc (tR 8 true d 3<|aX iY f) rt rt ti)<|Mf<|p d e f<|by exact Z6 k (by omega)) (fun _ _ b c f _ _ _ g i=>let j:=List.map aV f;Kh 0 g<|Mg 0<|M2 (.fsl 2 [5,33,34,35] 61 j) (b6 rt rt ti) (b6 (aY b) (tA aV f c (oA:(f).length=c))<|aX iY f)<|Ml 61 (eT j false<|aX iY f)<|Kl 1 62 (dq a)<|K1 0 (.frz 1 [5,33,34,35]) (et rt ti)<|Mf<|e f<|by exact fB hj0 i.2.1) fun d _ e f g i j k l _ n o p _ q _=>have r:=(q).trans<|congrArg some<|aO k;have j:=ch (J:=fun a d=>d.2.1=d.2.2.length∧d.2.2++cp c a=cp c b∧d.2.2.length+eV a<2^30) (a:=(e,f,g)) o j;have:nU k+eV l≤eV b:=o3 i o;have:k.kids.length<nU k:=bf k;have:nU k=1+eV k.kids:=jq k;Kt 0 p<|Mx r<|Kl 5 47 (ln aV k.kids)<|K1 0 (.frz 3 [5,7,8,33,34,35,39,40,41,46,47,48]) (jc (tR 8 true e 3<|aX iY g) rt rt ti)<|VX aV k.kids e f g [5,7,8,33,34,35,39,40,41,46,47,48] (fun e _ f g i=>([bJ 0 0 0 0,bJ 1 0 0 0,aE 2 f 0 g none,aW<|((s::rs).drop 1).map az,nV ((s::rs).drop 1).length,nV a,aW<|b.map aV,nV b.length,nV d,aW<|k.kids.map aV,nV k.kids.length,nV e],[aZ 1 false 0 [aW<|b.map aV],aZ 2 false 0 [ay [iV c.kind,aj c.label]],aZ 8 true f<|i.map aV])) (fun a _ d e=>d=e.length∧e++(List.filter (bD c) a++cp c l)=cp c b∧e.length+(eV a+eV l)<2^30) (by(exact gB j)) (fun _ _ a e f _ _ _ g _=>Kh 0 g<|Kl 0 60 (dq d)<|Kf 0<|n a e f gR) fun a _ d e f g i j n o p r _ q _=>have q:=(q).trans<|congrArg some<|aO j;have i:=ch (J:=fun a d=>d.2.1=d.2.2.length∧d.2.2++(List.filter (bD c) a++cp c l)=cp c b∧d.2.2.length+(eV a+eV l)<2^30) (a:=(d,e,f)) p i;have:nU j+eV n≤eV k.kids:=o3 g p;Kt 0 r<|Mx q<|Kp 4 (lW j c)<|Mb (bD c j) (fun _=>K1 2 .app (b6 (aY d) (sA:e=(f.map aV).length) (by(refine aM (m:=2^31) ?_ ?_ ?_<;>omega):small (e+1) 120=true))<|M1 (.obj 2<|aZ 8 true (d+1)<|(f++[j]).map aV) (congrArg (aZ 8 true<|d+1)<|yJ (f:=aV) (g:=Go.Ev.eU) (l:=f) (ws:=[j]) aO)<|Kl 1 59 (dq a)<|K1 0 (.frz 3 [5,7,8,33,34,35,39,40,41,46,47,48]) (jc (tR 8 true (d+1) 3<|aX iY<|f++[j]) rt rt ti)<|Mf<|o (d+1) (e+1) (f++[j])<|by exact Z5 i (by omega)) fun _=>Kl 0 59 (dq a)<|K1 0 (.frz 3 [5,7,8,33,34,35,39,40,41,46,47,48]) (jc (tR 8 true d 3<|aX iY f) rt rt ti)<|Mf<|o d e f<|by exact Z6 i (by omega)
theorem Uj(u:TUnit)(p:List PStep)(hn:nU u≤2^11)(hl:p.length<2^40)(hs:∀x,x∈p→x.label.length≤2^39):kP 191 [eU u,.ls (p.map az)] (.ls ((eZ u p).map aV)):=by
  cases p with
  |nil=>exact Uk u rfl
  |cons s rs=>grind[Q0]
theorem Ns(u:TUnit)(p:List PStep)(L:List TUnit)(hf:kP 191 [eU u,.ls (p.map az)] (.ls (L.map aV)))(hL:L.length≤2^22):kP 136 [eU u,.ls (p.map az)] (.ls ((L.map bq).map aK)):=by
  have rr0 b' (h:((L.map bq).map aK)=b':=by first|rfl|(rw[←hj0];rfl)|(rw[←hj0.2.2.1];simp)):=h;exact bM Tryz.func136<|Kp 4 hf<|Kl 0 11 (ln aV L)<|K1 0 (.frz 0 [5,10,11,12]) ti<|kr Nat Nat (List PId) aV L [5,10,11,12] (fun a _=>([ab,aW<|L.map aV,nV L.length,nV a],[])) (fun a _ b c d=>([aE 0 b 0 c none,aW<|L.map aV,nV L.length,nV a],[aZ 3 true b<|d.map aK])) (fun a=>a=L) (fun a _ b c=>b=c.length∧(0:Nat)<c.length∧c++List.map bq a=List.map bq L∧c.length+a.length=L.length) (by rfl) (fun _ _ _ _ _ a hj0=>Kh 0 a<|Kf 1 (Le.lsn<|rr0 []:Le _ (ab))) (fun a _ _ b c d _ e f g _ i _=>have i:=(i).trans<|congrArg some<|aO c;have hj0:=ch (J:=fun a _=>a=L) (a:=()) f b;Kt 0 g<|Mx i<|Kl 9 21 (gc a)<|Mg 0<|M0 (.ren [1,0] [] [5,10,11,12])<|M1 (.frz 1 [5,10,11,12]) (et rt ti)<|Mf<|e 0 1 [PId.mk c.act c.item c.n]<|by(refine⟨rfl,by simp,?_,?_⟩<;>(rw[←hj0])<;>(first|rfl|grind))) (fun _ _ a b c _ _ _ d hj0=>Kh 0 d<|Mg 1<|M2 (.fsl 0 [] 4<|c.map aK) ti (b6 (aY a) (tA aK c b (oA:(c).length=b))<|aX Jz c)<|Ml 4 (eT (c.map aK) false<|aX Jz c)<|Mf<|cV<|rr0<|c.map aK) fun a _ b c d _ e f g _ i j k _ l _=>have l:=(l).trans<|congrArg some<|aO f;have hj0:=ch (J:=fun a b=>b.2.1=b.2.2.length∧(0:Nat)<b.2.2.length∧b.2.2++List.map bq a=List.map bq L∧b.2.2.length+a.length=L.length) (a:=(b,c,d)) j e;Kt 0 k<|Mx l<|K1 6 .app (b6 (aY b) (sA:c=(d.map aK).length) (by(refine aM (m:=2^25) ?_ ?_ ?_<;>omega):small (c+1) 24=true))<|M1 (.obj 0<|aZ 3 true (b+1)<|(d++[PId.mk f.act f.item f.n]).map aK) (congrArg (aZ 3 true<|b+1)<|co (f:=aK) (l:=d) (ws:=[PId.mk f.act f.item f.n]))<|Kl 1 21 (gc a)<|K1 0 (.frz 1 [5,10,11,12]) (et (tR 3 true (b+1) 1<|aX Jz<|d++[PId.mk f.act f.item f.n]) ti)<|Mf<|i (b+1) (c+1) (d++[PId.mk f.act f.item f.n])<|by(refine⟨by simp_all,by simp,?_,?_⟩<;>first|(rw[←hj0.2.2.1,eB,nh];rfl)|(rw[←hj0.2.2.1];simp;done)|grind)
theorem Nn(u:TUnit)(p:List PStep)(hf:kP 136 [eU u,.ls (p.map az)] (.ls (([]:List PId).map aK))):kP 114 [eU u,.ls (p.map az)] (.tuple [aK b0,iV 7]):=by
  exact bM Tryz.func114<|Kp 4 hf<|Kf 8<|bp<|b9 [ay [iV 0,iV 0,iV 0],iV 7]
theorem Nr(u x:TUnit)(p:List PStep)(hf:kP 136 [eU u,.ls (p.map az)] (.ls ([bq x].map aK))):kP 114 [eU u,.ls (p.map az)] (.tuple [aK (bq x),iV 0]):=by
  exact bM Tryz.func114<|Kp 4 hf<|Kf 13<|bp<|b9 [ay [iV (bq x).a,iV (bq x).i,iV (bq x).n],iV 0]
theorem Np(u:TUnit)(p:List PStep)(a b:PId)(r:List PId)(hf:kP 136 [eU u,.ls (p.map az)] (.ls ((a::b::r).map aK))):kP 114 [eU u,.ls (p.map az)] (.tuple [aK b0,iV 8]):=by
  have q1:ah (Int.ofNat (r.length+1+1)) 0=false:=rfl
  have q2:ah (Int.ofNat (r.length+1+1)) 1=false:=rfl
  exact bM Tryz.func114<|Kp 4 hf<|Kl 2 11 (ln aK<|a::b::r)<|Kf 8<|bp<|b9 [ay [iV 0,iV 0,iV 0],iV 8]
/-- The way of an address, whatever it finds. -/
theorem Nm(u:TUnit)(p:List PStep)(hf:kP 191 [eU u,.ls (p.map az)] (.ls ((eZ u p).map aV)))(hn:nU u≤2^11):kP 114 [eU u,.ls (p.map az)] (.tuple [aK (aF u p).1,iV (aF u p).2]):=by
  have ha:=Ns u p (eZ u p) hf (I5 p hn)
  cases e:eZ u p with
  |nil=>grind[GI,Nn]
  | cons x r=>
    cases r with
    |nil=>grind[GH,Nr]
    |cons y r=>grind[GG,Np]
noncomputable abbrev zU:AV:=.agg [iV 0,iV 0,iV 0,iV 0,.str [],.nils,.nils,.nils]
noncomputable abbrev dH(xs:List AV):AObj:=.row 8 false 0 xs
theorem Uo{L Z:List AV}{n i:Nat}(hn:L.length=n)(hi:i<n):((L++Z).drop (i+1)).take (n-(i+1))=L.drop (i+1):=by
  grind
theorem Up{L Z:List AV}{n i:Nat}(hn:L.length=n)(hi:i<n):bC (L++Z) (0+i) (L.drop (i+1))=L.eraseIdx i++(L.drop (n-1)++Z):=by
  unfold bC
  grind
theorem Ew{L Z:List AV}{z:AV}{n i:Nat}(hn:L.length=n)(hi:i<n):bC (L.eraseIdx i++(L.drop (n-1)++Z)) (n-1) (List.replicate 1 z)=L.eraseIdx i++(z::Z):=by
  unfold bC
  have h1:(L.eraseIdx i).length=n-1:=by grind
  have h2:(L.drop (n-1)).length=1:=by grind
  grind
theorem YJ{a b:Nat}(h:a≠b):ah (Int.ofNat a) (Int.ofNat b)=false:=by
  grind[rf]
theorem Ri(L Z:List AV)(n k i:Nat)(hi:i+1<n)(hn:L.length=n)(hs:n≤2^20)(hf:dD 8 L=true)(hZ:Z.length=k)(hT:aq (L++Z)=0):kD 210 [.slice 0 0 0 n (some (n+k)),nV i,nV (i+1)] (av [dH (L++Z)]) (.slice 0 0 0 (n-1) (some (n+k))) (av [dH (L.eraseIdx i++(zU::Z))]):=by
  have hq:ah (Int.ofNat i) (Int.ofNat (i+1))=false:=YJ (by omega)
  let q:=AHeap.mk 1000000 (bA (av [aZ 8 false 0 (L++Z)]) ([0]) Tr.nil);let q1:=av [aZ 8 false 0 (L.eraseIdx i++(L.drop (n-1)++Z))];let q2:=av [aZ 8 false 0 (L++Z)];let q3:=(some (aE 0 0 0 n (some (n+k))));let q4:=aE 0 0 (i+1) (n-(i+1)) (some (n+k-(i+1)));let q5:=(some (nV (i+1)));let q6:=(some (nV i));let q7:=(some (nV n));let q8:=AHeap.mk 1 (bA q2 ([0,0]) Tr.nil);let q9:=aE 0 0 0 (n-1) (some (n+k));let q10:=aE 0 0 (n-1) 1 (some (k+1));let q11:=aE 0 0 0 i (some (n+k));exact eg Tryz.func210 fun a=>Ko 5 (by exact Db (xs:=L++Z) (l:=i) (h:=i+1) (m:=n) (by kernel_rfl) (by rfl) (by rfl) (by rfl) (by omega) (by omega) (by omega) (by omega) (by omega) (by omega) (by omega):ba q2 (dz (8) q2 q3 q6 q5 q7)=some (ARes.val (AV.slice 0 0 i 1 (some (n-i))) q2))<|Kh 2 hq<|Kv 4 (by exact ic (xs:=L++Z) (l:=0) (h:=i) (by kernel_rfl) (by rfl) (by rfl) (by omega) (by omega) (by omega) (by omega) (by omega) (by omega):ba (q) (dz (8) (q) q3 (none) q6 (none))=some (ARes.val q11 q))<|Kv 1 (by exact ic (xs:=L++Z) (l:=i+1) (h:=n) (by kernel_rfl) (by rfl) (by rfl) (by omega) (by omega) (by omega) (by omega) (by omega) (by omega):ba (q) (dz (8) (q) q3 q5 (none) (none))=some (ARes.val q4 q))<|Md rt (iX (tR 8 false 0 1 (oA:aq (L++Z)=0))<|iX (tR 8 false 0 1 (oA:aq (L++Z)=0)) rt) (by exact LI (new:=L.drop (i+1)) rfl (yM rfl (Uo hn (by omega))) (rb hf) (fun e=>by have:=congrArg List.length e;grind) (by grind) (by grind) (aM (m:=2^20) (by grind) (by omega) (by omega)) (by grind) (Up hn (by omega)):eH (cP (8) (120) (q8) ((some q11)) ((some q4)))=some (ARes.val q9 (AHeap.put q8 0 (AObj.row 8 false 0 (L.eraseIdx i++(L.drop (n-1)++Z))))))<|Ko 4 (by exact ic (xs:=L.eraseIdx i++(L.drop (n-1)++Z)) (l:=n-1) (h:=n) (by kernel_rfl) (by rfl) (by rfl) (by omega) (by omega) (by omega) (by omega) (by omega) (by omega):ba q1 (dz (8) q1 ((some q9)) ((some (nV (n-1)))) q7 (none))=some (ARes.val q10 q1))<|Mo (by exact Ja rfl (by kernel_rfl) (Ew hn (by omega)):eH (wZ (8) (AV.agg [iV 0,iV 0,iV 0,iV 0,AV.str [],AV.nils,AV.nils,AV.nils]) q1 ((some q10)))=some (ARes.val (AV.tuple []) (av [AObj.row 8 false 0 (L.eraseIdx i++zU::Z)])))<|Kf 1 a
theorem Rh(L Z:List AV)(k i:Nat)(hn:L.length=i+1)(hs:i<2^20)(hk:0<k)(hZ:Z.length=k)(hT:aq (L++Z)=0):kD 210 [.slice 0 0 0 (i+1) (some (i+1+k)),nV i,nV (i+1)] (av [dH (L++Z)]) (.slice 0 0 0 i (some (i+1+k))) (av [dH (L.eraseIdx i++(zU::Z))]):=by
  have hq:ah (Int.ofNat i) (Int.ofNat (i+1))=false:=YJ (by omega)
  have hr:L.eraseIdx i++(L.drop (i+1-1)++Z)=L++Z:=by
    rw[Ow,EH (by omega),ec,←nh,show i+1-1=i from rfl,Ju]
  have hc:bC (L++Z) i (List.replicate 1 zU)=L.eraseIdx i++(zU::Z):=by
    have h:=Ew (z:=zU) (Z:=Z) hn (show i<i+1 by omega)
    grind
  let q:=av [aZ 8 false 0 (L++Z)];let q1:=AHeap.mk 1000000 (bA q ([0]) Tr.nil);let q2:=(some (nV (i+1)));let q3:=aE 0 0 0 i (some (i+1+k));let q4:=(some (aE 0 0 0 (i+1) (some (i+1+k))));let q5:=(some (nV i));let q6:=AHeap.mk 1 (bA q ([0,0]) Tr.nil);let q7:=aE 0 0 (i+1) 0 (some k);let q8:=aE 0 0 i 1 (some (k+1));exact eg Tryz.func210 fun a=>Ko 5 (by exact Db (xs:=L++Z) (l:=i) (h:=i+1) (m:=i+1) (by kernel_rfl) (by rfl) (by rfl) (by rfl) (by omega) (by omega) (by omega) (by omega) (by omega) (by omega) (by omega):ba q (dz (8) q q4 q5 q2 q2)=some (ARes.val (AV.slice 0 0 i 1 (some 1)) q))<|Kh 2 hq<|Kv 4 (by exact ic (xs:=L++Z) (l:=0) (h:=i) (by kernel_rfl) (by rfl) (by rfl) (by omega) (by omega) (by omega) (by omega) (by omega) (by omega):ba (q1) (dz (8) (q1) q4 (none) q5 (none))=some (ARes.val q3 q1))<|Kv 1 (by exact ic (xs:=L++Z) (l:=i+1) (h:=i+1) (by kernel_rfl) (by rfl) (by rfl) (by omega) (by omega) (by omega) (by omega) (by omega) (by omega):ba (q1) (dz (8) (q1) q4 q2 (none) (none))=some (ARes.val q7 q1))<|Md rt (iX (tR 8 false 0 1 (oA:aq (L++Z)=0))<|iX (tR 8 false 0 1 (oA:aq (L++Z)=0)) rt) (by exact SV (yM rfl List.take_zero):eH (cP (8) (120) (q6) ((some q3)) ((some q7)))=some (ARes.val q3 q6))<|Ko 4 (by exact ic (xs:=L++Z) (l:=i) (h:=i+1) (by kernel_rfl) (by rfl) (by rfl) (by omega) (by omega) (by omega) (by omega) (by omega) (by omega):ba q (dz (8) q ((some q3)) q5 q2 (none))=some (ARes.val q8 q))<|Mo (by exact Ja rfl (by kernel_rfl) hc:eH (wZ (8) (AV.agg [iV 0,iV 0,iV 0,iV 0,AV.str [],AV.nils,AV.nils,AV.nils]) q ((some q8)))=some (ARes.val (AV.tuple []) (av [AObj.row 8 false 0 (L.eraseIdx i++zU::Z)])))<|Kf 1 a
theorem Rg(L:List AV)(i:Nat)(hn:L.length=i+1)(hs:i<2^20)(hT:aq L=0):kD 210 [.slice 0 0 0 (i+1) (some (i+1)),nV i,nV (i+1)] (av [dH L]) (.slice 0 0 0 i (some (i+1))) (av [dH (L.eraseIdx i++[zU])]):=by
  have hq:ah (Int.ofNat i) (Int.ofNat (i+1))=false:=YJ (by omega)
  have hr:L.eraseIdx i++(L.drop (i+1-1)++[])=L:=by
    rw[Ow,EH (by omega),ec,ec,show i+1-1=i from rfl,Ju]
  have hc:bC L i (List.replicate 1 zU)=L.eraseIdx i++[zU]:=by
    have h:=Ew (z:=zU) (Z:=[]) hn (show i<i+1 by omega)
    grind
  let q:=av [aZ 8 false 0 L];let q1:=AHeap.mk 1000000 (bA q ([0]) Tr.nil);let q2:=(some (nV (i+1)));let q3:=aE 0 0 0 i (some (i+1));let q4:=(some (aE 0 0 0 (i+1) (some (i+1))));let q5:=(some (nV i));let q6:=aE 0 0 i 1 (some 1);let q7:=AHeap.mk 1 (bA q ([0,0]) Tr.nil);let q8:=aE 0 0 0 0 (some 0);exact eg Tryz.func210 fun a=>Ko 5 (by exact Db (xs:=L) (l:=i) (h:=i+1) (m:=i+1) (by kernel_rfl) (by rfl) (by rfl) (by rfl) (by omega) (by omega) (by omega) (by omega) (by omega) (by omega) (by omega):ba q (dz (8) q q4 q5 q2 q2)=some (ARes.val q6 q))<|Kh 2 hq<|Kv 4 (by exact ic (xs:=L) (l:=0) (h:=i) (by kernel_rfl) (by rfl) (by rfl) (by omega) (by omega) (by omega) (by omega) (by omega) (by omega):ba (q1) (dz (8) (q1) q4 (none) q5 (none))=some (ARes.val q3 q1))<|Kv 1 (by exact J7 (xs:=L) (l:=i+1) (h:=i+1) (by kernel_rfl) (by rfl) (by rfl) (by rfl) rfl:ba (q1) (dz (8) (q1) q4 q2 (none) (none))=some (ARes.val q8 q1))<|Md rt (iX (tR 8 false 0 1 (oA:aq (L)=0))<|iX (tR 8 false 0 1 (oA:aq (L)=0)) rt) (by exact SV (yM rfl List.take_zero):eH (cP (8) (120) (q7) ((some q3)) ((some q8)))=some (ARes.val q3 q7))<|Ko 4 (by exact ic (xs:=L) (l:=i) (h:=i+1) (by kernel_rfl) (by rfl) (by rfl) (by omega) (by omega) (by omega) (by omega) (by omega) (by omega):ba q (dz (8) q ((some q3)) q5 q2 (none))=some (ARes.val q6 q))<|Mo (by exact Ja rfl (by kernel_rfl) hc:eH (wZ (8) (AV.agg [iV 0,iV 0,iV 0,iV 0,AV.str [],AV.nils,AV.nils,AV.nils]) q ((some q6)))=some (ARes.val (AV.tuple []) (av [AObj.row 8 false 0 (L.eraseIdx i++[zU])])))<|Kf 1 a
theorem Rf(L Z:List AV)(n i:Nat)(hi:i<n)(hn:L.length=n)(hs:n≤2^20)(hf:dD 8 L=true)(hT:aq (L++Z)=0):kD 210 [.slice 0 0 0 n (some (n+Z.length)),nV i,nV (i+1)] (av [dH (L++Z)]) (.slice 0 0 0 (n-1) (some (n+Z.length))) (av [dH (L.eraseIdx i++(zU::Z))]):=by
  rcases fy (i+1) n with h|h
  · exact Ri L Z n _ i h hn hs hf rfl hT
  · obtain rfl:n=i+1:=by omega
    cases Z with
    |nil=>rw[ec];rw[ec]at hT;exact Rg L i hn (by omega) hT
    |cons z r=>exact Rh L (z::r) _ i hn (by omega) (yc _) rfl hT
/-- A list with an element more at a place. -/
def gE(i:Nat)(x:AV)(l:List AV):List AV:=l.take i++(x::l.drop i)
theorem zR{i:Nat}{x:AV}{l:List AV}(h:i≤l.length):(gE i x l).length=l.length+1:=by
  grind[gE]
theorem Gv{x:AV}{l:List AV}{n:Nat}(h:l.length=n):gE n x l=l++[x]:=by
  grind[gE]
theorem Yi(n:Nat):ah (Int.ofNat n) (Int.ofNat n)=true:=bx _
theorem ZB{a b:Nat}(h:a<b):aC (Int.ofNat a) (Int.ofNat b)=true:=kj (by simp_all)
theorem ZC{a b:Nat}(h:b≤a):aC (Int.ofNat a) (Int.ofNat b)=false:=kw (by simp_all)
theorem Uh{L Z:List AV}{x z:AV}{n:Nat}(h:L.length=n):bC (L++z::Z) (0+n) [x]=gE n x L++Z:=by
  unfold bC
  rw[Gv h,fw,←h,List.take_left,show(L++z::Z).drop (L.length+[x].length)=Z by rw[←BF,List.drop_left];rfl]
theorem Tn{L Z:List AV}{z:AV}{n i:Nat}(h:L.length=n)(hi:i<n):bC (L++z::Z) (i+1) (L.drop i)=L.take (i+1)++(L.drop i++Z):=by
  unfold bC
  rw[List.take_append_of_le_length (by omega),nh,tV,show i+1+(L.length-i)=L.length+1 by omega,←BF,List.drop_left];rfl
theorem P9{L Z:List AV}{x:AV}{n i:Nat}(h:L.length=n)(hi:i<n):bC (L.take (i+1)++(L.drop i++Z)) i [x]=gE i x L++Z:=by
  unfold bC gE
  grind
theorem Td{L:List AV}{z x:AV}{n i:Nat}(h:L.length=n)(hi:i<n):bC (L.take i++List.replicate (n+1-i) z) i [x]=L.take i++(x::List.replicate (n-i) z):=by
  unfold bC
  have h1:(L.take i).length=i:=by grind
  have e:n+1-i=(n-i)+1:=by omega
  rw[List.take_append_of_le_length (by omega),wz (by omega),←BF]
  simp_all
theorem P7{L:List AV}{z x:AV}{n i:Nat}(h:L.length=n)(hi:i<n):bC (L.take i++(x::List.replicate (n-i) z)) (i+1) (L.drop i)=gE i x L:=by
  unfold bC gE
  have h1:(L.take i).length=i:=by grind
  have h2:(L.take i++(x::List.replicate (n-i) z)).length=n+1:=by grind
  have e:(L.take i++(x::List.replicate (n-i) z)).drop (i+1+(L.drop i).length)=[]:=EH (by grind)
  grind
theorem Qh(L Z:List AV)(x z:AV)(t:Bool)(n k:Nat)(hn:L.length=n)(hs:n<2^20)(hk:Z.length=k)(hx:dD 8 [x]=true):kD 151 [.slice 0 0 0 n (some (n+(k+1))),nV n,.ps [x] t] (av [dH (L++z::Z)]) (.slice 0 0 0 (n+1) (some (n+(k+1)))) (av [dH (gE n x L++Z)]):=by
  have hq:=Yi n
  let q:=av [aZ 8 false 0 (L++z::Z)];exact eg Tryz.func151 fun a=>Ko 2 (by exact ic (xs:=L++z::Z) (l:=n) (h:=n) (by kernel_rfl) (by rfl) (by rfl) (by omega) (by omega) (by omega) (by omega) (by omega) (by omega):ba q (dz (8) q ((some (AV.slice 0 0 0 n (some (n+(k+1)))))) ((some (nV n))) (none) (none))=some (ARes.val (AV.slice 0 0 n 0 (some (k+1))) q))<|Kt 11 hq<|Ko 1 (by exact LI (new:=[x]) rfl (by rfl) hx (mJ _ _) (by simp_all) (by simp_all) (aM (m:=2^20) (by grind) (by omega) (by omega)) rfl (Uh hn):eH (cP (8) (120) (av [AObj.row 8 false 0 (L++z::Z)]) ((some (AV.slice 0 0 0 n (some (n+(k+1)))))) ((some (AV.ps [x] t))))=some (ARes.val (AV.slice 0 0 0 (n+1) (some (n+(k+1)))) (av [AObj.row 8 false 0 (gE n x L++Z)])))<|Kf 0 a
theorem Qg(L:List AV)(x:AV)(t:Bool)(n:Nat)(hn:L.length=n)(hs:n<2^20)(hx:dD 8 [x]=true)(hT:aq L=0)(hI:aq (gE n x L)=0):kD 151 [.slice 0 0 0 n (some n),nV n,.ps [x] t] (av [dH L]) (.ls (gE n x L)) (av [dH L]):=by
  have hq:=Yi n
  have hIl:(gE n x L).length=n+1:=(zR (by omega)).trans (by omega)
  let q:=av [aZ 8 false 0 L];exact eg Tryz.func151 fun a=>Ko 2 (by exact J7 (xs:=L) (l:=n) (h:=n) (by kernel_rfl) (by rfl) (by rfl) (by rfl) rfl:ba q (dz (8) q ((some (AV.slice 0 0 0 n (some n)))) ((some (nV n))) (none) (none))=some (ARes.val (AV.slice 0 0 0 0 (some 0)) q))<|Kt 11 hq<|Ko 1 (by exact U4 (new:=[x]) rfl (by rfl) hx (mJ _ _) (by simp_all) (aM (m:=2^20) (by grind) (by omega) (by omega)) (by grind[Gv]) ((zR (by omega)).trans (by omega)):eH (cP (8) (120) (av [AObj.row 8 false 0 L]) ((some (AV.slice 0 0 0 n (some n)))) ((some (AV.ps [x] t))))=some (ARes.val (AV.slice 1 0 0 (n+1) none) (av [AObj.row 8 false 0 L,AObj.row 8 true 0 (gE n x L)])))<|Mg 0<|M2 (.fsl 1 [] 6<|gE n x L) (et (tR 8 false 0 1 (oA:aq (L)=0)) ti) (b6 (aY 0) (VY (oA:(gE n x L).length=n+1)) (oA:aq (gE n x L)=0))<|Ml 6 (eT (gE n x L) false (oA:aq (gE n x L)=0))<|Mf a
theorem Qf(L Z:List AV)(x z:AV)(t:Bool)(n k i:Nat)(hi:i<n)(hn:L.length=n)(hs:n<2^20)(hk:Z.length=k)(hx:dD 8 [x]=true)(hf:dD 8 L=true)(hT:aq (L++z::Z)=0)(hov:kD 207 [.ps [x] t,.slice 0 0 (i+1) (n-i) (some (n+(k+1)-(i+1)))] (av [dH (L++z::Z)]) (.bool false) (av [dH (L++z::Z)])):kD 151 [.slice 0 0 0 n (some (n+(k+1))),nV i,.ps [x] t] (av [dH (L++z::Z)]) (.slice 0 0 0 (n+1) (some (n+(k+1)))) (av [dH (gE i x L++Z)]):=by
  have hq:ah (Int.ofNat i) (Int.ofNat n)=false:=YJ (by omega)
  have hl:aC (Int.ofNat (n+(k+1))) (Int.ofNat (n+1))=false:=ZC (by omega)
  let q:=av [aZ 8 false 0 (L++z::Z)];let q1:=av [aZ 8 false 0 (L.take (i+1)++(L.drop i++Z))];let q2:=AHeap.mk 1000000 (bA q ([0]) Tr.nil);let q3:=aE 0 0 0 (n+1) (some (n+(k+1)));let q4:=aE 0 0 i (n+1-i) (some (n+(k+1)-i));let q5:=(some (nV i));let q6:=aE 0 0 (i+1) (n-i) (some (n+(k+1)-(i+1)));let q7:=(some (nV (i+1)));let q8:=(some (aE 0 0 0 n (some (n+(k+1)))));exact eg Tryz.func151 fun a=>Ko 2 (by exact ic (xs:=L++z::Z) (l:=i) (h:=n) (by kernel_rfl) (by rfl) (by rfl) (by omega) (by omega) (by omega) (by omega) (by omega) (by omega):ba q (dz (8) q q8 q5 (none) (none))=some (ARes.val (AV.slice 0 0 i (n-i) (some (n+(k+1)-i))) q))<|Kh 11 hq<|Kl 2 28 (gc n)<|Kh 2 hl<|Kl 3 59 (gc n)<|Mo (by exact ic (xs:=L++z::Z) (l:=0) (h:=n+1) (by kernel_rfl) (by rfl) (by rfl) (by omega) (by omega) (by omega) (by omega) (by omega) (by omega):ba q (dz (8) q q8 (none) ((some (nV (n+1)))) (none))=some (ARes.val q3 q))<|Kl 5 65 (gc i)<|Mo (by exact ic (xs:=L++z::Z) (l:=i+1) (h:=n+1) (by kernel_rfl) (by rfl) (by rfl) (by omega) (by omega) (by omega) (by omega) (by omega) (by omega):ba q (dz (8) q ((some q3)) q7 (none) (none))=some (ARes.val q6 q))<|Me hov<|Mg 4<|Ma (gc i)<|Mv (by exact ic (xs:=L++z::Z) (l:=i+1) (h:=n+1) (by kernel_rfl) (by rfl) (by rfl) (by omega) (by omega) (by omega) (by omega) (by omega) (by omega):ba (q2) (dz (8) (q2) ((some q3)) q7 (none) (none))=some (ARes.val q6 q2))<|Kv 1 (by exact ic (xs:=L++z::Z) (l:=i) (h:=n+1) (by kernel_rfl) (by rfl) (by rfl) (by omega) (by omega) (by omega) (by omega) (by omega) (by omega):ba (q2) (dz (8) (q2) ((some q3)) q5 (none) (none))=some (ARes.val q4 q2))<|Md rt (iX (tR 8 false 0 1 (oA:aq (L++z::Z)=0))<|iX (tR 8 false 0 1 (oA:aq (L++z::Z)=0)) rt) (by exact Lp (zs:=((L++z::Z).drop i).take (n+1-i)) rfl (yM rfl rfl) (by grind[rb]) (by grind) (by grind[Tn]):eH (uI (8) ((AHeap.mk 1 (bA (av [AObj.row 8 false 0 (L++z::Z)]) ([0,0]) Tr.nil))) ((some (AV.slice 0 0 (i+1) (n-i) (some (n+(k+1)-(i+1)))))) ((some (AV.slice 0 0 i (n+1-i) (some (n+(k+1)-i))))))=some (ARes.val (nV (n-i)) (AHeap.put (AHeap.mk 1 (bA (av [AObj.row 8 false 0 (L++z::Z)]) ([0,0]) Tr.nil)) 0 (AObj.row 8 false 0 (L.take (i+1)++(L.drop i++Z))))))<|Ko 1 (by exact ic (xs:=L.take (i+1)++(L.drop i++Z)) (l:=i) (h:=n+1) (by kernel_rfl) (by rfl) (by rfl) (by omega) (by omega) (by omega) (by omega) (by omega) (by omega):ba q1 (dz (8) q1 ((some q3)) q5 (none) (none))=some (ARes.val q4 q1))<|Ko 0 (by exact Lp (zs:=[x]) rfl (by rfl) (ra hx) (by grind) (by grind[List.take_of_length_le,P9]):eH (uI (8) q1 ((some q4)) ((some (AV.ps [x] t))))=some (ARes.val (iV 1) (av [AObj.row 8 false 0 (gE i x L++Z)])))<|Kf 1 a
theorem Qe(L:List AV)(x:AV)(t:Bool)(n i:Nat)(hi:i<n)(hn:L.length=n)(hs:n<2^20)(hx:dD 8 [x]=true)(hf:dD 8 L=true)(hT:aq L=0)(hT2:aq (L.take i++(x::List.replicate (n-i) zU))=0)(hI:aq (gE i x L)=0):kD 151 [.slice 0 0 0 n (some n),nV i,.ps [x] t] (av [dH L]) (.ls (gE i x L)) (av [dH L]):=by
  have hq:ah (Int.ofNat i) (Int.ofNat n)=false:=YJ (by omega)
  have hl:aC (Int.ofNat n) (Int.ofNat (n+1))=true:=ZB (by omega)
  have hIl:(gE i x L).length=n+1:=(zR (by omega)).trans (by omega)
  let q:=av [aZ 8 false 0 L,aZ 8 true 0 (L.take i++x::List.replicate (n-i) zU)];let q1:=av [aZ 8 false 0 L,aZ 8 true 0 (L.take i++List.replicate (n+1-i) zU)];let q2:=av [aZ 8 false 0 L];let q3:=(some (nV i));let q4:=AHeap.mk 1000000 (bA q ([0]) Tr.nil);let q5:=aE 0 0 i (n-i) (some (n-i));let q6:=(some (aE 0 0 0 n (some n)));let q7:=AHeap.mk 2 (bA q ([1,0]) Tr.nil);let q8:=aE 1 0 i (n+1-i) none;let q9:=aE 1 0 0 (n+1) none;let q10:=aE 0 0 0 i (some n);exact eg Tryz.func151 fun a=>Ko 2 (by exact ic (xs:=L) (l:=i) (h:=n) (by kernel_rfl) (by rfl) (by rfl) (by omega) (by omega) (by omega) (by omega) (by omega) (by omega):ba q2 (dz (8) q2 q6 q3 (none) (none))=some (ARes.val q5 q2))<|Kh 11 hq<|Kl 2 28 (gc n)<|Kt 2 hl<|Ko 1 (by exact ic (xs:=L) (l:=0) (h:=i) (by kernel_rfl) (by rfl) (by rfl) (by omega) (by omega) (by omega) (by omega) (by omega) (by omega):ba q2 (dz (8) q2 q6 (none) q3 (none))=some (ARes.val q10 q2))<|Kl 2 37 (gc n)<|Ko 0 (by(show ba _ (some (AV.int .i64 (IntKind.i64.wrap (Int.ofNat (n+1)-Int.ofNat i))))=_;rw[show(Int.ofNat (n+1)-Int.ofNat i)=Int.ofNat (n+1-i) by grind,xD (by simp_all) (by grind)];rfl):ba (av [AObj.row 8 false 0 L]) (SE (pP BinOp.sub (Tryz.prog.underlying 3) (cO Tryz.prog 3) (cS Tryz.prog 3) (eQ Tryz.prog 10 3 0)) ((some (nV (n+1)))) ((some (nV i))))=some (ARes.val (nV (n+1-i)) (av [AObj.row 8 false 0 L])))<|Mo (by exact Tl rfl (by omega) (by omega) (by kernel_rfl) (aM (m:=2^21) (by omega) (by omega) (by omega)) (aM (m:=2^21) (by omega) (by omega) (by omega)) (by simp_all) (by grind):eH (Cn (8) (120) (AV.agg [iV 0,iV 0,iV 0,iV 0,AV.str [],AV.nils,AV.nils,AV.nils]) q2 ((some q10)) ((some (nV (n+1-i)))))=some (ARes.val q9 q1))<|Ko 2 (by exact J6 (xs:=L.take i++List.replicate (n+1-i) zU) (l:=i) (h:=n+1) (by kernel_rfl) (by rfl) (by rfl) (by omega) (by grind) (by omega) (by omega):ba q1 (dz (8) q1 ((some q9)) q3 (none) (none))=some (ARes.val q8 q1))<|Ko 0 (by exact Lp (zs:=[x]) rfl (by rfl) (ra hx) (by grind) (by grind[List.take_of_length_le,Td]):eH (uI (8) q1 ((some q8)) ((some (AV.ps [x] t))))=some (ARes.val (iV 1) q))<|Mg 2<|Ma (gc i)<|Mv (by exact J6 (xs:=L.take i++(x::List.replicate (n-i) zU)) (l:=i+1) (h:=n+1) (by kernel_rfl) (by rfl) (by rfl) (by omega) (by grind) (by omega) (by omega):ba ((AHeap.mk 1000000 (bA (av [AObj.row 8 false 0 L,AObj.row 8 true 0 (L.take i++x::List.replicate (n-i) zU)]) ([1]) Tr.nil))) (dz (8) ((AHeap.mk 1000000 (bA (av [AObj.row 8 false 0 L,AObj.row 8 true 0 (L.take i++x::List.replicate (n-i) zU)]) ([1]) Tr.nil))) ((some (AV.slice 1 0 0 (n+1) none))) ((some (nV (i+1)))) (none) (none))=some (ARes.val (AV.slice 1 0 (i+1) (n-i) none) (AHeap.mk 1000000 (bA (av [AObj.row 8 false 0 L,AObj.row 8 true 0 (L.take i++x::List.replicate (n-i) zU)]) ([1]) Tr.nil))))<|Kv 1 (by exact ic (xs:=L) (l:=i) (h:=n) (by kernel_rfl) (by rfl) (by rfl) (by omega) (by omega) (by omega) (by omega) (by omega) (by omega):ba (q4) (dz (8) (q4) q6 q3 (none) (none))=some (ARes.val q5 q4))<|Md rt (iX (tR 8 true 0 2 (oA:aq (L.take i++x::List.replicate (n-i) zU)=0))<|iX (tR 8 false 0 2 (oA:aq (L)=0)) rt) (by exact Lp (zs:=L.drop i) rfl (yM rfl (wz (by simp_all))) (ra (rb hf)) (by simp_all) (by grind[List.length_drop,P7]):eH (uI (8) (q7) ((some (AV.slice 1 0 (i+1) (n-i) none))) ((some q5)))=some (ARes.val (nV (n-i)) (AHeap.put q7 1 (AObj.row 8 true 0 (gE i x L)))))<|Mg 1<|M2 (.fsl 1 [] 6<|gE i x L) (et (tR 8 false 0 1 (oA:aq (L)=0)) ti) (b6 (aY 0) (VY (oA:(gE i x L).length=n+1)) (oA:aq (gE i x L)=0))<|Ml 6 (eT (gE i x L) false (oA:aq (gE i x L)=0))<|Mf a
theorem Gk(x:TUnit)(t:Bool):kP 151 [.nils,iV 0,.ps [eU x] t] (.ls [eU x]):=by
  have hx:dD 8 [eU x]=true:=by kernel_rfl
  have hIl:[eU x].length=1:=rfl
  have hI:aq [eU x]=0:=by kernel_rfl
  let q:=[ay [iV x.act,iV x.item,iV x.n,iV x.kind,aj x.label,aW (x.head.map aQ),aW (x.words.map aQ),aW (x.kids.map aV)]];exact bM Tryz.func151<|Ko 18 (by(simp only[cP,gV,kV,km,gh,hx];rfl):eH (cP (8) (120) (av []) ((some (AV.nils))) ((some (AV.ps [AV.agg [iV x.act,iV x.item,iV x.n,iV x.kind,AV.str x.label,AV.ls (x.head.map aQ),AV.ls (x.words.map aQ),AV.ls (x.kids.map aV)]] t))))=some (ARes.val (AV.slice 0 0 0 1 none) (av [AObj.row 8 true 0 [eU x]])))<|K1 0 (.frz 0 [6]) ti<|Mf (eT q _<|by rfl:Le _ (AV.ps q false))
theorem Gj(x:TUnit)(t:Bool):kP 151 [.ps [] true,iV 0,.ps [eU x] t] (.ls [eU x]):=by
  have hx:dD 8 [eU x]=true:=by kernel_rfl
  have hIl:[eU x].length=1:=rfl
  have hI:aq [eU x]=0:=by kernel_rfl
  let q:=[ay [iV x.act,iV x.item,iV x.n,iV x.kind,aj x.label,aW (x.head.map aQ),aW (x.words.map aQ),aW (x.kids.map aV)]];exact bM Tryz.func151<|Ko 18 (by(simp only[cP,gV,kV,km,gh,hx];rfl):eH (cP (8) (120) (av []) ((some (AV.ps [] true))) ((some (AV.ps [AV.agg [iV x.act,iV x.item,iV x.n,iV x.kind,AV.str x.label,AV.ls (x.head.map aQ),AV.ls (x.words.map aQ),AV.ls (x.kids.map aV)]] t))))=some (ARes.val (AV.slice 0 0 0 1 none) (av [AObj.row 8 true 0 [eU x]])))<|K1 0 (.frz 0 [6]) ti<|Mf (eT q _<|by rfl:Le _ (AV.ps q false))
noncomputable def JR:TypeInfo:=(Tryz.prog.info? 36).getD default
theorem OG:Tryz.prog.info? 36=some JR:=by kernel_rfl
/-- A unit of zero values says no more than the zero value. -/
theorem Xo:Le (aV bd) zU:=bQ (.cons (Le.refl _) (.cons (Le.refl _) (.cons (Le.refl _) (.cons (Le.refl _) (.cons (Le.refl _) (.cons Le.nils (.cons Le.nils (.cons Le.nils .nil)))))))) rfl
theorem H8:JR.size=8:=by kernel_rfl
theorem E8:JR.bytes=120:=by kernel_rfl
theorem Yg(l:List TUnit):dD 8 (l.map aV)=true:=gF (fun u=>by cases u;rfl) l
/-- A copy of units: a row of its own, which holds zero values behind them. -/
theorem Ey(xs:List TUnit)(hne:xs≠[])(hl:xs.length≤2^20)(a b c:AObj):kC 206 [.ls (xs.map aV)] (av [a,b,c])
    (fun v h=>∃k:Nat,True∧v=.slice 3 0 0 xs.length (some (xs.length+k))∧h=av [a,b,c,dH ((xs++List.replicate k bd).map aV)]):=by
  simp only[pt,List.map_replicate]
  have hn:xs.map aV≠[]:=fun h=>hne (List.map_eq_nil_iff.1 h)
  have hf:=Yg xs
  have hsm:small (xs.map aV).length 120=true:=by grind[aM]
  have hlen:xs.length=(xs.map aV).length:=(cQ ..).symm
  rw[hlen]
  generalize xs.map aV=L at hn hf hsm
  refine aH.enter 2 (fn:=Tryz.f206) Tryz.func206 (by kernel_rfl) rfl ⟨by kernel_rfl,by kernel_rfl⟩ ?_
  refine ar.seq (ar.mono (DR ow ie (ev 40) (s':=⟨eJ 8 [(0,.ls L),(2,.nils)],av [a,b,c]⟩) (.go 0 .fin) (by kernel_rfl)) ?_)
  rintro _ _ ⟨rfl,rfl⟩
  refine ar.seq (ar.seq (ar.mono (x8 ie (ev 40) (Ψ:=fun s=>s=⟨eJ 8 [(0,.ls L),(2,.nils),(3,.ps L false),(4,.bool false)],av [a,b,c]⟩) (.go 0 (.nz 3 .abs (.go 0 .fin)))
    (W:=(L=[]→False)∧(⟨eJ 8 [(0,.ls L),(2,.nils),(3,.ps L false),(4,.bool false)],av [a,b,c]⟩:St)=⟨eJ 8 [(0,.ls L),(2,.nils),(3,.ps L false),(4,.bool false)],av [a,b,c]⟩) ⟨hn,rfl⟩ (by kernel_rfl)) ?_))
  rintro _ _ ⟨rfl,rfl⟩
  refine ar.cond (t:=false) (by kernel_rfl) (fun h=>by grind) fun _=>ar.skip ?_
  refine ar.seq (ar.region ?_)
  show ce _ _ _ _ [_,_,_,_] _ _
  refine ce.one (s':=⟨eJ 8 [(0,.ls L),(2,.nils),(3,.ps L false),(4,.bool false),(5,.ps [] true)],av [a,b,c]⟩) (ev 40) (by kernel_rfl) ?_
  refine ce.one (s':=⟨eJ 8 [(0,.ls L),(2,.nils),(3,.ps L false),(4,.bool false),(5,.ps [] true),(6,.ls L)],av [a,b,c]⟩) (ev 40) (by kernel_rfl) ?_
  refine rD (I:=fun _=>True) (r:=fun k:Nat=>.slice 3 0 0 L.length (some (L.length+k))) (H:=fun k=>av [a,b,c,.row 8 false 0 (L++List.replicate k (aV bd))]) (by kernel_rfl)
    (fun pl M a w g1 g2 g3=>u9 (z:=aV bd) (z0:=zU) (xs:=L) (t:=34) (tx:=34) (e:=36) (i:=JR) H8 E8 (by kernel_rfl) ⟨36,by kernel_rfl⟩ OG (by kernel_rfl) Xo (by kernel_rfl) (by kernel_rfl) hn hf (by kernel_rfl) hsm (by omega) pl M a w g1 g2 g3) fun k _=>?_
  refine⟨eJ 8 [(0,.ls L),(2,.nils),(3,.ps L false),(4,.bool false),(5,.ps [] true),(6,.ls L),(7,.slice 3 0 0 L.length (some (L.length+k)))],by kernel_rfl,?_⟩
  refine ce.one (s':=⟨eJ 8 [(0,.ls L),(2,.slice 3 0 0 L.length (some (L.length+k))),(3,.ps L false),(4,.bool false),(5,.ps [] true),(6,.ls L),(7,.slice 3 0 0 L.length (some (L.length+k)))],av [a,b,c,.row 8 false 0 (L++List.replicate k (aV bd))]⟩) (ev 40) (by kernel_rfl) (ce.nil (ar.ret ⟨fun id h=>(by grind),.slice 3 0 0 L.length (some (L.length+k)),by kernel_rfl,k,trivial,by kernel_rfl,by kernel_rfl⟩))
/-- The unit that a closure changes: its kids are 'K'. -/
noncomputable abbrev dG(u:TUnit)(K:AV):AObj:=.row 8 false 0 [.agg [iV u.act,iV u.item,iV u.n,iV u.kind,.str u.label,.ls (u.head.map aQ),.ls (u.words.map aQ),K]]
theorem Xs(u:TUnit)(n c i:Nat)(R R':List AV)(hT:aq R=0)(hT2:aq R'=0)(hi:i<n)(hs:n≤2^20)(hD:kD 210 [.slice 1 0 0 n (some c),nV i,nV (i+1)] (av [dG u (.slice 1 0 0 n (some c)),dH R]) (.slice 1 0 0 (n-1) (some c)) (av [dG u (.slice 1 0 0 n (some c)),dH R'])):
    kD 209 [.ptr 0 0 0 0,.pptr [nV i] 0 0] (av [dG u (.slice 1 0 0 n (some c)),dH R]) (.tuple []) (av [dG u (.slice 1 0 0 (n-1) (some c)),dH R']):=by
  exact eg Tryz.func209 fun a=>Mg 6<|Ma (gc i)<|M3 (.efx false (aE 1 0 0 (n-1)<|some c)<|av [aZ 8 false 0 [ay [iV u.act,iV u.item,iV u.n,iV u.kind,aj u.label,aW<|u.head.map aQ,aW<|u.words.map aQ,aE 1 0 0 n<|some c]],aZ 8 false 0 R']) (b6 (tR 8 false 0 2 (oA:aq (R)=0)) rt ti) ti hD<|Kf 2 a
theorem Wp(u x:TUnit)(n c i:Nat)(R R':List AV)(hT:aq R=0)(hT2:aq R'=0)(hD:kD 151 [.slice 1 0 0 n (some c),nV i,.ps [eU x] true] (av [dG u (.slice 1 0 0 n (some c)),dH R]) (.slice 1 0 0 (n+1) (some c)) (av [dG u (.slice 1 0 0 n (some c)),dH R'])):
    kD 150 [.ptr 0 0 0 0,.pptr [nV i] 0 0,.pptr [eU x] 0 0] (av [dG u (.slice 1 0 0 n (some c)),dH R]) (.tuple []) (av [dG u (.slice 1 0 0 (n+1) (some c)),dH R']):=by
  exact eg Tryz.func150 fun a=>Mg 7<|M3 (.efx false (aE 1 0 0 (n+1)<|some c)<|av [aZ 8 false 0 [ay [iV u.act,iV u.item,iV u.n,iV u.kind,aj u.label,aW<|u.head.map aQ,aW<|u.words.map aQ,aE 1 0 0 n<|some c]],aZ 8 false 0 R']) (b6 (tR 8 false 0 2 (oA:aq (R)=0)) rt ti) ti hD<|Kf 2 a
theorem Wo(u x:TUnit)(n c i:Nat)(R Y:List AV)(hT:aq R=0)(hD:kD 151 [.slice 1 0 0 n (some c),nV i,.ps [eU x] true] (av [dG u (.slice 1 0 0 n (some c)),dH R]) (.ls Y) (av [dG u (.slice 1 0 0 n (some c)),dH R])):
    kD 150 [.ptr 0 0 0 0,.pptr [nV i] 0 0,.pptr [eU x] 0 0] (av [dG u (.slice 1 0 0 n (some c)),dH R]) (.tuple []) (av [dG u (.ls Y),dH R]):=by
  let q:=[ay [iV u.act,iV u.item,iV u.n,iV u.kind,aj u.label,aW (u.head.map aQ),aW (u.words.map aQ),aE 1 0 0 n (some c)]];exact eg Tryz.func150 fun a=>Mg 7<|M3 (.efx true (aW Y)<|av [aZ 8 false 0 q,aZ 8 false 0 R]) (b6 (tR 8 false 0 2 (oA:aq (R)=0)) rt ti) (b6 (aY<|some<|aZ 8 false 0 R) (aY<|some<|aZ 8 false 0 q) ti) hD<|Kf 2 a
theorem Wn(u x:TUnit)(Y:List AV)(hD:kP 151 [.nils,iV 0,.ps [eU x] true] (.ls Y)):
    kD 150 [.ptr 0 0 0 0,.pptr [iV 0] 0 0,.pptr [eU x] 0 0] (av [dG u .nils]) (.tuple []) (av [dG u (.ls Y)]):=by
  exact eg Tryz.func150 fun a=>Kp 7 hD<|Kf 2 a
theorem Wm(u x:TUnit)(Y:List AV)(hD:kP 151 [(.ps [] true),iV 0,.ps [eU x] true] (.ls Y)):
    kD 150 [.ptr 0 0 0 0,.pptr [iV 0] 0 0,.pptr [eU x] 0 0] (av [dG u (.ps [] true)]) (.tuple []) (av [dG u (.ls Y)]):=by
  exact eg Tryz.func150 fun a=>Kp 7 hD<|Kf 2 a
theorem Ww(u x:TUnit)(n c i:Nat)(R R':List AV)(hT:aq R=0)(hT2:aq R'=0)(hD:kD 151 [.slice 1 0 0 n (some c),nV i,.ps [eU x] true] (av [dG u (.slice 1 0 0 n (some c)),dH R]) (.slice 1 0 0 (n+1) (some c)) (av [dG u (.slice 1 0 0 n (some c)),dH R'])):
    kD 160 [.ptr 0 0 0 0,.pptr [nV i] 0 0,.pptr [eU x] 0 0] (av [dG u (.slice 1 0 0 n (some c)),dH R]) (.tuple []) (av [dG u (.slice 1 0 0 (n+1) (some c)),dH R']):=by
  exact eg Tryz.func160 fun a=>Mg 7<|M3 (.efx false (aE 1 0 0 (n+1)<|some c)<|av [aZ 8 false 0 [ay [iV u.act,iV u.item,iV u.n,iV u.kind,aj u.label,aW<|u.head.map aQ,aW<|u.words.map aQ,aE 1 0 0 n<|some c]],aZ 8 false 0 R']) (b6 (tR 8 false 0 2 (oA:aq (R)=0)) rt ti) ti hD<|Kf 2 a
theorem Wk(u x:TUnit)(n c i:Nat)(R Y:List AV)(hT:aq R=0)(hD:kD 151 [.slice 1 0 0 n (some c),nV i,.ps [eU x] true] (av [dG u (.slice 1 0 0 n (some c)),dH R]) (.ls Y) (av [dG u (.slice 1 0 0 n (some c)),dH R])):
    kD 160 [.ptr 0 0 0 0,.pptr [nV i] 0 0,.pptr [eU x] 0 0] (av [dG u (.slice 1 0 0 n (some c)),dH R]) (.tuple []) (av [dG u (.ls Y),dH R]):=by
  let q:=[ay [iV u.act,iV u.item,iV u.n,iV u.kind,aj u.label,aW (u.head.map aQ),aW (u.words.map aQ),aE 1 0 0 n (some c)]];exact eg Tryz.func160 fun a=>Mg 7<|M3 (.efx true (aW Y)<|av [aZ 8 false 0 q,aZ 8 false 0 R]) (b6 (tR 8 false 0 2 (oA:aq (R)=0)) rt ti) (b6 (aY<|some<|aZ 8 false 0 R) (aY<|some<|aZ 8 false 0 q) ti) hD<|Kf 2 a
theorem Wj(u x:TUnit)(Y:List AV)(hD:kP 151 [.nils,iV 0,.ps [eU x] true] (.ls Y)):
    kD 160 [.ptr 0 0 0 0,.pptr [iV 0] 0 0,.pptr [eU x] 0 0] (av [dG u .nils]) (.tuple []) (av [dG u (.ls Y)]):=by
  exact eg Tryz.func160 fun a=>Kp 7 hD<|Kf 2 a
theorem Wx(u x:TUnit)(Y:List AV)(hD:kP 151 [(.ps [] true),iV 0,.ps [eU x] true] (.ls Y)):
    kD 160 [.ptr 0 0 0 0,.pptr [iV 0] 0 0,.pptr [eU x] 0 0] (av [dG u (.ps [] true)]) (.tuple []) (av [dG u (.ls Y)]):=by
  exact eg Tryz.func160 fun a=>Kp 7 hD<|Kf 2 a
theorem Xp(u:TUnit)(l:List PWord):kD 154 [.ptr 0 0 0 0,.pptr [.ls (l.map aQ)] 0 0] (av [dG u (.ls (u.kids.map aV))]) (.tuple []) (av [dG (mV l u) (.ls (u.kids.map aV))]):=by
  exact eg Tryz.func154 fun a=>Kf 4 a
theorem X0(u:TUnit)(l:List PWord):kD 156 [.ptr 0 0 0 0,.pptr [.ls (l.map aQ)] 0 0] (av [dG u (.ls (u.kids.map aV))]) (.tuple []) (av [dG (mV l u) (.ls (u.kids.map aV))]):=by
  exact eg Tryz.func156 fun a=>Kf 4 a
theorem Yy(u:TUnit)(l:List PWord):kD 158 [.ptr 0 0 0 0,.pptr [.ls (l.map aQ)] 0 0] (av [dG u (.ls (u.kids.map aV))]) (.tuple []) (av [dG (z8 l u) (.ls (u.kids.map aV))]):=by
  exact eg Tryz.func158 fun a=>Kf 4 a
theorem XS(u:TUnit)(d:PDeed):kD 159 [.ptr 0 0 0 0,.pptr [aU d] 0 0] (av [dG u (.ls (u.kids.map aV))]) (.tuple []) (av [dG (pz d.it.label u) (.ls (u.kids.map aV))]):=by
  exact eg Tryz.func159 fun a=>Kf 6 a
noncomputable abbrev vn(p:PId):AObj:=.row 3 false 0 [aK p]
noncomputable abbrev zO:AObj:=.row 8 false 0 [zU]
theorem Hy:kP 206 [.nils] .nils:=by
  exact wk Tryz.func206 (.go 4 .fin)<|bp ab
theorem Hv:kP 206 [.ps [] false] (.ps [] true):=by
  exact wk Tryz.func206 (.go 7 .fin)<|bp<|i7 [] true
theorem RA(w:TUnit)(r:List TUnit)(hl:r.length<2^20):kP 206 [.ls ((w::r).map aV)] (.ls ((w::r).map aV)):=by
  let q:=List.map aV (w::r);exact bM Tryz.func206<|Mg 1<|Mz 3 (fun(a:((w::r).map aV:List AV)=[])=>Mw .abs<|mJ _ _ a)<|Mg 3<|M2 .apl (et (sA:List.map aV (w::r)≠[])<|gF (sz:=8) (f:=aV) (fun _=>by(rw[aO];rfl))<|w::r) (by(refine aM (m:=2^21) ?_ ?_ ?_<;>first|omega|grind):small ((w::r).map aV).length 120=true)<|Mg 0<|M2 (.fsl 0 [] 2 q) ti (b6 (aY 0) (tA aV (w::r) q.length (sA:(w::r).length=((w::r).map aV).length))<|aX iY<|w::r)<|Ml 2 (eT q false<|aX iY<|w::r)<|Mf<|bp<|aW q
theorem C4(l:List TUnit)(hl:l.length≤2^20):kP 206 [.ls (l.map aV)] (.ls (l.map aV)):=by
  cases l with
  |nil=>exact aR.ls0 (Hy.less Le.nils) (Hv.lessB (u:=.ls []) (by kernel_rfl))
  |cons w r=>grind[RA]
/-- The unit is found; its kids stay what they are. -/
theorem yV(g:Nat)(bs:List AV)(p:PId)(u u2:TUnit)(hA:aq [eU u,aK p,.func (.func g) [] bs]=0)(hp:(ah u.act p.a&&(ah u.item p.i&&ah u.n p.n))=true)(hl:u.kids.length≤2^20)(hd:kD g (.ptr 0 0 0 0::bs) (av [dG u (.ls (u.kids.map aV)),vn p,zO]) (.tuple []) (av [dG u2 (.ls (u2.kids.map aV)),vn p,zO])):kP 149 [eU u,aK p,.func (.func g) [] bs] (eU u2):=by
  have hc:=C4 u.kids hl
  let q:=[iV p.a,iV p.i,iV p.n];exact bM (ht:=oA) Tryz.func149<|Kv 5 (kB ((Tryz.prog).underlying 24) u.act u.item u.n p.a p.i p.n<|av [aZ 8 false 0 [ay [iV u.act,iV u.item,iV u.n,iV u.kind,aj u.label,aW<|u.head.map aQ,aW<|u.words.map aQ,aW<|u.kids.map aV]],aZ 3 false 0 [ay q],aZ 8 false 0 [ay [iV 0,iV 0,iV 0,iV 0,aj [],ab,ab,ab]]])<|Mt hp<|Kp 1 hc<|Ke 2 hd<|Kf 1<|bp<|ay [iV u2.act,iV u2.item,iV u2.n,iV u2.kind,aj u2.label,aW<|u2.head.map aQ,aW<|u2.words.map aQ,aW<|u2.kids.map aV]
/-- The unit is found; it has kids; in its own row something is done. -/
theorem UZ(g:Nat)(bs:List AV)(p:PId)(u u2:TUnit)(n2:Nat)(Z:Nat→List AV)(hA:aq [eU u,aK p,.func (.func g) [] bs]=0)(hp:(ah u.act p.a&&(ah u.item p.i&&ah u.n p.n))=true)(hl:u.kids.length≤2^20)(hne:u.kids≠[])(hn2:u2.kids.length=n2)(hd:∀k,kD g (.ptr 0 0 0 0::bs) (av [dG u (.slice 3 0 0 u.kids.length (some (u.kids.length+k))),vn p,zO,dH ((u.kids++List.replicate k bd).map aV)]) (.tuple []) (av [dG u2 (.slice 3 0 0 n2 (some (u.kids.length+k))),vn p,zO,dH (u2.kids.map aV++Z k)])):kP 149 [eU u,aK p,.func (.func g) [] bs] (eU u2):=by
  let q:=[ay [iV u.act,iV u.item,iV u.n,iV u.kind,aj u.label,aW (u.head.map aQ),aW (u.words.map aQ),aW (u.kids.map aV)]];let q1:=[iV p.a,iV p.i,iV p.n];let q2:=[ay [iV 0,iV 0,iV 0,iV 0,aj [],ab,ab,ab]];let q3:=List.map aV u2.kids;exact bM (ht:=oA) Tryz.func149<|Kv 5 (kB ((Tryz.prog).underlying 24) u.act u.item u.n p.a p.i p.n<|av [aZ 8 false 0 q,aZ 3 false 0 [ay q1],aZ 8 false 0 q2])<|Mt hp<|Mg 1<|Mq (Ey u.kids hne hl (aZ 8 false 0 q) (aZ 3 false 0 [ay q1])<|aZ 8 false 0 q2) fun a _=>Ke 2 (hd a)<|M2 (.fza 0 7 3 [3,6] q3) (jc rt rt rt ti) (b6 (aY 0) (VU (xs:=List.map aV u2.kids) (ys:=Z a) (n:=n2) sA)<|aX iY u2.kids)<|Kf 1<|bp<|ay [iV u2.act,iV u2.item,iV u2.n,iV u2.kind,aj u2.label,aW<|u2.head.map aQ,aW<|u2.words.map aQ,aW q3]
theorem UU{l m:List TUnit}{i:Nat}(h:i<l.length):gD (l++m) i=gD l i:=by
  grind[gD]
theorem tD{l m:List TUnit}{i n:Nat}{x:TUnit}(h:l.length=n)(hi:i<n):((l++m).set i x).take n=l.set i x:=by
  simp_all
theorem Sk{l m:List TUnit}{n:Nat}(h:l.length=n):(l++m).take n=l:=by simp_all
theorem Lg{l:List TUnit}{i:Nat}(h:i<l.length):l.drop i=gD l i::l.drop (i+1):=by
  grind[List.drop_eq_getElem_cons,gD]
theorem XA{p:PId}{f:TUnit→TUnit}{l:List TUnit}{i:Nat}(h:jj p f l i (l.drop i))(hi:l.length≤i):ef p f l=l:=by
  grind[List.drop_eq_nil_of_le,jj.done]
theorem Xt{p:PId}{f:TUnit→TUnit}{l:List TUnit}{i:Nat}(h:jj p f l i (l.drop i))(hi:i<l.length)(hw:bB p (gD l i)=false):jj p f l (i+1) (l.drop (i+1)):=by
  grind[Lg,jj.skip]
theorem Xu{p:PId}{f:TUnit→TUnit}{l:List TUnit}{i:Nat}(h:jj p f l i (l.drop i))(hi:i<l.length)(hw:bB p (gD l i)=true):ef p f l=l.set i (dK p f (gD l i)):=by
  grind[Lg,jj.hit]
/-- The unit is another one without kids. -/
theorem YU(g:Nat)(bs:List AV)(p:PId)(u:TUnit)(hA:aq [eU u,aK p,.func (.func g) [] bs]=0)(hA2:(AV.func (.func g) [] bs).top=0)(hp:(ah u.act p.a&&(ah u.item p.i&&ah u.n p.n))=false)(h0:u.kids.length=0)(hl0:aC 0 (Int.ofNat u.kids.length)=false):kP 149 [eU u,aK p,.func (.func g) [] bs] (eU u):=by
  have hc:=C4 u.kids (by omega)
  let q:=[aZ 8 false 0 [ay [iV u.act,iV u.item,iV u.n,iV u.kind,aj u.label,aW (u.head.map aQ),aW (u.words.map aQ),aW (u.kids.map aV)]],aZ 3 false 0 [ay [iV p.a,iV p.i,iV p.n]],aZ 8 false 0 [ay [iV 0,iV 0,iV 0,iV 0,aj [],ab,ab,ab]]];let q1:=[bU (bY g) [] bs,bJ 0 0 0 0,bJ 1 0 0 0,bJ 2 0 0 0,aW (u.kids.map aV),aW (u.kids.map aV),nV u.kids.length,iV 0];exact bM (ht:=oA) Tryz.func149<|Kv 5 (kB ((Tryz.prog).underlying 24) u.act u.item u.n p.a p.i p.n<|av q)<|Mh hp<|Kp 1 hc<|Kl 2 27 (ln aV u.kids)<|Mg 0<|ZJ [2,3,4,6,7,26,27,28] (q1,q) True 0 ti fun _ _=>Kh 0 hl0<|Kf 4<|bp<|ay [iV u.act,iV u.item,iV u.n,iV u.kind,aj u.label,aW<|u.head.map aQ,aW<|u.words.map aQ,aW<|u.kids.map aV]
/-- The unit is another: what is done below. -/
theorem YY(g:Nat)(bs:List AV)(p:PId)(f:TUnit→TUnit)(u:TUnit)(hA:aq [eU u,aK p,.func (.func g) [] bs]=0)(hA2:(AV.func (.func g) [] bs).top=0)(hp:(ah u.act p.a&&(ah u.item p.i&&ah u.n p.n))=false)(hne:u.kids≠[])(hn:u.kids.length≤2^20)
    (hf:∀k,k∈u.kids→kP 17 [eU k,aK p] (.tuple [eU (dA p k),.bool (bB p k)]))
    (ih:∀k,k∈u.kids→kP 149 [eU k,aK p,.func (.func g) [] bs] (eU (dK p f k))):kP 149 [eU u,aK p,.func (.func g) [] bs] (eU (fu u (ef p f u.kids))):=by
  have rr0:∀b',(h:(List.map aV (fu u (ef p f u.kids)).kids)=b':=by first|rfl|(rw[Xu hx0.2 (by(first|omega|(simp only[oN]at *;omega))) (by rw[←q0 (by(first|omega|(simp only[oN]at *;omega)))];assumption),q0 (by(first|omega|(simp only[oN]at *;omega)))];exact congrArg _ (tD rfl (by(first|omega|(simp only[oN]at *;omega)))).symm)|(rw[XA hx0.2 (by(first|omega|(simp only[oN]at *;omega)))];exact congrArg _ (Sk rfl).symm))→(List.map aV (fu u (ef p f u.kids)).kids)=b':=(fun _ h=>h);exact bM (ht:=oA) Tryz.func149<|Kv 5 (kB ((Tryz.prog).underlying 24) u.act u.item u.n p.a p.i p.n<|av [aZ 8 false 0 [ay [iV u.act,iV u.item,iV u.n,iV u.kind,aj u.label,aW<|u.head.map aQ,aW<|u.words.map aQ,aW<|u.kids.map aV]],aZ 3 false 0 [ay [iV p.a,iV p.i,iV p.n]],aZ 8 false 0 [ay [iV 0,iV 0,iV 0,iV 0,aj [],ab,ab,ab]]])<|Mh hp<|Mg 1<|Mq (Ey u.kids hne hn (aZ 8 false 0 [ay [iV u.act,iV u.item,iV u.n,iV u.kind,aj u.label,aW<|u.head.map aQ,aW<|u.words.map aQ,aW<|u.kids.map aV]]) (aZ 3 false 0 [ay [iV p.a,iV p.i,iV p.n]])<|aZ 8 false 0 [ay [iV 0,iV 0,iV 0,iV 0,aj [],ab,ab,ab]]) fun a _=>Mg 3<|MO1 (0:Nat) [2,3,4,6,7,26,27,28] (fun b=>([bU (bY g) [] bs,bJ 0 0 0 0,bJ 1 0 0 0,bJ 2 0 0 0,aE 3 0 0 u.kids.length<|some<|u.kids.length+a,aE 3 0 0 u.kids.length<|some<|u.kids.length+a,nV u.kids.length,nV b],[aZ 8 false 0 [ay [iV u.act,iV u.item,iV u.n,iV u.kind,aj u.label,aW<|u.head.map aQ,aW<|u.words.map aQ,aW<|u.kids.map aV]],aZ 3 false 0 [ay [iV p.a,iV p.i,iV p.n]],aZ 8 false 0 [ay [iV 0,iV 0,iV 0,iV 0,aj [],ab,ab,ab]],aZ 8 false 0<|(u.kids++List.replicate a bd).map aV])) (fun a=>a≤u.kids.length∧jj p f u.kids a (u.kids.drop a)) (fun a=>u.kids.length-a) (by simp_all[jj.start]) fun b hx0 c=>have hx0:b≤u.kids.length∧jj p f u.kids b (u.kids.drop b):=hx0;have q0:b<u.kids.length→gD (u.kids++List.replicate a bd) b=gD u.kids b:=fun h=>UU h;Ka 0 (Int.ofNat b) (Int.ofNat u.kids.length) (fun _ _=>K1 0 .rix (et (aY 0) (sA:b<u.kids.length))<|Mr (et (aY 0)<|rU aV (g:=Go.Ev.eU) aO (gR:b<(u.kids++List.replicate a bd).length))<|Kp 4 (hf (gD (u.kids++List.replicate a bd) b)<|by grind[gx])<|Kb 6 (bB p<|gD (u.kids++List.replicate a bd) b) (fun _=>Kp 4 (ih (gD (u.kids++List.replicate a bd) b)<|by grind[gx])<|M1 .rix (et (aY 0) (sA:b<u.kids.length))<|M1 (.rst (ay [iV (gD (u.kids++List.replicate a bd) b).act,iV (gD (u.kids++List.replicate a bd) b).item,iV (gD (u.kids++List.replicate a bd) b).n,iV (gD (u.kids++List.replicate a bd) b).kind,aj (gD (u.kids++List.replicate a bd) b).label,aW<|List.map aQ (gD (u.kids++List.replicate a bd) b).head,aW<|List.map aQ (gD (u.kids++List.replicate a bd) b).words,aW<|List.map aV (gD (u.kids++List.replicate a bd) b).kids])<|((u.kids++List.replicate a bd).set b<|dK p f<|gD (u.kids++List.replicate a bd) b).map aV) (b6 (aY 0) (rU aV (g:=Go.Ev.eU) aO (gR:b<(u.kids++List.replicate a bd).length))<|Dc (f:=aV) (g:=Go.Ev.eU) aO (l:=u.kids++List.replicate a bd) (i:=b) (w:=dK p f<|gD (u.kids++List.replicate a bd) b))<|Mg 0<|M2 (.fsl 3 [3,6] 48<|(((u.kids++List.replicate a bd).set b<|dK p f<|gD (u.kids++List.replicate a bd) b).take u.kids.length).map aV) (jc rt rt rt ti) (b6 (aY 0) (wm (f:=aV) (l:=(u.kids++List.replicate a bd).set b<|dK p f<|gD (u.kids++List.replicate a bd) b) (n:=u.kids.length))<|aX iY<|((u.kids++List.replicate a bd).set b<|dK p f<|gD (u.kids++List.replicate a bd) b).take u.kids.length)<|Ml 48 (eT ((((u.kids++List.replicate a bd).set b<|dK p f<|gD (u.kids++List.replicate a bd) b).take u.kids.length).map aV) (oz (some<|u.kids.length+a)<|some u.kids.length)<|aX iY<|((u.kids++List.replicate a bd).set b<|dK p f<|gD (u.kids++List.replicate a bd) b).take u.kids.length)<|Kf 3 (bQ (.cons (bp _)<|.cons (bp _)<|.cons (bp _)<|.cons (bp _)<|.cons (bp _)<|.cons (bp _)<|.cons (bp _)<|.cons (cV<|rr0<|(((u.kids++List.replicate a bd).set b<|dK p f<|gD (u.kids++List.replicate a bd) b).take u.kids.length).map aV) .nil)<|by kernel_rfl:Le _ (AV.agg [iV u.act,iV u.item,iV u.n,iV u.kind,AV.str u.label,AV.ls (u.head.map aQ),AV.ls (u.words.map aQ),AV.ls ((((u.kids++List.replicate a bd).set b (dK p f (gD (u.kids++List.replicate a bd) b))).take u.kids.length).map aV)]))) fun _=>Kl 0 47 (gc b)<|Mg 0<|M2 (.frl 4 [3,4,6,7,26,27,28] [2]) (vS (OO (sz:=8) (op:=false) (ep:=0) (n:=4)<|aX iY<|u.kids++List.replicate a bd) rt rt rt ti) (et (oA:(AV.func (Fn.func g) [] bs).top≤4) ti)<|Mf<|c (b+1) (by grind[Xt]) gR) fun _ _=>Mg 0<|M2 (.fsl 3 [3,6] 48<|((u.kids++List.replicate a bd).take u.kids.length).map aV) (jc rt rt rt ti) (b6 (aY 0) (wm (f:=aV) (l:=u.kids++List.replicate a bd) (n:=u.kids.length))<|aX iY<|(u.kids++List.replicate a bd).take u.kids.length)<|Ml 48 (eT (((u.kids++List.replicate a bd).take u.kids.length).map aV) (oz (some<|u.kids.length+a)<|some u.kids.length)<|aX iY<|(u.kids++List.replicate a bd).take u.kids.length)<|Kf 3 (bQ (.cons (bp _)<|.cons (bp _)<|.cons (bp _)<|.cons (bp _)<|.cons (bp _)<|.cons (bp _)<|.cons (bp _)<|.cons (cV<|rr0<|((u.kids++List.replicate a bd).take u.kids.length).map aV) .nil)<|by kernel_rfl:Le _ (AV.agg [iV u.act,iV u.item,iV u.n,iV u.kind,AV.str u.label,AV.ls (u.head.map aQ),AV.ls (u.words.map aQ),AV.ls (((u.kids++List.replicate a bd).take u.kids.length).map aV)]))
theorem iq{g:Nat}{bs:List AV}{p:PId}(hb:aq bs=0)(x:TUnit):aq [eU x,aK p,.func (.func g) [] bs]=0:=by
  have h1:(eU x).top=0:=by rw[←aO];exact iY x
  have h2:(AV.func (.func g) [] bs).top=0:=by simp only[AV.top,aq,hb];rfl
  exact kX.2 fun y hy=>by
    simp only[fE,List.mem_nil_iff,or_false]at hy
    rcases hy with rfl|rfl|rfl
    · omega
    · exact Jz p
    omega
/-- with: the first unit of the number is changed, wherever it stands. -/
theorem oL(g:Nat)(bs:List AV)(p:PId)(f:TUnit→TUnit)(hb:aq bs=0):∀(u:TUnit),nU u≤2^19→(∀x,x∈bu u→x.head.length<2^30∧x.words.length<2^30)→
    (∀v,v∈bu u→fL p v=true→kP 149 [eU v,aK p,.func (.func g) [] bs] (eU (f v)))→kP 149 [eU u,aK p,.func (.func g) [] bs] (eU (dK p f u)):=by
  refine TUnit.ind fun u ih hn ht hit=>?_
  have hA:=iq (g:=g) (bs:=bs) (p:=p) hb
  cases hi:fL p u with
  |true=>grind[qR,dh]
  | false=>
    have hkl:=bf u
    rw[kM hi]
    by_cases h0:u.kids=[]
    · have e:fu u (ef p f u.kids)=u:=by rw[h0,sa];cases u;simp only[TUnit.kids]at h0;subst h0;rfl
      rw[e]
      exact YU g bs p u (hA u) (by simp only[AV.top,aq,hb];rfl) hi (by simp_all) (by rw[h0];rfl)
    · exact YY g bs p f u (hA u) (by simp only[AV.top,aq,hb];rfl) hi h0 (by omega) (fun k hk=>Q7 p k (by have:=iH hk;omega) fun x hx=>ht x (bH hk hx))
        fun k hk=>ih k hk (by have:=iH hk;omega) (fun x hx=>ht x (bH hk hx)) fun v hv=>hit v (bH hk hv)
theorem A4{bs:List AV}(rs:List Nat)(h0:fN rs 0=0)(hb:aq bs=0):l0 (fN rs) (.ptr 0 0 0 0::bs)=.ptr 0 0 0 0::bs:=by
  grind[l0,Ev.ren,eN]
theorem Ai{g:Nat}{bs:List AV}{u u2:TUnit}{n n2 c:Nat}{X X2:List AV}{A B:AObj}(hb:aq bs=0)(hX:aq X=0)(hX2:aq X2=0)(h:kD g (.ptr 0 0 0 0::bs) (av [dG u (.slice 1 0 0 n (some c)),dH X]) (.tuple []) (av [dG u2 (.slice 1 0 0 n2 (some c)),dH X2])):
    kD g (.ptr 0 0 0 0::bs) (av [dG u (.slice 3 0 0 n (some c)),A,B,dH X]) (.tuple []) (av [dG u2 (.slice 3 0 0 n2 (some c)),A,B,dH X2]):=
  po ie [0,3] h (A4 _ rfl hb) rfl rfl ⟨⟨rfl,vY (by kernel_rfl)⟩,⟨rfl,by show aq X≤2;omega⟩,trivial⟩ ⟨⟨rfl,vY (by kernel_rfl)⟩,⟨rfl,by show aq X2≤2;omega⟩,trivial⟩
    (by show Nat.mx _ (aq bs)≤2;rw[hb];exact vY (by kernel_rfl)) (bN _) ⟨by kernel_rfl,by rw[vf hX];kernel_rfl,trivial⟩ ⟨by kernel_rfl,by kernel_rfl,trivial⟩
    (by show _=AHeap.put (AHeap.put _ _ _) _ (kU _ (.row 8 false 0 X2));rw[vf hX2];kernel_rfl)
theorem CT{g:Nat}{bs:List AV}{u u2:TUnit}{n c:Nat}{X Y:List AV}{A B:AObj}(hb:aq bs=0)(hX:aq X=0)(h:kD g (.ptr 0 0 0 0::bs) (av [dG u (.slice 1 0 0 n (some c)),dH X]) (.tuple []) (av [dG u2 (.ls Y),dH X])):
    kD g (.ptr 0 0 0 0::bs) (av [dG u (.slice 3 0 0 n (some c)),A,B,dH X]) (.tuple []) (av [dG u2 (.ls Y),A,B,dH X]):=
  po ie [0,3] h (A4 _ rfl hb) rfl rfl ⟨⟨rfl,vY (by kernel_rfl)⟩,⟨rfl,by show aq X≤2;omega⟩,trivial⟩ ⟨⟨rfl,vY (by kernel_rfl)⟩,⟨rfl,by show aq X≤2;omega⟩,trivial⟩
    (by show Nat.mx _ (aq bs)≤2;rw[hb];exact vY (by kernel_rfl)) (bN _) ⟨by kernel_rfl,by rw[vf hX];kernel_rfl,trivial⟩ ⟨by kernel_rfl,by kernel_rfl,trivial⟩
    (by show _=AHeap.put (AHeap.put _ _ _) _ (kU _ (.row 8 false 0 X));rw[vf hX];kernel_rfl)
theorem j6{g:Nat}{bs:List AV}{u u2:TUnit}{A B:AObj}{K K2:AV}(hb:aq bs=0)(h1:aq [.agg [iV u.act,iV u.item,iV u.n,iV u.kind,.str u.label,.ls (u.head.map aQ),.ls (u.words.map aQ),K]]=0)(h2:aq [.agg [iV u2.act,iV u2.item,iV u2.n,iV u2.kind,.str u2.label,.ls (u2.head.map aQ),.ls (u2.words.map aQ),K2]]=0)(h:kD g (.ptr 0 0 0 0::bs) (av [dG u K]) (.tuple []) (av [dG u2 K2])):
    kD g (.ptr 0 0 0 0::bs) (av [dG u K,A,B]) (.tuple []) (av [dG u2 K2,A,B]):=
  fx ie 0 h1 h2 h (A4 _ rfl hb) rfl rfl (by simp only[aq,AV.top,hb];rfl) rfl (by kernel_rfl) (by kernel_rfl)
/-- The unit is found; it has kids; a kid more is laid into its row, or into a new one. -/
theorem LU(g:Nat)(bs:List AV)(p:PId)(u u2:TUnit)(n2:Nat)(Z:Nat→List AV)(hA:aq [eU u,aK p,.func (.func g) [] bs]=0)(hp:(ah u.act p.a&&(ah u.item p.i&&ah u.n p.n))=true)(hl:u.kids.length≤2^20)(hne:u.kids≠[])(hn2:u2.kids.length=n2)
    (hdA:∀k,By (Nat.beq k 0) true→kD g (.ptr 0 0 0 0::bs) (av [dG u (.slice 3 0 0 u.kids.length (some (u.kids.length+k))),vn p,zO,dH ((u.kids++List.replicate k bd).map aV)]) (.tuple []) (av [dG u2 (.ls (u2.kids.map aV)),vn p,zO,dH ((u.kids++List.replicate k bd).map aV)]))
    (hdB:∀k,By (Nat.beq k 0) false→kD g (.ptr 0 0 0 0::bs) (av [dG u (.slice 3 0 0 u.kids.length (some (u.kids.length+k))),vn p,zO,dH ((u.kids++List.replicate k bd).map aV)]) (.tuple []) (av [dG u2 (.slice 3 0 0 n2 (some (u.kids.length+k))),vn p,zO,dH (u2.kids.map aV++Z k)])):kP 149 [eU u,aK p,.func (.func g) [] bs] (eU u2):=by
  let q:=ay [iV u2.act,iV u2.item,iV u2.n,iV u2.kind,aj u2.label,aW (u2.head.map aQ),aW (u2.words.map aQ),aW (u2.kids.map aV)];let q1:=[ay [iV u.act,iV u.item,iV u.n,iV u.kind,aj u.label,aW (u.head.map aQ),aW (u.words.map aQ),aW (u.kids.map aV)]];let q2:=[iV p.a,iV p.i,iV p.n];let q3:=[ay [iV 0,iV 0,iV 0,iV 0,aj [],ab,ab,ab]];exact bM (ht:=oA) Tryz.func149<|Kv 5 (kB ((Tryz.prog).underlying 24) u.act u.item u.n p.a p.i p.n<|av [aZ 8 false 0 q1,aZ 3 false 0 [ay q2],aZ 8 false 0 q3])<|Mt hp<|Mg 1<|Mq (Ey u.kids hne hl (aZ 8 false 0 q1) (aZ 3 false 0 [ay q2])<|aZ 8 false 0 q3) fun a _=>Ks 2 (a.beq 0) (fun b=>Me (hdA a b)<|Kf 1<|bp q) fun b=>Me (hdB a b)<|M2 (.fza 0 7 3 [3,6]<|u2.kids.map aV) (jc rt rt rt ti) (b6 (aY 0) (VU (xs:=List.map aV u2.kids) (ys:=Z a) (n:=n2) sA)<|aX iY u2.kids)<|Kf 1<|bp q
/-- The unit is found; it has no kids; it gets one. -/
theorem Lq(g:Nat)(bs:List AV)(p:PId)(u u2:TUnit)(hA:aq [eU u,aK p,.func (.func g) [] bs]=0)(hp:(ah u.act p.a&&(ah u.item p.i&&ah u.n p.n))=true)(h0:u.kids=[])
    (hdN:kD g (.ptr 0 0 0 0::bs) (av [dG u .nils,vn p,zO]) (.tuple []) (av [dG u2 (.ls (u2.kids.map aV)),vn p,zO]))
    (hdP:kD g (.ptr 0 0 0 0::bs) (av [dG u (.ps [] true),vn p,zO]) (.tuple []) (av [dG u2 (.ls (u2.kids.map aV)),vn p,zO])):kP 149 [eU u,aK p,.func (.func g) [] bs] (eU u2):=by
  obtain⟨a,i,n,k,l,h,w,ks⟩:=u
  simp only[TUnit.kids]at h0
  subst h0
  let q:=ay [iV u2.act,iV u2.item,iV u2.n,iV u2.kind,aj u2.label,aW (u2.head.map aQ),aW (u2.words.map aQ),aW (u2.kids.map aV)];let q1:=[iV p.a,iV p.i,iV p.n];exact bM (ht:=oA) Tryz.func149<|Kv 5 (kB ((Tryz.prog).underlying 24) (TUnit.mk a i n k l h w []).act (TUnit.mk a i n k l h w []).item (TUnit.mk a i n k l h w []).n p.a p.i p.n<|av [aZ 8 false 0 [ay [iV (TUnit.mk a i n k l h w []).act,iV (TUnit.mk a i n k l h w []).item,iV (TUnit.mk a i n k l h w []).n,iV (TUnit.mk a i n k l h w []).kind,aj l,aW<|List.map aQ (TUnit.mk a i n k l h w []).head,aW<|List.map aQ (TUnit.mk a i n k l h w []).words,aW []]],aZ 3 false 0 [ay q1],aZ 8 false 0 [ay [iV 0,iV 0,iV 0,iV 0,aj [],ab,ab,ab]]])<|Mt hp<|Mg 1<|Mz 17 (fun(_:([]:List AV)=[])=>Mp Hy<|Ke 2 hdN<|Kf 1<|bp q)<|Mp Hv<|Ke 2 hdP<|Kf 1<|bp q
theorem kZ{a b:List AV}(h1:aq a=0)(h2:aq b=0):aq (a++b)=0:=kX.2 fun x hx=>by
  rcases je.1 hx with h|h
  · exact kX.1 h1 x h
  · exact kX.1 h2 x h
theorem Q5(l:List TUnit):dD 8 (l.map aV)=true:=gF (fun u=>by cases u;rfl) l
theorem Uw(x:TUnit):dD 8 [eU x]=true:=by kernel_rfl
theorem NF(x:TUnit):(eU x).top=0:=by rw[←aO];exact iY x
theorem tv{i:Nat}{x:TUnit}{l:List AV}(h:aq l=0):aq (gE i (eU x) l)=0:=kX.2 fun y hy=>by
  unfold gE at hy
  rcases je.1 hy with h1|h1
  · exact kX.1 h y (tj h1)
  · rcases fE.1 h1 with rfl|h1
    · exact NF x
    · exact kX.1 h y (Ov h1)
theorem LK(i:Nat)(x:TUnit)(l:List TUnit):(wS i x l).map aV=gE i (eU x) (l.map aV):=by
  unfold wS gE
  rw[pt,eB,List.map_take,List.map_drop,aO]
theorem Li(i:Nat)(l:List TUnit):(l.eraseIdx i).map aV=(l.map aV).eraseIdx i:=by
  grind[List.eraseIdx_eq_take_drop_succ,List.map_take,List.map_drop]
theorem Cu{i:Nat}{x:TUnit}{l:List TUnit}(h:i≤l.length):(wS i x l).length=l.length+1:=by
  grind[wS]
theorem GJ(l:List TUnit)(k:Nat):(l++List.replicate k bd).map aV=l.map aV++List.replicate k (aV bd):=by simp_all
theorem mU(k:Nat):aq (List.replicate k (aV bd))=0:=by rw[←List.map_replicate];exact aX iY _
/-- A kid is taken out. -/
theorem Om(p:PId)(i:Nat)(u:TUnit)(hn:nU u≤2^19)(ht:∀x,x∈bu u→x.head.length<2^30∧x.words.length<2^30)(hv:∀v,v∈bu u→fL p v=true→i<v.kids.length):
    aR Tryz.prog G 149 [eU u,aK p,.func (.func 209) [] [.pptr [.int .i64 (.ofNat i)] 0 0]] (eU (dK p (gG i) u)):=by
  refine oL _ _ p (gG i) rfl u hn ht fun v hm hid=>?_
  have hi:=hv v hm hid
  have hkl:=bf v
  have hvu:=dP hm
  have hl:v.kids.length≤2^20:=by omega
  refine UZ _ _ p v (gG i v) (v.kids.length-1) (fun k=>zU::List.replicate k (aV bd)) (iq rfl v) hid hl (fun e=>by grind) (by show(v.kids.eraseIdx i).length=_;grind) fun k=>?_
  have h:=Rf (v.kids.map aV) (List.replicate k (aV bd)) v.kids.length i hi (cQ _) hl (Q5 _) (kZ (aX iY _) (mU k))
  rw[qX]at h
  have hT:aq ((v.kids.map aV).eraseIdx i++(zU::List.replicate k (aV bd)))=0:=kZ (by rw[←Li];exact aX iY _) (by show Nat.mx zU.top (aq _)=0;rw[mU];rfl)
  rw[GJ]
  show aH _ _ _ _ _ fun v1 h1=>v1=.tuple []∧h1=av [dG v (.slice 3 0 0 (v.kids.length-1) (some (v.kids.length+k))),vn p,zO,dH ((v.kids.eraseIdx i).map aV++_)]
  rw[Li]
  refine Ai rfl (kZ (aX iY _) (mU k)) hT (Xs v v.kids.length _ i _ _ (kZ (aX iY _) (mU k)) hT hi hl ?_)
  exact fx ie 1 (kZ (aX iY _) (mU k)) hT h rfl rfl (by simp_all) (by kernel_rfl) (by kernel_rfl) (by kernel_rfl) (by kernel_rfl)
theorem WQ(x:TUnit)(t:Bool)(off len c:Nat)(X:List AV):kD 207 [.ps [eU x] t,.slice 0 0 off len (some c)] (av [dH X]) (.bool false) (av [dH X]):=
  Bh (tS:=34) (tR:=4) (e:=36) (n:=8) Tryz.func207 (by kernel_rfl) (by kernel_rfl) (by kernel_rfl) (by kernel_rfl) (by simp_all) (by kernel_rfl) (mJ _ _) (by kernel_rfl:(av [dH X]).get 0=some (.row 8 false 0 X))
/-- A kid laid into a row that has room. -/
theorem Gx(L:List AV)(x:TUnit)(z:AV)(Z:List AV)(n k i:Nat)(hi:i≤n)(hn:L.length=n)(hs:n<2^20)(hk:Z.length=k)(hf:dD 8 L=true)(hT:aq (L++z::Z)=0):kD 151 [.slice 0 0 0 n (some (n+(k+1))),nV i,.ps [eU x] true] (av [dH (L++z::Z)]) (.slice 0 0 0 (n+1) (some (n+(k+1)))) (av [dH (gE i (eU x) L++Z)]):=by
  rcases fy i n with h|h
  · grind[Qf,Uw,WQ]
  · obtain rfl:i=n:=by omega
    exact Qh L Z (eU x) z true i k hn hs hk (Uw x)
theorem Gw(L:List AV)(x:TUnit)(n i:Nat)(hi:i≤n)(hn:L.length=n)(hs:n<2^20)(hf:dD 8 L=true)(hT:aq L=0):kD 151 [.slice 0 0 0 n (some n),nV i,.ps [eU x] true] (av [dH L]) (.ls (gE i (eU x) L)) (av [dH L]):=by
  rcases fy i n with h|h
  · refine Qe L (eU x) true n i h hn hs (Uw x) hf hT (kX.2 fun y hy=>?_) (tv hT)
    rcases je.1 hy with h1|h1
    · exact kX.1 hT y (tj h1)
    · rcases fE.1 h1 with rfl|h1
      · exact NF x
      · rw[(List.mem_replicate.1 h1).2];rfl
  · grind[Qg,Uw,tv]
/-- A kid is laid in. -/
theorem Oi(p:PId)(i:Nat)(x u:TUnit)(hn:nU u≤2^19)(ht:∀x,x∈bu u→x.head.length<2^30∧x.words.length<2^30)(hv:∀v,v∈bu u→fL p v=true→i≤v.kids.length):
    aR Tryz.prog G 149 [eU u,aK p,.func (.func 150) [] [.pptr [.int .i64 (.ofNat i)] 0 0,.pptr [eU x] 0 0]] (eU (dK p (dC i x) u)):=by
  have hb:aq [.pptr [.int .i64 (.ofNat i)] 0 0,.pptr [eU x] 0 0]=0:=by kernel_rfl
  refine oL _ _ p (dC i x) hb u hn ht fun v hm hid=>?_
  have hi:=hv v hm hid
  have hkl:=bf v
  have hvu:=dP hm
  have hl:v.kids.length<2^20:=by omega
  have hK:=aX iY v.kids
  by_cases h0:v.kids=[]
  · rw[h0]at hi
    obtain rfl:i=0:=by simp_all
    have e:(dC 0 x v).kids =[x]:=by show wS 0 x v.kids=[x];rw[h0];rfl
    have e2:(dC 0 x v).kids.map aV=[eU x]:=by rw[e,eB,aO];rfl
    refine Lq _ _ p v (dC 0 x v) (iq hb v) hid h0 ?_ ?_
    · rw[e2];exact j6 (u2:=dC 0 x v) hb (by kernel_rfl) (by kernel_rfl) (Wn v x [eU x] (Gk x true))
    · rw[e2];exact j6 (u2:=dC 0 x v) hb (by kernel_rfl) (by kernel_rfl) (Wm v x [eU x] (Gj x true))
  · have e2:(dC i x v).kids.map aV=gE i (eU x) (v.kids.map aV):=LK i x v.kids
    refine LU _ _ p v (dC i x v) (v.kids.length+1) (fun k=>List.replicate (k-1) (aV bd)) (iq hb v) hid (by omega) h0 (Cu hi) (fun k hk=>?_) fun k hk=>?_
    · obtain rfl:k=0:=pu hk
      rw[e2,GJ,List.replicate_zero,ec]
      refine CT (u2:=dC i x v) hb hK (Wo v x v.kids.length _ i _ _ hK ?_)
      exact fx ie 1 hK hK (Gw (v.kids.map aV) x v.kids.length i hi (cQ _) hl (Q5 _) hK) rfl rfl (by simp_all) (by kernel_rfl) (by kernel_rfl) (by kernel_rfl) (by kernel_rfl)
    · obtain⟨j,rfl⟩:∃j,k=j+1:=⟨k-1,by grind[Nat.ne_of_beq_eq_false]⟩
      rw[e2,GJ,show j+1-1=j from rfl,List.replicate_succ]
      have hT:aq (v.kids.map aV++aV bd::List.replicate j (aV bd))=0:=by rw[←List.replicate_succ];grind[kZ,mU]
      have hT2:aq (gE i (eU x) (v.kids.map aV)++List.replicate j (aV bd))=0:=kZ (tv hK) (mU _)
      refine Ai (u2:=dC i x v) hb hT hT2 (Wp v x v.kids.length _ i _ _ hT hT2 ?_)
      exact fx ie 1 hT hT2 (Gx (v.kids.map aV) x (aV bd) (List.replicate j (aV bd)) v.kids.length j i hi (cQ _) hl (qX ..) (Q5 _) hT) rfl rfl (by simp_all) (by kernel_rfl) (by kernel_rfl) (by kernel_rfl) (by kernel_rfl)
/-- A kid is laid in. -/
theorem Og(p:PId)(i:Nat)(x u:TUnit)(hn:nU u≤2^19)(ht:∀x,x∈bu u→x.head.length<2^30∧x.words.length<2^30)(hv:∀v,v∈bu u→fL p v=true→i≤v.kids.length):
    aR Tryz.prog G 149 [eU u,aK p,.func (.func 160) [] [.pptr [.int .i64 (.ofNat i)] 0 0,.pptr [eU x] 0 0]] (eU (dK p (dC i x) u)):=by
  have hb:aq [.pptr [.int .i64 (.ofNat i)] 0 0,.pptr [eU x] 0 0]=0:=by kernel_rfl
  refine oL _ _ p (dC i x) hb u hn ht fun v hm hid=>?_
  have hi:=hv v hm hid
  have hkl:=bf v
  have hvu:=dP hm
  have hl:v.kids.length<2^20:=by omega
  have hK:=aX iY v.kids
  by_cases h0:v.kids=[]
  · rw[h0]at hi
    obtain rfl:i=0:=by simp_all
    have e:(dC 0 x v).kids =[x]:=by show wS 0 x v.kids=[x];rw[h0];rfl
    have e2:(dC 0 x v).kids.map aV=[eU x]:=by rw[e,eB,aO];rfl
    refine Lq _ _ p v (dC 0 x v) (iq hb v) hid h0 ?_ ?_
    · rw[e2];exact j6 (u2:=dC 0 x v) hb (by kernel_rfl) (by kernel_rfl) (Wj v x [eU x] (Gk x true))
    · rw[e2];exact j6 (u2:=dC 0 x v) hb (by kernel_rfl) (by kernel_rfl) (Wx v x [eU x] (Gj x true))
  · have e2:(dC i x v).kids.map aV=gE i (eU x) (v.kids.map aV):=LK i x v.kids
    refine LU _ _ p v (dC i x v) (v.kids.length+1) (fun k=>List.replicate (k-1) (aV bd)) (iq hb v) hid (by omega) h0 (Cu hi) (fun k hk=>?_) fun k hk=>?_
    · obtain rfl:k=0:=pu hk
      rw[e2,GJ,List.replicate_zero,ec]
      refine CT (u2:=dC i x v) hb hK (Wk v x v.kids.length _ i _ _ hK ?_)
      exact fx ie 1 hK hK (Gw (v.kids.map aV) x v.kids.length i hi (cQ _) hl (Q5 _) hK) rfl rfl (by simp_all) (by kernel_rfl) (by kernel_rfl) (by kernel_rfl) (by kernel_rfl)
    · obtain⟨j,rfl⟩:∃j,k=j+1:=⟨k-1,by grind[Nat.ne_of_beq_eq_false]⟩
      rw[e2,GJ,show j+1-1=j from rfl,List.replicate_succ]
      have hT:aq (v.kids.map aV++aV bd::List.replicate j (aV bd))=0:=by rw[←List.replicate_succ];grind[kZ,mU]
      have hT2:aq (gE i (eU x) (v.kids.map aV)++List.replicate j (aV bd))=0:=kZ (tv hK) (mU _)
      refine Ai (u2:=dC i x v) hb hT hT2 (Ww v x v.kids.length _ i _ _ hT hT2 ?_)
      exact fx ie 1 hT hT2 (Gx (v.kids.map aV) x (aV bd) (List.replicate j (aV bd)) v.kids.length j i hi (cQ _) hl (qX ..) (Q5 _) hT) rfl rfl (by simp_all) (by kernel_rfl) (by kernel_rfl) (by kernel_rfl) (by kernel_rfl)
theorem Od(p:PId)(l:List PWord)(u:TUnit)(hn:nU u≤2^19)(ht:∀x,x∈bu u→x.head.length<2^30∧x.words.length<2^30):
    kP 149 [eU u,aK p,.func (.func 154) [] [.pptr [.ls (l.map aQ)] 0 0]] (eU (dK p (mV l) u)):=by
  have hb:aq [.pptr [.ls (l.map aQ)] 0 0]=0:=by kernel_rfl
  refine oL _ _ p (mV l) hb u hn ht fun v hm hid=>?_
  have hkl:=bf v
  have hvu:=dP hm
  exact yV _ _ p v ((mV l) v) (iq hb v) hid (by omega) (j6 hb (by kernel_rfl) (by kernel_rfl) (Xp v l))
theorem Of(p:PId)(l:List PWord)(u:TUnit)(hn:nU u≤2^19)(ht:∀x,x∈bu u→x.head.length<2^30∧x.words.length<2^30):
    kP 149 [eU u,aK p,.func (.func 156) [] [.pptr [.ls (l.map aQ)] 0 0]] (eU (dK p (mV l) u)):=by
  have hb:aq [.pptr [.ls (l.map aQ)] 0 0]=0:=by kernel_rfl
  refine oL _ _ p (mV l) hb u hn ht fun v hm hid=>?_
  have hkl:=bf v
  have hvu:=dP hm
  exact yV _ _ p v ((mV l) v) (iq hb v) hid (by omega) (j6 hb (by kernel_rfl) (by kernel_rfl) (X0 v l))
theorem Ol(p:PId)(l:List PWord)(u:TUnit)(hn:nU u≤2^19)(ht:∀x,x∈bu u→x.head.length<2^30∧x.words.length<2^30):
    kP 149 [eU u,aK p,.func (.func 158) [] [.pptr [.ls (l.map aQ)] 0 0]] (eU (dK p (z8 l) u)):=by
  have hb:aq [.pptr [.ls (l.map aQ)] 0 0]=0:=by kernel_rfl
  refine oL _ _ p (z8 l) hb u hn ht fun v hm hid=>?_
  have hkl:=bf v
  have hvu:=dP hm
  exact yV _ _ p v ((z8 l) v) (iq hb v) hid (by omega) (j6 hb (by kernel_rfl) (by kernel_rfl) (Yy v l))
theorem Oe(p:PId)(d:PDeed)(u:TUnit)(hn:nU u≤2^19)(ht:∀x,x∈bu u→x.head.length<2^30∧x.words.length<2^30):
    kP 149 [eU u,aK p,.func (.func 159) [] [.pptr [aU d] 0 0]] (eU (dK p (pz d.it.label) u)):=by
  have hb:aq [.pptr [aU d] 0 0]=0:=by kernel_rfl
  refine oL _ _ p (pz d.it.label) hb u hn ht fun v hm hid=>?_
  have hkl:=bf v
  have hvu:=dP hm
  exact yV _ _ p v ((pz d.it.label) v) (iq hb v) hid (by omega) (j6 hb (by kernel_rfl) (by kernel_rfl) (XS v d))
end Go.Proofs.YtjokefckffbpeaaGreatDoor
