/- Functions walked: what each of them answers, for the law of prefixes: part 2. Conditions: those that each theorem names. -/
import Derived.Test.YtempcdhknnjebaaGreatDoorH1
namespace Go.Proofs.YtempcdhknnjebaaGreatDoor
open Go Go.Ev
theorem kg (u:TUnit) (s:PStep):kP 260 [eU u,ax s] (.bool (bg s u)):=by
  have rr0 b' (h:(bg s u)=b':=by (simp only [bg,bZ,aS,aj,bS, *];first | done | rfl)):=h;exact bp Tryz.func260<|Kb 8 (ae u.kind s.kind) (fun a=>Kt 0 a<|Kt 0 a<|Kt 0 a<|Kt 0 a<|Ku 0 a<|Kf 0<|cq<|rr0<|dH u.label s.label) fun a=>Mh a<|Mh a<|Mh a<|Mh a<|My a<|Ky 0<|rr0 false
noncomputable abbrev jJ (p:List PStep):AObj:= .row 1 false 0 [.ls (p.map ax)]
noncomputable abbrev Da (ep n:Nat):AObj:= .row 1 false 0 [.slice 2 ep 0 n none]
noncomputable abbrev Ay (ep:Nat) (l:List TUnit):AObj:= .row 8 true ep (l.map aK)
noncomputable abbrev Lq:AObj:= .row 1 false 0 [.nils]
theorem BC (s:PStep) (rs:List PStep) (u:TUnit) (h:By (bg s u) false):kD 259 [eU u, .ptr 0 0 0 0, .ptr 1 0 0 0] (aa [jJ (s::rs),Lq]) (.tuple []) (aa [jJ (s::rs),Lq]):=by
  have h':bg s u=false:=h
  exact fH Tryz.func259 fun a=>Kp 4 (kg u s)<|Mh h'<|M1 (.frz 2 []) (cW rt rt ti)<|Mf a
theorem HR (s:PStep) (rs:List PStep) (u:TUnit) (h:By (bg s u) true):kD 259 [eU u, .ptr 0 0 0 0, .ptr 1 0 0 0] (aa [jJ (s::rs),Lq]) (.tuple []) (aa [jJ (s::rs),Da 0 1,Ay 0 [u]]):=by
  have h':bg s u=true:=h
  exact QM Tryz.func259<|Kp 4 (kg u s)<|Mt h'<|Mg 7<|M0 (.ren [0,1,3,2] [] [])<|M1 (.frz 3 []) (j5 rt rt rt ti)<|Mf<|et (aU<|cV []) (by (simp only [Ay,ej,xb,aG];rfl):(aa [AObj.row 1 false 0 [AV.ls ((s::rs).map ax)],AObj.row 1 false 0 [AV.slice 2 0 0 1 none],AObj.row 8 true 0 [AV.agg [iV u.act,iV u.item,iV u.n,iV u.kind,AV.str u.label,AV.ls (u.head.map aQ),AV.ls (u.words.map aQ),AV.ls (u.kids.map aK)]]])=(aa [jJ (s::rs),Da 0 1,Ay 0 [u]]))
theorem Ln (s:PStep) (rs:List PStep) (u:TUnit) (ep n:Nat) (l:List TUnit) (h:By (bg s u) false):kD 259 [eU u, .ptr 0 0 0 0, .ptr 1 0 0 0] (aa [jJ (s::rs),Da ep n,Ay ep l]) (.tuple []) (aa [jJ (s::rs),Da ep n,Ay ep l]):=by
  have h':bg s u=false:=h
  exact fH Tryz.func259 fun a=>Kp 4 (kg u s)<|Mh h'<|M1 (.frz 3 []) (j5 (tR 8 true ep 3<|aX gC l) rt rt ti)<|Mf a
theorem Lo (s:PStep) (rs:List PStep) (u:TUnit) (ep n:Nat) (l:List TUnit) (h:By (bg s u) true) (hn:n=l.length) (hl:l.length<2 ^ 30):kD 259 [eU u, .ptr 0 0 0 0, .ptr 1 0 0 0] (aa [jJ (s::rs),Da ep n,Ay ep l]) (.tuple []) (aa [jJ (s::rs),Da (ep+1) (n+1),Ay (ep+1) (l++ [u])]):=by
  have h':bg s u=true:=h
  let q:= [iV 0,iV 0,iV 0,iV 0,ak [],ab,ab,ab];let q1:=List.map aK l++ [av q];exact fH Tryz.func259 fun a=>Kp 4 (kg u s)<|Mt h'<|Mg 3<|Mw (.apx q1<|.rix<|.rst (av q) ((l++ [u]).map aK)<|.go 0<|.frz 3 [] .fin)<|U7 rt (gT (tR 8 true ep 4<|aX gC l) rt) (et (o3 _ _:([av q]:List AV)≠ []) rt) (et (cW (aU ep) (sA:n=(l.map aK).length) (by (refine ap (m:=2 ^ 31) ?_ ?_ ?_ <;> (try simp only [lC,lN]) <;> omega):small (n+([AV.agg [iV 0,iV 0,iV 0,iV 0,AV.str [],AV.nils,AV.nils,AV.nils]]).length) 120=true))<|aU q1) (et (aU<|ep+1) (oA:n<n+1)) rt (gT (tR 8 true (ep+1) 4 (by exact T2 _ rfl:aY q1=0)) rt) (cW (aU<|ep+1) (Ow (f:=aK) (l:=l) (z:=av q) (oA:n=(l).length))<|Ns (f:=aK) (g:=Go.Ev.eU) aG (l:=l) (z:=av q) (w:=u) (oA:n=(l).length)) (j5 (tR 8 true (ep+1) 3<|aX gC<|l++ [u]) rt rt ti) a
theorem GK (s:PStep) (rs:List PStep) : ∀ (u:TUnit),∀ (ep n:Nat) (l:List TUnit),n=l.length→l.length+nU u<2 ^ 30→kC 258 [eU u, .func (.func 259) [] [.ptr 0 0 0 0, .ptr 1 0 0 0]] (aa [jJ (s::rs),Da ep n,Ay ep l])
    (fun v h=>∃ y:Nat × Nat × List TUnit,(y.2.1=y.2.2.length∧y.2.2=l++ku s u)∧v = .tuple []∧h=aa [jJ (s::rs),Da y.1 y.2.1,Ay y.1 y.2.2]):=by
  refine TUnit.ind fun u ih ep n l hn hl=>?_
  have hq:=iI u
  have hkl:=bj u
  have hp:=yx s u
  rcases Bool.eq_false_or_eq_true (bg s u) with hc | hc
  · rw [hc] at hp
    exact ph Tryz.func258 fun a=>K1 2 (.frz 3 [1,2,6,7]) (j5 (tR 8 true ep 3<|aX gC l) rt rt ti)<|Me (Lo s rs u ep n l hc hn oA)<|Kl 2 11 (ln aK u.kids)<|Mg 0<|Tc aK u.kids (ep+1) (n+1) (l++ [u]) [1,10,11,12] (fun a _ b c d=>([bW (bX 259) [] [bJ 0 0 0 0,bJ 1 0 0 0],aW<|u.kids.map aK,nV u.kids.length,nV a],[aZ 1 false 0 [aW<|(s::rs).map ax],aZ 1 false 0 [aI 2 b 0 c none],aZ 8 true b<|d.map aK])) (fun a _ b c=>b=c.length∧c++c9 s a=l++ [u]++c9 s u.kids∧c.length+dM a<2 ^ 30) gR (fun _ _ b c d _ _ _ e _=>Kh 0 e<|Mf<|a (b,c,d)<|by grind [mw]) fun a _ b c d e f g i j k m _ o _=>have o:=(o).trans<|congrArg some<|aG g;have :=cG (J:=fun a b=>b.2.1=b.2.2.length∧b.2.2++c9 s a=l++ [u]++c9 s u.kids∧b.2.2.length+dM a<2 ^ 30) (a:=(b,c,d)) k f;have e:=aN e k;have f:d.length+nU g<2 ^ 30:=(by grind [ba]);Kt 0 m<|Mx o<|K1 4 (.frz 3 [1,10,11,12,16,17]) (j5 (tR 8 true b 3<|aX gC d) rt rt ti)<|Mq (ih g e b c d oA f) fun b _=>Kl 0 19 (dt a)<|Kf 0<|j b.1 b.2.1 b.2.2<|by grind [ba, gx, lP]
  · rw [hc] at hp
    exact ph Tryz.func258 fun a=>K1 2 (.frz 3 [1,2,6,7]) (j5 (tR 8 true ep 3<|aX gC l) rt rt ti)<|Me (Ln s rs u ep n l hc)<|Kl 2 11 (ln aK u.kids)<|Mg 0<|Tc aK u.kids ep n l [1,10,11,12] (fun a _ b c d=>([bW (bX 259) [] [bJ 0 0 0 0,bJ 1 0 0 0],aW<|u.kids.map aK,nV u.kids.length,nV a],[aZ 1 false 0 [aW<|(s::rs).map ax],aZ 1 false 0 [aI 2 b 0 c none],aZ 8 true b<|d.map aK])) (fun a _ b c=>b=c.length∧c++c9 s a=l++c9 s u.kids∧c.length+dM a<2 ^ 30) gR (fun _ _ b c d _ _ _ e _=>Kh 0 e<|Mf<|a (b,c,d)<|by grind [mw]) fun a _ b c d e f g i j k m _ o _=>have o:=(o).trans<|congrArg some<|aG g;have :=cG (J:=fun a b=>b.2.1=b.2.2.length∧b.2.2++c9 s a=l++c9 s u.kids∧b.2.2.length+dM a<2 ^ 30) (a:=(b,c,d)) k f;have e:=aN e k;have f:d.length+nU g<2 ^ 30:=(by grind [ba]);Kt 0 m<|Mx o<|K1 4 (.frz 3 [1,10,11,12,16,17]) (j5 (tR 8 true b 3<|aX gC d) rt rt ti)<|Mq (ih g e b c d oA f) fun b _=>Kl 0 19 (dt a)<|Kf 0<|j b.1 b.2.1 b.2.2<|by grind [ba, gx, lP]
theorem GV (s:PStep) (rs:List PStep) : ∀ (u:TUnit),nU u≤2 ^ 20→By (ku s u).isEmpty true→kD 258 [eU u, .func (.func 259) [] [.ptr 0 0 0 0, .ptr 1 0 0 0]] (aa [jJ (s::rs),Lq]) (.tuple []) (aa [jJ (s::rs),Lq]):=by
  refine TUnit.ind fun u ih hn he=>?_
  have hkl:=bj u
  have hp:=yx s u
  have he':=List.isEmpty_iff.1 (show (ku s u).isEmpty=true from he)
  rw [he'] at hp
  rcases Bool.eq_false_or_eq_true (bg s u) with hc | hc
  · grind
  · rw [hc] at hp
    have hp:c9 s u.kids = []:=hp.symm
    exact fH Tryz.func258 fun a=>K1 2 (.frz 2 [1,2,6,7]) (cW rt rt ti)<|Me (BC s rs u hc)<|Kl 2 11 (ln aK u.kids)<|Mg 0<|uW aK u.kids [1,10,11,12] (fun a _=>([bW (bX 259) [] [bJ 0 0 0 0,bJ 1 0 0 0],aW<|u.kids.map aK,nV u.kids.length,nV a],[aZ 1 false 0 [aW<|(s::rs).map ax],aZ 1 false 0 [ab]])) (fun a=>c9 s a= []) oA (fun _ _ _ _ _ b _=>Kh 0 b<|Mf a) fun a _ b _ c d e f g _ h i=>have h:=h.trans<|congrArg some<|aG c;have j:=aN b f;have b:=bG (sj<|gN<|aN b f) hn;have f:(ku s c).isEmpty=true:=(by rw [gx] at i;rw [(List.append_eq_nil_iff.1 i).1];rfl);Kt 0 g<|Mx h<|K1 4 (.frz 2 [1,10,11,12,16,17]) (cW rt rt ti)<|Me (ih c j b f)<|Kl 0 19 (dt a)<|Kf 0<|e<|by grind [gx]
theorem PH (s:PStep) (rs:List PStep) : ∀ (u:TUnit),nU u≤2 ^ 20→By (ku s u).isEmpty false→kC 258 [eU u, .func (.func 259) [] [.ptr 0 0 0 0, .ptr 1 0 0 0]] (aa [jJ (s::rs),Lq])
    (fun v h=>∃ y:Nat × Nat × List TUnit,(y.2.1=y.2.2.length∧y.2.2=ku s u)∧v = .tuple []∧h=aa [jJ (s::rs),Da y.1 y.2.1,Ay y.1 y.2.2]):=by
  refine TUnit.ind fun u ih hn he=>?_
  have hq:=iI u
  have hkl:=bj u
  have hp:=yx s u
  rcases Bool.eq_false_or_eq_true (bg s u) with hc | hc
  · rw [hc] at hp
    exact ph Tryz.func258 fun a=>K1 2 (.frz 2 [1,2,6,7]) (cW rt rt ti)<|Me (HR s rs u hc)<|Kl 2 11 (ln aK u.kids)<|Mg 0<|Tc aK u.kids (0:Nat) (1:Nat) ([u]:List TUnit) [1,10,11,12] (fun a _ b c d=>([bW (bX 259) [] [bJ 0 0 0 0,bJ 1 0 0 0],aW<|u.kids.map aK,nV u.kids.length,nV a],[aZ 1 false 0 [aW<|(s::rs).map ax],aZ 1 false 0 [aI 2 b 0 c none],aZ 8 true b<|d.map aK])) (fun a _ b c=>b=c.length∧c++c9 s a= [u]++c9 s u.kids∧c.length+dM a<2 ^ 30) gR (fun _ _ b c d _ _ _ e _=>Kh 0 e<|Mf<|a (b,c,d)<|by grind [mw]) fun a _ b c d e f g i j k l _ m _=>have m:=(m).trans<|congrArg some<|aG g;have :=cG (J:=fun a b=>b.2.1=b.2.2.length∧b.2.2++c9 s a= [u]++c9 s u.kids∧b.2.2.length+dM a<2 ^ 30) (a:=(b,c,d)) k f;have :=aN e k;have e:d.length+nU g<2 ^ 30:=(by grind [ba]);Kt 0 l<|Mx m<|K1 4 (.frz 3 [1,10,11,12,16,17]) (j5 (tR 8 true b 3<|aX gC d) rt rt ti)<|Mq (GK s rs g b c d oA e) fun b _=>Kl 0 19 (dt a)<|Kf 0<|j b.1 b.2.1 b.2.2<|by grind [ba, gx, lP]
  · rw [hc] at hp
    have hne:c9 s u.kids≠ []:=fun e=>by
      simp_all
    exact ph Tryz.func258 fun a=>K1 2 (.frz 2 [1,2,6,7]) (cW rt rt ti)<|Me (BC s rs u hc)<|Kl 2 11 (ln aK u.kids)<|Mg 0<|lV Nat Nat (List TUnit) aK u.kids [1,10,11,12] (fun a _=>([bW (bX 259) [] [bJ 0 0 0 0,bJ 1 0 0 0],aW<|u.kids.map aK,nV u.kids.length,nV a],[aZ 1 false 0 [aW<|(s::rs).map ax],aZ 1 false 0 [ab]])) (fun a _ b c d=>([bW (bX 259) [] [bJ 0 0 0 0,bJ 1 0 0 0],aW<|u.kids.map aK,nV u.kids.length,nV a],[aZ 1 false 0 [aW<|(s::rs).map ax],aZ 1 false 0 [aI 2 b 0 c none],aZ 8 true b<|d.map aK])) (fun a=>a≠[]∧c9 s a=c9 s u.kids) (fun a _ b c=>b=c.length∧c++c9 s a=c9 s u.kids∧c.length+dM a<2 ^ 30) (by (exact ⟨JJ rfl hne,rfl⟩)) (fun _ _ _ _ _ _ _=>Mw .abs (sA:False)) (fun a _ b c d f g i j k _ l _=>have l:=(l).trans<|congrArg some<|aG d;have :=cG (J:=fun a _=>a≠[]∧c9 s a=c9 s u.kids) (a:=()) j c;have c:=aN b j;have m:=bG (sj<|gN<|aN b j) hn;have :nU d+dM f≤2 ^ 20:=(by have z:=oY b j;omega);Kt 0 k<|Mx l<|K1 4 (.frz 2 [1,10,11,12,16,17]) (cW rt rt ti)<|Ms (ku s d).isEmpty (fun b=>Me (GV s rs d m b)<|Kl 0 19 (dt a)<|Kf 0<|g<|by (have e:c9 s f=c9 s u.kids:=(by grind [gx]);exact ⟨JJ e hne,e⟩)) fun b=>Mq (ih d c m b) fun b _=>Kl 0 19 (dt a)<|Kf 0<|i b.1 b.2.1 b.2.2<|by grind [gx, lP]) (fun _ _ b c d _ _ _ f g=>Kh 0 f<|Mf<|a (b,c,d)<|by (refine ⟨g.1,?_⟩;have:=g.2.1;rw [mw,ez] at this;simp_all)) fun a _ b c d f g i j _ k l m _ n _=>have n:=(n).trans<|congrArg some<|aG i;have :=cG (J:=fun a b=>b.2.1=b.2.2.length∧b.2.2++c9 s a=c9 s u.kids∧b.2.2.length+dM a<2 ^ 30) (a:=(b,c,d)) l g;have :=aN f l;have :=bG (sj<|gN<|aN f l) hn;have :nU i+dM j≤2 ^ 20:=(by have z:=oY f l;omega);Kt 0 m<|Mx n<|K1 4 (.frz 3 [1,10,11,12,16,17]) (j5 (tR 8 true b 3<|aX gC d) rt rt ti)<|Mq (GK s rs i b c d oA<|by grind [ba]) fun b _=>Kl 0 19 (dt a)<|Kf 0<|k b.1 b.2.1 b.2.2<|by grind [gx, lP]
theorem Ss (u:TUnit) (hb:kJ []=true):kP 182 [eU u, .ls (([]:List PStep).map ax)] (.ls ((dG u []).map aK)):=by
  have hv:=uZ [] (by simp) (fun s h=>by grind)
  rw [Ft hb]
  have rr0 b' (h:(List.map aK [u])=b':=by (rw [ej,aG];rfl)):=h;let q:= [av [iV u.act,iV u.item,iV u.n,iV u.kind,ak u.label,aW (u.head.map aQ),aW (u.words.map aQ),aW (u.kids.map aK)]];exact bp Tryz.func182<|Kp 3 hv<|Kf 10 (Le.lsp (rr0 q)<|by rfl:Le _ (AV.ps q true))
def FB (u:TUnit) (s:PStep) (rs:List PStep) (z1000:List TUnit):Prop:=dG u (s::rs)=gX rs z1000∧dM z1000≤2 ^ 22
noncomputable def FA (u:TUnit) (s:PStep) (rs:List PStep) (z1000:List TUnit):List AV × List AObj:=([AV.ptr 0 0 0 0,AV.ptr 1 0 0 0], [AObj.row 1 false 0 [AV.ls ((s::rs).map ax)],AObj.row 1 false 0 [AV.ls (z1000.map aK)]])
theorem Pv (u:TUnit) (s:PStep) (rs:List PStep) (hn:nU u≤2 ^ 11) (hl:(s::rs).length<2 ^ 40) (hs : ∀ x,x∈s::rs→x.label.length≤2 ^ 39):kP 182 [eU u, .ls ((s::rs).map ax)] (.ls ((dG u (s::rs)).map aK)):=by
  have hv:=uZ (s::rs) hl hs
  have hk:=GD s
  have hpb:=ER s u fun x hx=>dA hx
  have hpm:nU u * nU u≤2 ^ 11 * 2 ^ 11:=Nat.mul_le_mul hn hn
  have hd:((s::rs).drop 1).length=rs.length:=rfl
  have rr0 b' (h:((dG u (s::rs)).map aK)=b':=by first | rfl | (rw [HP ‹_›];rfl) | (rw [hj0.1,G9])):=h;exact bp Tryz.func182<|Kp 3 hv<|Kn 0 (kJ<|s::rs) (fun _=>Kf 0 (Le.lsn<|rr0 []:Le _ (ab))) fun _=>Mg 0<|Mj (List TUnit) [3,5] (FA u s rs) (FB u s rs) (fun a=>Kl 1 21 (ln ax<|s::rs)<|Kp 5 hk<|Kb 0 (ae s.kind 0 && dH s.label []) (fun _=>Kl 1 31 (Le.lsp (t:=true) (Eq.symm<|R7 (f:=aK) (g:=Go.Ev.eU) (ws:=[u]) aG) (aU 0:aY ([av [iV u.act,iV u.item,iV u.n,iV u.kind,ak u.label,aW (u.head.map aQ),aW (u.words.map aQ),aW (u.kids.map aK)]])=0))<|Mg 0<|M0 (.ren [1,2,0] [] [3,5])<|M1 (.frz 2 [3,5]) (cW rt rt ti)<|Mf<|a [u] (by exact ⟨Fu (by omega) (by assumption),by grind [ba, lr]⟩:dG u (s::rs)=gX rs [u]∧dM [u]≤2 ^ 22)) fun _=>Mg 1<|M0 (.ren [1,2,0] [] [3,5,16,17])<|M1 (.frz 2 [3,5,16,17]) (cW rt rt ti)<|Ms (ku s u).isEmpty (fun b=>Me (GV s rs u oA b)<|M1 (.obw 1<|aW []) (Uv bu rfl rfl)<|Mf<|a [] (by exact ⟨by rw [vR (by omega) (by assumption),List.isEmpty_iff.1 b],by grind⟩:dG u (s::rs)=gX rs []∧dM []≤2 ^ 22)) fun b=>Mq (PH s rs u oA b) fun b c=>M2 (.fzo 1 2 [3,5]<|b.2.2.map aK) (cW rt rt ti) (cW (aU b.1) (tA aK b.2.2 b.2.1 (oA:(b.2.2).length=b.2.1))<|aX gC b.2.2)<|Mf<|a b.2.2 (by exact ⟨by rw [vR (by omega) (by assumption),c.2],by grind⟩:dG u (s::rs)=gX rs b.2.2∧dM b.2.2≤2 ^ 22)) fun a b=>have :dG u (s::rs)=gX rs a∧dM a≤2 ^ 22:=b;K1 0 (.slp<|((s::rs).drop 1).map ax) (cW (hM 2 ax (s::rs) fun _=>rfl) (et (sA:1≤((s::rs).map ax).length) (oA:((s::rs).map ax).length≤((s::rs).map ax).length))<|VD (f:=ax) (l:=s::rs) (k:=1))<|Kl 0 34 (ln ax<|List.drop 1<|s::rs)<|Mg 0<|M0 (.ren [1,0] [] [5,33,34,35])<|M1 (.frz 1 [5,33,34,35]) (et rt ti)<|MF ax (List.drop 1<|s::rs) a [5,33,34,35] (fun a _ b=>([bJ 0 0 0 0,aW<|((s::rs).drop 1).map ax,nV ((s::rs).drop 1).length,nV a],[aZ 1 false 0 [aW<|b.map aK]])) (fun a b=>dG u (s::rs)=gX a b∧dM b≤2 ^ 22) sA (fun _ _ a _ _ _ b hj0=>Kh 0 b<|Kf 1<|cw<|rr0<|a.map aK) fun a _ b _ _ c d e _ f _ g hj0=>have :b.length≤dM b:=xZ _;Kt 0 f<|Mx g<|Kl 5 40 (ln aK b)<|Mg 0<|lV Nat Nat (List TUnit) aK b [5,7,8,33,34,35,39,40,41] (fun d _=>([bJ 0 0 0 0,bJ 1 0 0 0,ab,aW<|((s::rs).drop 1).map ax,nV ((s::rs).drop 1).length,nV a,aW<|b.map aK,nV b.length,nV d],[aZ 1 false 0 [aW<|b.map aK],aZ 2 false 0 [av [iV c.kind,ak c.label]]])) (fun d _ e f g=>([bJ 0 0 0 0,bJ 1 0 0 0,aI 2 e 0 f none,aW<|((s::rs).drop 1).map ax,nV ((s::rs).drop 1).length,nV a,aW<|b.map aK,nV b.length,nV d],[aZ 1 false 0 [aW<|b.map aK],aZ 2 false 0 [av [iV c.kind,ak c.label]],aZ 8 true e<|g.map aK])) (fun a=>cj c a=cj c b) (fun a _ d e=>d=e.length∧e++cj c a=cj c b∧e.length+dM a<2 ^ 30) (by rfl) (fun _ _ _ _ _ b c=>Kh 0 b<|Kl 0 61 bu<|Kl 1 62 (dt a)<|K1 0 (.frz 1 [5,33,34,35]) (et rt ti)<|Mf<|e []<|by exact fA hj0 c) (fun d _ e f g i j k l n _ o _=>have p:=(o).trans<|congrArg some<|aG g;have :=cG (J:=fun a _=>cj c a=cj c b) (a:=()) l f;have :nU g+dM i≤dM b:=oY e l;have :g.kids.length<nU g:=bj g;have :nU g=1+dM g.kids:=iI g;Kt 0 n<|Mx p<|Kl 5 47 (ln aK g.kids)<|K1 0 (.frz 2 [5,7,8,33,34,35,39,40,41,46,47,48]) (cW rt rt ti)<|lV Nat Nat (List TUnit) aK g.kids [5,7,8,33,34,35,39,40,41,46,47,48] (fun e _=>([bJ 0 0 0 0,bJ 1 0 0 0,ab,aW<|((s::rs).drop 1).map ax,nV ((s::rs).drop 1).length,nV a,aW<|b.map aK,nV b.length,nV d,aW<|g.kids.map aK,nV g.kids.length,nV e],[aZ 1 false 0 [aW<|b.map aK],aZ 2 false 0 [av [iV c.kind,ak c.label]]])) (fun e _ f i j=>([bJ 0 0 0 0,bJ 1 0 0 0,aI 2 f 0 i none,aW<|((s::rs).drop 1).map ax,nV ((s::rs).drop 1).length,nV a,aW<|b.map aK,nV b.length,nV d,aW<|g.kids.map aK,nV g.kids.length,nV e],[aZ 1 false 0 [aW<|b.map aK],aZ 2 false 0 [av [iV c.kind,ak c.label]],aZ 8 true f<|j.map aK])) (fun a=>List.filter (bg c) a++cj c i=cj c b) (fun a _ d e=>d=e.length∧e++(List.filter (bg c) a++cj c i)=cj c b∧e.length+(dM a+dM i)<2 ^ 30) (by simp_all [gA]) (fun _ _ _ _ _ a _=>Kh 0 a<|Kl 0 60 (dt d)<|Kf 0<|j sA) (fun a _ d e f j k l n p _ o _=>have o:=(o).trans<|congrArg some<|aG f;have :=cG (J:=fun a _=>List.filter (bg c) a++cj c i=cj c b) (a:=()) n e;have :nU f+dM j≤dM g.kids:=oY d n;Kt 0 p<|Mx o<|Kp 4 (kg f c)<|Mb (bg c f) (fun _=>K1 3 (.obj 3<|aZ 8 true 0<|List.map aK [f]) (congrArg (aZ 8 true 0)<|R7 (f:=aK) (g:=Go.Ev.eU) (ws:=[f]) aG)<|Kl 1 59 (dt a)<|K1 0 (.ren [0,1,3,2] [3] [5,7,8,33,34,35,39,40,41,46,47,48]) (tS 8 true 0<|aX gC [f])<|M1 (.frz 3 [5,7,8,33,34,35,39,40,41,46,47,48]) (j5 (tR 8 true 0 3<|aX gC [f]) rt rt ti)<|Mf<|l 0 1 [f] gR) fun _=>Kl 0 59 (dt a)<|K1 0 (.frz 2 [5,7,8,33,34,35,39,40,41,46,47,48]) (cW rt rt ti)<|Mf<|k sA) (fun _ _ a e f _ _ _ g _=>Kh 0 g<|Kl 0 60 (dt d)<|Kf 0<|k a e f gR) fun a _ d e f j k l n _ p q r _ o _=>have o:=(o).trans<|congrArg some<|aG l;have k:=cG (J:=fun a d=>d.2.1=d.2.2.length∧d.2.2++(List.filter (bg c) a++cj c i)=cj c b∧d.2.2.length+(dM a+dM i)<2 ^ 30) (a:=(d,e,f)) q k;have :nU l+dM n≤dM g.kids:=oY j q;Kt 0 r<|Mx o<|Kp 4 (kg l c)<|Mb (bg c l) (fun _=>K1 2 .app (cW (aU d) (sA:e=(f.map aK).length) (by (refine ap (m:=2 ^ 31) ?_ ?_ ?_ <;> omega):small (e+1) 120=true))<|M1 (.obj 2<|aZ 8 true (d+1)<|(f++ [l]).map aK) (congrArg (aZ 8 true<|d+1)<|xW (f:=aK) (g:=Go.Ev.eU) (l:=f) (ws:=[l]) aG)<|Kl 1 59 (dt a)<|K1 0 (.frz 3 [5,7,8,33,34,35,39,40,41,46,47,48]) (j5 (tR 8 true (d+1) 3<|aX gC<|f++ [l]) rt rt ti)<|Mf<|p (d+1) (e+1) (f++ [l])<|by exact XD k (by omega)) fun _=>Kl 0 59 (dt a)<|K1 0 (.frz 3 [5,7,8,33,34,35,39,40,41,46,47,48]) (j5 (tR 8 true d 3<|aX gC f) rt rt ti)<|Mf<|p d e f<|by exact XE k (by omega)) (fun _ _ b c f _ _ _ g i=>let j:=List.map aK f;Kh 0 g<|Mg 0<|M2 (.fsl 2 [5,33,34,35] 61 j) (cW rt rt ti) (cW (aU b) (tA aK f c (oA:(f).length=c))<|aX gC f)<|Ml 61 (eH j false<|aX gC f)<|Kl 1 62 (dt a)<|K1 0 (.frz 1 [5,33,34,35]) (et rt ti)<|Mf<|e f<|by exact fB hj0 i.2.1) fun d _ e f g i j k l _ n o p _ q _=>have r:=(q).trans<|congrArg some<|aG k;have j:=cG (J:=fun a d=>d.2.1=d.2.2.length∧d.2.2++cj c a=cj c b∧d.2.2.length+dM a<2 ^ 30) (a:=(e,f,g)) o j;have :nU k+dM l≤dM b:=oY i o;have :k.kids.length<nU k:=bj k;have :nU k=1+dM k.kids:=iI k;Kt 0 p<|Mx r<|Kl 5 47 (ln aK k.kids)<|K1 0 (.frz 3 [5,7,8,33,34,35,39,40,41,46,47,48]) (j5 (tR 8 true e 3<|aX gC g) rt rt ti)<|Tc aK k.kids e f g [5,7,8,33,34,35,39,40,41,46,47,48] (fun e _ f g i=>([bJ 0 0 0 0,bJ 1 0 0 0,aI 2 f 0 g none,aW<|((s::rs).drop 1).map ax,nV ((s::rs).drop 1).length,nV a,aW<|b.map aK,nV b.length,nV d,aW<|k.kids.map aK,nV k.kids.length,nV e],[aZ 1 false 0 [aW<|b.map aK],aZ 2 false 0 [av [iV c.kind,ak c.label]],aZ 8 true f<|i.map aK])) (fun a _ d e=>d=e.length∧e++(List.filter (bg c) a++cj c l)=cj c b∧e.length+(dM a+dM l)<2 ^ 30) (by (exact gB j)) (fun _ _ a e f _ _ _ g _=>Kh 0 g<|Kl 0 60 (dt d)<|Kf 0<|n a e f gR) fun a _ d e f g i j n o p r _ q _=>have q:=(q).trans<|congrArg some<|aG j;have i:=cG (J:=fun a d=>d.2.1=d.2.2.length∧d.2.2++(List.filter (bg c) a++cj c l)=cj c b∧d.2.2.length+(dM a+dM l)<2 ^ 30) (a:=(d,e,f)) p i;have :nU j+dM n≤dM k.kids:=oY g p;Kt 0 r<|Mx q<|Kp 4 (kg j c)<|Mb (bg c j) (fun _=>K1 2 .app (cW (aU d) (sA:e=(f.map aK).length) (by (refine ap (m:=2 ^ 31) ?_ ?_ ?_ <;> omega):small (e+1) 120=true))<|M1 (.obj 2<|aZ 8 true (d+1)<|(f++ [j]).map aK) (congrArg (aZ 8 true<|d+1)<|xW (f:=aK) (g:=Go.Ev.eU) (l:=f) (ws:=[j]) aG)<|Kl 1 59 (dt a)<|K1 0 (.frz 3 [5,7,8,33,34,35,39,40,41,46,47,48]) (j5 (tR 8 true (d+1) 3<|aX gC<|f++ [j]) rt rt ti)<|Mf<|o (d+1) (e+1) (f++ [j])<|by exact XD i (by omega)) fun _=>Kl 0 59 (dt a)<|K1 0 (.frz 3 [5,7,8,33,34,35,39,40,41,46,47,48]) (j5 (tR 8 true d 3<|aX gC f) rt rt ti)<|Mf<|o d e f<|by exact XE i (by omega)
theorem Sr (u:TUnit) (p:List PStep) (hn:nU u≤2 ^ 11) (hl:p.length<2 ^ 40) (hs : ∀ x,x∈p→x.label.length≤2 ^ 39):kP 182 [eU u, .ls (p.map ax)] (.ls ((dG u p).map aK)):=by
  cases p with
  | nil=>exact Ss u rfl
  | cons s rs=>grind [Pv]
theorem Lu (u:TUnit) (p:List PStep) (L:List TUnit) (hf:kP 182 [eU u, .ls (p.map ax)] (.ls (L.map aK))) (hL:L.length≤2 ^ 22):kP 85 [eU u, .ls (p.map ax)] (.ls ((L.map bV).map aV)):=by
  have rr0 b' (h:((L.map bV).map aV)=b':=by first | rfl | (rw [← hj0];rfl) | (rw [← hj0.2.2.1];simp)):=h;exact bp Tryz.func85<|Kp 4 hf<|Kl 0 11 (ln aK L)<|K1 0 (.frz 0 [5,10,11,12]) ti<|lV Nat Nat (List PId) aK L [5,10,11,12] (fun a _=>([ab,aW<|L.map aK,nV L.length,nV a],[])) (fun a _ b c d=>([aI 0 b 0 c none,aW<|L.map aK,nV L.length,nV a],[aZ 3 true b<|d.map aV])) (fun a=>a=L) (fun a _ b c=>b=c.length∧(0:Nat)<c.length∧c++List.map bV a=List.map bV L∧c.length+a.length=L.length) (by rfl) (fun _ _ _ _ _ a hj0=>Kh 0 a<|Kf 1 (Le.lsn<|rr0 []:Le _ (ab))) (fun a _ _ b c d _ e f g _ i _=>have i:=(i).trans<|congrArg some<|aG c;have hj0:=cG (J:=fun a _=>a=L) (a:=()) f b;Kt 0 g<|Mx i<|Kl 9 21 (jo a)<|Mg 0<|M0 (.ren [1,0] [] [5,10,11,12])<|M1 (.frz 1 [5,10,11,12]) (et rt ti)<|Mf<|e 0 1 [PId.mk c.act c.item c.n]<|by (refine ⟨rfl,by simp,?_,?_⟩ <;> (rw [← hj0]) <;> (first | rfl | grind))) (fun _ _ a b c _ _ _ d hj0=>Kh 0 d<|Mg 1<|M2 (.fsl 0 [] 4<|c.map aV) ti (cW (aU a) (tA aV c b (oA:(c).length=b))<|aX IX c)<|Ml 4 (eH (c.map aV) false<|aX IX c)<|Mf<|cw<|rr0<|c.map aV) fun a _ b c d _ e f g _ i j k _ l _=>have l:=(l).trans<|congrArg some<|aG f;have hj0:=cG (J:=fun a b=>b.2.1=b.2.2.length∧(0:Nat)<b.2.2.length∧b.2.2++List.map bV a=List.map bV L∧b.2.2.length+a.length=L.length) (a:=(b,c,d)) j e;Kt 0 k<|Mx l<|K1 6 .app (cW (aU b) (sA:c=(d.map aV).length) (by (refine ap (m:=2 ^ 25) ?_ ?_ ?_ <;> omega):small (c+1) 24=true))<|M1 (.obj 0<|aZ 3 true (b+1)<|(d++ [PId.mk f.act f.item f.n]).map aV) (congrArg (aZ 3 true<|b+1)<|dg (f:=aV) (l:=d) (ws:=[PId.mk f.act f.item f.n]))<|Kl 1 21 (jo a)<|K1 0 (.frz 1 [5,10,11,12]) (et (tR 3 true (b+1) 1<|aX IX<|d++ [PId.mk f.act f.item f.n]) ti)<|Mf<|i (b+1) (c+1) (d++ [PId.mk f.act f.item f.n])<|by (refine ⟨by simp_all,by simp,?_,?_⟩ <;> first | (rw [← hj0.2.2.1,ej,pf];rfl) | (rw [← hj0.2.2.1];simp;done) | grind)
theorem Lr (u:TUnit) (p:List PStep) (hf:kP 85 [eU u, .ls (p.map ax)] (.ls (([]:List PId).map aV))):kP 47 [eU u, .ls (p.map ax)] (.tuple [aV bE,iV 7]):=by
  exact bp Tryz.func47<|Kp 4 hf<|Kf 8<|bv<|cV [av [iV 0,iV 0,iV 0],iV 7]
theorem Lt (u x:TUnit) (p:List PStep) (hf:kP 85 [eU u, .ls (p.map ax)] (.ls ([bV x].map aV))):kP 47 [eU u, .ls (p.map ax)] (.tuple [aV (bV x),iV 0]):=by
  exact bp Tryz.func47<|Kp 4 hf<|Kf 13<|bv<|cV [av [iV (bV x).a,iV (bV x).i,iV (bV x).n],iV 0]
theorem Ls (u:TUnit) (p:List PStep) (a b:PId) (r:List PId) (hf:kP 85 [eU u, .ls (p.map ax)] (.ls ((a::b::r).map aV))):kP 47 [eU u, .ls (p.map ax)] (.tuple [aV bE,iV 8]):=by
  have q1:ae (Int.ofNat (r.length+1+1)) 0=false:=rfl
  have q2:ae (Int.ofNat (r.length+1+1)) 1=false:=rfl
  exact bp Tryz.func47<|Kp 4 hf<|Kl 2 11 (ln aV<|a::b::r)<|Kf 8<|bv<|cV [av [iV 0,iV 0,iV 0],iV 8]
/-- The way of an address, whatever it finds. -/
theorem Lp (u:TUnit) (p:List PStep) (hf:kP 182 [eU u, .ls (p.map ax)] (.ls ((dG u p).map aK))) (hn:nU u≤2 ^ 11):kP 47 [eU u, .ls (p.map ax)] (.tuple [aV (aB u p).1,iV (aB u p).2]):=by
  have ha:=Lu u p (dG u p) hf (HO p hn)
  cases e:dG u p with
  | nil=>grind [FI, Lr]
  | cons x r=>
    cases r with
    | nil=>grind [FH, Lt]
    | cons y r=>grind [FG, Ls]
noncomputable abbrev zU:AV:= .agg [iV 0,iV 0,iV 0,iV 0, .str [], .nils, .nils, .nils]
noncomputable abbrev di (xs:List AV):AObj:= .row 8 false 0 xs
theorem S0 {L Z:List AV} {n i:Nat} (hn:L.length=n) (hi:i<n):((L++Z).drop (i+1)).take (n - (i+1))=L.drop (i+1):=by
  grind
theorem S1 {L Z:List AV} {n i:Nat} (hn:L.length=n) (hi:i<n):bA (L++Z) (0+i) (L.drop (i+1))=L.eraseIdx i++(L.drop (n - 1)++Z):=by
  unfold bA
  grind
theorem Dw {L Z:List AV} {z:AV} {n i:Nat} (hn:L.length=n) (hi:i<n):bA (L.eraseIdx i++(L.drop (n - 1)++Z)) (n - 1) (List.replicate 1 z)=L.eraseIdx i++(z::Z):=by
  unfold bA
  have h1:(L.eraseIdx i).length=n - 1:=by grind
  have h2:(L.drop (n - 1)).length=1:=by grind
  grind
theorem Wx {a b:Nat} (h:a≠b):ae (Int.ofNat a) (Int.ofNat b)=false:=by
  grind [qu]
theorem PS (L Z:List AV) (n k i:Nat) (hi:i+1<n) (hn:L.length=n) (hs:n≤2 ^ 20) (hf:dc 8 L=true) (hZ:Z.length=k) (hT:aY (L++Z)=0):kD 237 [.slice 0 0 0 n (some (n+k)),nV i,nV (i+1)] (aa [di (L++Z)]) (.slice 0 0 0 (n - 1) (some (n+k))) (aa [di (L.eraseIdx i++(zU::Z))]):=by
  have hq:ae (Int.ofNat i) (Int.ofNat (i+1))=false:=Wx (by omega)
  let q:=AHeap.mk 1000000 (bi (aa [aZ 8 false 0 (L++Z)]) ([0]) Tr.nil);let q1:=aa [aZ 8 false 0 (L.eraseIdx i++(L.drop (n - 1)++Z))];let q2:=aa [aZ 8 false 0 (L++Z)];let q3:=(some (aI 0 0 0 n (some (n+k))));let q4:=aI 0 0 (i+1) (n - (i+1)) (some (n+k - (i+1)));let q5:=(some (nV (i+1)));let q6:=(some (nV i));let q7:=(some (nV n));let q8:=AHeap.mk 1 (bi q2 ([0,0]) Tr.nil);let q9:=aI 0 0 0 (n - 1) (some (n+k));let q10:=aI 0 0 (n - 1) 1 (some (k+1));let q11:=aI 0 0 0 i (some (n+k));exact fH Tryz.func237 fun a=>Ko 5 (by exact Cg (xs:=L++Z) (l:=i) (h:=i+1) (m:=n) (by kernel_rfl) (by rfl) (by rfl) (by rfl) (by omega) (by omega) (by omega) (by omega) (by omega) (by omega) (by omega):bU q2 (cT (8) q2 q3 q6 q5 q7)=some (ARes.val (AV.slice 0 0 i 1 (some (n - i))) q2))<|Kh 2 hq<|Kv 4 (by exact gM (xs:=L++Z) (l:=0) (h:=i) (by kernel_rfl) (by rfl) (by rfl) (by omega) (by omega) (by omega) (by omega) (by omega) (by omega):bU (q) (cT (8) (q) q3 (none) q6 (none))=some (ARes.val q11 q))<|Kv 1 (by exact gM (xs:=L++Z) (l:=i+1) (h:=n) (by kernel_rfl) (by rfl) (by rfl) (by omega) (by omega) (by omega) (by omega) (by omega) (by omega):bU (q) (cT (8) (q) q3 q5 (none) (none))=some (ARes.val q4 q))<|Md rt (gT (tR 8 false 0 1 (oA:aY (L++Z)=0))<|gT (tR 8 false 0 1 (oA:aY (L++Z)=0)) rt) (by exact KZ (new:=L.drop (i+1)) rfl (xL rfl (S0 hn (by omega))) (qt hf) (fun e=>by have:=congrArg List.length e;grind) (by grind) (by grind) (ap (m:=2 ^ 20) (by grind) (by omega) (by omega)) (by grind) (S1 hn (by omega)):e9 (dK (8) (120) (q8) ((some q11)) ((some q4)))=some (ARes.val q9 (AHeap.put q8 0 (AObj.row 8 false 0 (L.eraseIdx i++(L.drop (n - 1)++Z))))))<|Ko 4 (by exact gM (xs:=L.eraseIdx i++(L.drop (n - 1)++Z)) (l:=n - 1) (h:=n) (by kernel_rfl) (by rfl) (by rfl) (by omega) (by omega) (by omega) (by omega) (by omega) (by omega):bU q1 (cT (8) q1 ((some q9)) ((some (nV (n - 1)))) q7 (none))=some (ARes.val q10 q1))<|Mo (by exact IV rfl (by kernel_rfl) (Dw hn (by omega)):e9 (vZ (8) (AV.agg [iV 0,iV 0,iV 0,iV 0,AV.str [],AV.nils,AV.nils,AV.nils]) q1 ((some q10)))=some (ARes.val (AV.tuple []) (aa [AObj.row 8 false 0 (L.eraseIdx i++zU::Z)])))<|Kf 1 a
theorem PR (L Z:List AV) (k i:Nat) (hn:L.length=i+1) (hs:i<2 ^ 20) (hk:0<k) (hZ:Z.length=k) (hT:aY (L++Z)=0):kD 237 [.slice 0 0 0 (i+1) (some (i+1+k)),nV i,nV (i+1)] (aa [di (L++Z)]) (.slice 0 0 0 i (some (i+1+k))) (aa [di (L.eraseIdx i++(zU::Z))]):=by
  have hq:ae (Int.ofNat i) (Int.ofNat (i+1))=false:=Wx (by omega)
  have hr:L.eraseIdx i++(L.drop (i+1 - 1)++Z)=L++Z:=by
    rw [MG,DG (by omega),ez,← pf,show i+1 - 1=i from rfl,Ih]
  have hc:bA (L++Z) i (List.replicate 1 zU)=L.eraseIdx i++(zU::Z):=by
    have h:=Dw (z:=zU) (Z:=Z) hn (show i<i+1 by omega)
    grind
  let q:=aa [aZ 8 false 0 (L++Z)];let q1:=AHeap.mk 1000000 (bi q ([0]) Tr.nil);let q2:=(some (nV (i+1)));let q3:=aI 0 0 0 i (some (i+1+k));let q4:=(some (aI 0 0 0 (i+1) (some (i+1+k))));let q5:=(some (nV i));let q6:=AHeap.mk 1 (bi q ([0,0]) Tr.nil);let q7:=aI 0 0 (i+1) 0 (some k);let q8:=aI 0 0 i 1 (some (k+1));exact fH Tryz.func237 fun a=>Ko 5 (by exact Cg (xs:=L++Z) (l:=i) (h:=i+1) (m:=i+1) (by kernel_rfl) (by rfl) (by rfl) (by rfl) (by omega) (by omega) (by omega) (by omega) (by omega) (by omega) (by omega):bU q (cT (8) q q4 q5 q2 q2)=some (ARes.val (AV.slice 0 0 i 1 (some 1)) q))<|Kh 2 hq<|Kv 4 (by exact gM (xs:=L++Z) (l:=0) (h:=i) (by kernel_rfl) (by rfl) (by rfl) (by omega) (by omega) (by omega) (by omega) (by omega) (by omega):bU (q1) (cT (8) (q1) q4 (none) q5 (none))=some (ARes.val q3 q1))<|Kv 1 (by exact gM (xs:=L++Z) (l:=i+1) (h:=i+1) (by kernel_rfl) (by rfl) (by rfl) (by omega) (by omega) (by omega) (by omega) (by omega) (by omega):bU (q1) (cT (8) (q1) q4 q2 (none) (none))=some (ARes.val q7 q1))<|Md rt (gT (tR 8 false 0 1 (oA:aY (L++Z)=0))<|gT (tR 8 false 0 1 (oA:aY (L++Z)=0)) rt) (by exact Qg (xL rfl List.take_zero):e9 (dK (8) (120) (q6) ((some q3)) ((some q7)))=some (ARes.val q3 q6))<|Ko 4 (by exact gM (xs:=L++Z) (l:=i) (h:=i+1) (by kernel_rfl) (by rfl) (by rfl) (by omega) (by omega) (by omega) (by omega) (by omega) (by omega):bU q (cT (8) q ((some q3)) q5 q2 (none))=some (ARes.val q8 q))<|Mo (by exact IV rfl (by kernel_rfl) hc:e9 (vZ (8) (AV.agg [iV 0,iV 0,iV 0,iV 0,AV.str [],AV.nils,AV.nils,AV.nils]) q ((some q8)))=some (ARes.val (AV.tuple []) (aa [AObj.row 8 false 0 (L.eraseIdx i++zU::Z)])))<|Kf 1 a
theorem PP (L:List AV) (i:Nat) (hn:L.length=i+1) (hs:i<2 ^ 20) (hT:aY L=0):kD 237 [.slice 0 0 0 (i+1) (some (i+1)),nV i,nV (i+1)] (aa [di L]) (.slice 0 0 0 i (some (i+1))) (aa [di (L.eraseIdx i++ [zU])]):=by
  have hq:ae (Int.ofNat i) (Int.ofNat (i+1))=false:=Wx (by omega)
  have hr:L.eraseIdx i++(L.drop (i+1 - 1)++ [])=L:=by
    rw [MG,DG (by omega),ez,ez,show i+1 - 1=i from rfl,Ih]
  have hc:bA L i (List.replicate 1 zU)=L.eraseIdx i++ [zU]:=by
    have h:=Dw (z:=zU) (Z:= []) hn (show i<i+1 by omega)
    grind
  let q:=aa [aZ 8 false 0 L];let q1:=AHeap.mk 1000000 (bi q ([0]) Tr.nil);let q2:=(some (nV (i+1)));let q3:=aI 0 0 0 i (some (i+1));let q4:=(some (aI 0 0 0 (i+1) (some (i+1))));let q5:=(some (nV i));let q6:=aI 0 0 i 1 (some 1);let q7:=AHeap.mk 1 (bi q ([0,0]) Tr.nil);let q8:=aI 0 0 0 0 (some 0);exact fH Tryz.func237 fun a=>Ko 5 (by exact Cg (xs:=L) (l:=i) (h:=i+1) (m:=i+1) (by kernel_rfl) (by rfl) (by rfl) (by rfl) (by omega) (by omega) (by omega) (by omega) (by omega) (by omega) (by omega):bU q (cT (8) q q4 q5 q2 q2)=some (ARes.val q6 q))<|Kh 2 hq<|Kv 4 (by exact gM (xs:=L) (l:=0) (h:=i) (by kernel_rfl) (by rfl) (by rfl) (by omega) (by omega) (by omega) (by omega) (by omega) (by omega):bU (q1) (cT (8) (q1) q4 (none) q5 (none))=some (ARes.val q3 q1))<|Kv 1 (by exact IR (xs:=L) (l:=i+1) (h:=i+1) (by kernel_rfl) (by rfl) (by rfl) (by rfl) rfl:bU (q1) (cT (8) (q1) q4 q2 (none) (none))=some (ARes.val q8 q1))<|Md rt (gT (tR 8 false 0 1 (oA:aY (L)=0))<|gT (tR 8 false 0 1 (oA:aY (L)=0)) rt) (by exact Qg (xL rfl List.take_zero):e9 (dK (8) (120) (q7) ((some q3)) ((some q8)))=some (ARes.val q3 q7))<|Ko 4 (by exact gM (xs:=L) (l:=i) (h:=i+1) (by kernel_rfl) (by rfl) (by rfl) (by omega) (by omega) (by omega) (by omega) (by omega) (by omega):bU q (cT (8) q ((some q3)) q5 q2 (none))=some (ARes.val q6 q))<|Mo (by exact IV rfl (by kernel_rfl) hc:e9 (vZ (8) (AV.agg [iV 0,iV 0,iV 0,iV 0,AV.str [],AV.nils,AV.nils,AV.nils]) q ((some q6)))=some (ARes.val (AV.tuple []) (aa [AObj.row 8 false 0 (L.eraseIdx i++ [zU])])))<|Kf 1 a
theorem PO (L Z:List AV) (n i:Nat) (hi:i<n) (hn:L.length=n) (hs:n≤2 ^ 20) (hf:dc 8 L=true) (hT:aY (L++Z)=0):kD 237 [.slice 0 0 0 n (some (n+Z.length)),nV i,nV (i+1)] (aa [di (L++Z)]) (.slice 0 0 0 (n - 1) (some (n+Z.length))) (aa [di (L.eraseIdx i++(zU::Z))]):=by
  rcases fX (i+1) n with h | h
  · exact PS L Z n _ i h hn hs hf rfl hT
  · obtain rfl:n=i+1:=by omega
    cases Z with
    | nil=>rw [ez];rw [ez] at hT;exact PP L i hn (by omega) hT
    | cons z r=>exact PR L (z::r) _ i hn (by omega) (vY _) rfl hT
/-- A list with an element more at a place. -/
def gV (i:Nat) (x:AV) (l:List AV):List AV:=l.take i++(x::l.drop i)
theorem yR {i:Nat} {x:AV} {l:List AV} (h:i≤l.length):(gV i x l).length=l.length+1:=by
  grind [gV]
theorem Fj {x:AV} {l:List AV} {n:Nat} (h:l.length=n):gV n x l=l++ [x]:=by
  grind [gV]
theorem Wp (n:Nat):ae (Int.ofNat n) (Int.ofNat n)=true:=bZ _
theorem Xl {a b:Nat} (h:a<b):ar (Int.ofNat a) (Int.ofNat b)=true:=mb (by simp_all)
theorem Xm {a b:Nat} (h:b≤a):ar (Int.ofNat a) (Int.ofNat b)=false:=lg (by simp_all)
theorem SN {L Z:List AV} {x z:AV} {n:Nat} (h:L.length=n):bA (L++z::Z) (0+n) [x]=gV n x L++Z:=by
  unfold bA
  rw [Fj h,fS,← h,List.take_left,show (L++z::Z).drop (L.length + [x].length)=Z by rw [← As,List.drop_left];rfl]
theorem RN {L Z:List AV} {z:AV} {n i:Nat} (h:L.length=n) (hi:i<n):bA (L++z::Z) (i+1) (L.drop i)=L.take (i+1)++(L.drop i++Z):=by
  unfold bA
  rw [List.take_append_of_le_length (by omega),pf,xd,show i+1+(L.length - i)=L.length+1 by omega,← As,List.drop_left];rfl
theorem Og {L Z:List AV} {x:AV} {n i:Nat} (h:L.length=n) (hi:i<n):bA (L.take (i+1)++(L.drop i++Z)) i [x]=gV i x L++Z:=by
  unfold bA gV
  grind
theorem RD {L:List AV} {z x:AV} {n i:Nat} (h:L.length=n) (hi:i<n):bA (L.take i++List.replicate (n+1 - i) z) i [x]=L.take i++(x::List.replicate (n - i) z):=by
  unfold bA
  have h1:(L.take i).length=i:=by grind
  have e:n+1 - i=(n - i)+1:=by omega
  rw [List.take_append_of_le_length (by omega),Ar (by omega),← As]
  simp_all
theorem Oe {L:List AV} {z x:AV} {n i:Nat} (h:L.length=n) (hi:i<n):bA (L.take i++(x::List.replicate (n - i) z)) (i+1) (L.drop i)=gV i x L:=by
  unfold bA gV
  have h1:(L.take i).length=i:=by grind
  have h2:(L.take i++(x::List.replicate (n - i) z)).length=n+1:=by grind
  have e:(L.take i++(x::List.replicate (n - i) z)).drop (i+1+(L.drop i).length) = []:=DG (by grind)
  grind
theorem OR (L Z:List AV) (x z:AV) (t:Bool) (n k:Nat) (hn:L.length=n) (hs:n<2 ^ 20) (hk:Z.length=k) (hx:dc 8 [x]=true):kD 140 [.slice 0 0 0 n (some (n+(k+1))),nV n, .ps [x] t] (aa [di (L++z::Z)]) (.slice 0 0 0 (n+1) (some (n+(k+1)))) (aa [di (gV n x L++Z)]):=by
  have hq:=Wp n
  let q:=aa [aZ 8 false 0 (L++z::Z)];exact fH Tryz.func140 fun a=>Ko 2 (by exact gM (xs:=L++z::Z) (l:=n) (h:=n) (by kernel_rfl) (by rfl) (by rfl) (by omega) (by omega) (by omega) (by omega) (by omega) (by omega):bU q (cT (8) q ((some (AV.slice 0 0 0 n (some (n+(k+1)))))) ((some (nV n))) (none) (none))=some (ARes.val (AV.slice 0 0 n 0 (some (k+1))) q))<|Kt 11 hq<|Ko 1 (by exact KZ (new:= [x]) rfl (by rfl) hx (o3 _ _) (by simp_all) (by simp_all) (ap (m:=2 ^ 20) (by grind) (by omega) (by omega)) rfl (SN hn):e9 (dK (8) (120) (aa [AObj.row 8 false 0 (L++z::Z)]) ((some (AV.slice 0 0 0 n (some (n+(k+1)))))) ((some (AV.ps [x] t))))=some (ARes.val (AV.slice 0 0 0 (n+1) (some (n+(k+1)))) (aa [AObj.row 8 false 0 (gV n x L++Z)])))<|Kf 0 a
theorem OP (L:List AV) (x:AV) (t:Bool) (n:Nat) (hn:L.length=n) (hs:n<2 ^ 20) (hx:dc 8 [x]=true) (hT:aY L=0) (hI:aY (gV n x L)=0):kD 140 [.slice 0 0 0 n (some n),nV n, .ps [x] t] (aa [di L]) (.ls (gV n x L)) (aa [di L]):=by
  have hq:=Wp n
  have hIl:(gV n x L).length=n+1:=(yR (by omega)).trans (by omega)
  let q:=aa [aZ 8 false 0 L];exact fH Tryz.func140 fun a=>Ko 2 (by exact IR (xs:=L) (l:=n) (h:=n) (by kernel_rfl) (by rfl) (by rfl) (by rfl) rfl:bU q (cT (8) q ((some (AV.slice 0 0 0 n (some n)))) ((some (nV n))) (none) (none))=some (ARes.val (AV.slice 0 0 0 0 (some 0)) q))<|Kt 11 hq<|Ko 1 (by exact Tx (new:= [x]) rfl (by rfl) hx (o3 _ _) (by simp_all) (ap (m:=2 ^ 20) (by grind) (by omega) (by omega)) (by grind [Fj]) ((yR (by omega)).trans (by omega)):e9 (dK (8) (120) (aa [AObj.row 8 false 0 L]) ((some (AV.slice 0 0 0 n (some n)))) ((some (AV.ps [x] t))))=some (ARes.val (AV.slice 1 0 0 (n+1) none) (aa [AObj.row 8 false 0 L,AObj.row 8 true 0 (gV n x L)])))<|Mg 0<|M2 (.fsl 1 [] 6<|gV n x L) (et (tR 8 false 0 1 (oA:aY (L)=0)) ti) (cW (aU 0) (EX (oA:(gV n x L).length=n+1)) (oA:aY (gV n x L)=0))<|Ml 6 (eH (gV n x L) false (oA:aY (gV n x L)=0))<|Mf a
theorem OO (L Z:List AV) (x z:AV) (t:Bool) (n k i:Nat) (hi:i<n) (hn:L.length=n) (hs:n<2 ^ 20) (hk:Z.length=k) (hx:dc 8 [x]=true) (hf:dc 8 L=true) (hT:aY (L++z::Z)=0) (hov:kD 234 [.ps [x] t, .slice 0 0 (i+1) (n - i) (some (n+(k+1) - (i+1)))] (aa [di (L++z::Z)]) (.bool false) (aa [di (L++z::Z)])):kD 140 [.slice 0 0 0 n (some (n+(k+1))),nV i, .ps [x] t] (aa [di (L++z::Z)]) (.slice 0 0 0 (n+1) (some (n+(k+1)))) (aa [di (gV i x L++Z)]):=by
  have hq:ae (Int.ofNat i) (Int.ofNat n)=false:=Wx (by omega)
  have hl:ar (Int.ofNat (n+(k+1))) (Int.ofNat (n+1))=false:=Xm (by omega)
  let q:=aa [aZ 8 false 0 (L++z::Z)];let q1:=aa [aZ 8 false 0 (L.take (i+1)++(L.drop i++Z))];let q2:=AHeap.mk 1000000 (bi q ([0]) Tr.nil);let q3:=aI 0 0 0 (n+1) (some (n+(k+1)));let q4:=aI 0 0 i (n+1 - i) (some (n+(k+1) - i));let q5:=(some (nV i));let q6:=aI 0 0 (i+1) (n - i) (some (n+(k+1) - (i+1)));let q7:=(some (nV (i+1)));let q8:=(some (aI 0 0 0 n (some (n+(k+1)))));exact fH Tryz.func140 fun a=>Ko 2 (by exact gM (xs:=L++z::Z) (l:=i) (h:=n) (by kernel_rfl) (by rfl) (by rfl) (by omega) (by omega) (by omega) (by omega) (by omega) (by omega):bU q (cT (8) q q8 q5 (none) (none))=some (ARes.val (AV.slice 0 0 i (n - i) (some (n+(k+1) - i))) q))<|Kh 11 hq<|Kl 2 28 (jo n)<|Kh 2 hl<|Kl 3 59 (jo n)<|Mo (by exact gM (xs:=L++z::Z) (l:=0) (h:=n+1) (by kernel_rfl) (by rfl) (by rfl) (by omega) (by omega) (by omega) (by omega) (by omega) (by omega):bU q (cT (8) q q8 (none) ((some (nV (n+1)))) (none))=some (ARes.val q3 q))<|Kl 5 65 (jo i)<|Mo (by exact gM (xs:=L++z::Z) (l:=i+1) (h:=n+1) (by kernel_rfl) (by rfl) (by rfl) (by omega) (by omega) (by omega) (by omega) (by omega) (by omega):bU q (cT (8) q ((some q3)) q7 (none) (none))=some (ARes.val q6 q))<|Me hov<|Mg 4<|Ma (jo i)<|Mv (by exact gM (xs:=L++z::Z) (l:=i+1) (h:=n+1) (by kernel_rfl) (by rfl) (by rfl) (by omega) (by omega) (by omega) (by omega) (by omega) (by omega):bU (q2) (cT (8) (q2) ((some q3)) q7 (none) (none))=some (ARes.val q6 q2))<|Kv 1 (by exact gM (xs:=L++z::Z) (l:=i) (h:=n+1) (by kernel_rfl) (by rfl) (by rfl) (by omega) (by omega) (by omega) (by omega) (by omega) (by omega):bU (q2) (cT (8) (q2) ((some q3)) q5 (none) (none))=some (ARes.val q4 q2))<|Md rt (gT (tR 8 false 0 1 (oA:aY (L++z::Z)=0))<|gT (tR 8 false 0 1 (oA:aY (L++z::Z)=0)) rt) (by exact J2 (zs:=((L++z::Z).drop i).take (n+1 - i)) rfl (xL rfl rfl) (by grind [qt]) (by grind) (by grind [RN]):e9 (tC (8) ((AHeap.mk 1 (bi (aa [AObj.row 8 false 0 (L++z::Z)]) ([0,0]) Tr.nil))) ((some (AV.slice 0 0 (i+1) (n - i) (some (n+(k+1) - (i+1)))))) ((some (AV.slice 0 0 i (n+1 - i) (some (n+(k+1) - i))))))=some (ARes.val (nV (n - i)) (AHeap.put (AHeap.mk 1 (bi (aa [AObj.row 8 false 0 (L++z::Z)]) ([0,0]) Tr.nil)) 0 (AObj.row 8 false 0 (L.take (i+1)++(L.drop i++Z))))))<|Ko 1 (by exact gM (xs:=L.take (i+1)++(L.drop i++Z)) (l:=i) (h:=n+1) (by kernel_rfl) (by rfl) (by rfl) (by omega) (by omega) (by omega) (by omega) (by omega) (by omega):bU q1 (cT (8) q1 ((some q3)) q5 (none) (none))=some (ARes.val q4 q1))<|Ko 0 (by exact J2 (zs:= [x]) rfl (by rfl) (qr hx) (by grind) (by grind [List.take_of_length_le, Og]):e9 (tC (8) q1 ((some q4)) ((some (AV.ps [x] t))))=some (ARes.val (iV 1) (aa [AObj.row 8 false 0 (gV i x L++Z)])))<|Kf 1 a
theorem ON (L:List AV) (x:AV) (t:Bool) (n i:Nat) (hi:i<n) (hn:L.length=n) (hs:n<2 ^ 20) (hx:dc 8 [x]=true) (hf:dc 8 L=true) (hT:aY L=0) (hT2:aY (L.take i++(x::List.replicate (n - i) zU))=0) (hI:aY (gV i x L)=0):kD 140 [.slice 0 0 0 n (some n),nV i, .ps [x] t] (aa [di L]) (.ls (gV i x L)) (aa [di L]):=by
  have hq:ae (Int.ofNat i) (Int.ofNat n)=false:=Wx (by omega)
  have hl:ar (Int.ofNat n) (Int.ofNat (n+1))=true:=Xl (by omega)
  have hIl:(gV i x L).length=n+1:=(yR (by omega)).trans (by omega)
  let q:=aa [aZ 8 false 0 L,aZ 8 true 0 (L.take i++x::List.replicate (n - i) zU)];let q1:=aa [aZ 8 false 0 L,aZ 8 true 0 (L.take i++List.replicate (n+1 - i) zU)];let q2:=aa [aZ 8 false 0 L];let q3:=(some (nV i));let q4:=AHeap.mk 1000000 (bi q ([0]) Tr.nil);let q5:=aI 0 0 i (n - i) (some (n - i));let q6:=(some (aI 0 0 0 n (some n)));let q7:=AHeap.mk 2 (bi q ([1,0]) Tr.nil);let q8:=aI 1 0 i (n+1 - i) none;let q9:=aI 1 0 0 (n+1) none;let q10:=aI 0 0 0 i (some n);exact fH Tryz.func140 fun a=>Ko 2 (by exact gM (xs:=L) (l:=i) (h:=n) (by kernel_rfl) (by rfl) (by rfl) (by omega) (by omega) (by omega) (by omega) (by omega) (by omega):bU q2 (cT (8) q2 q6 q3 (none) (none))=some (ARes.val q5 q2))<|Kh 11 hq<|Kl 2 28 (jo n)<|Kt 2 hl<|Ko 1 (by exact gM (xs:=L) (l:=0) (h:=i) (by kernel_rfl) (by rfl) (by rfl) (by omega) (by omega) (by omega) (by omega) (by omega) (by omega):bU q2 (cT (8) q2 q6 (none) q3 (none))=some (ARes.val q10 q2))<|Kl 2 37 (jo n)<|Ko 0 (by (show bU _ (some (AV.int .i64 (IntKind.i64.wrap (Int.ofNat (n+1) - Int.ofNat i))))=_;rw [show (Int.ofNat (n+1) - Int.ofNat i)=Int.ofNat (n+1 - i) by grind,wC (by simp_all) (by grind)];rfl):bU (aa [AObj.row 8 false 0 L]) (Q1 (pU BinOp.sub (Tryz.prog.underlying 3) (cA Tryz.prog 3) (cD Tryz.prog 3) (dE Tryz.prog 10 3 0)) ((some (nV (n+1)))) ((some (nV i))))=some (ARes.val (nV (n+1 - i)) (aa [AObj.row 8 false 0 L])))<|Mo (by exact RL rfl (by omega) (by omega) (by kernel_rfl) (ap (m:=2 ^ 21) (by omega) (by omega) (by omega)) (ap (m:=2 ^ 21) (by omega) (by omega) (by omega)) (by simp_all) (by grind):e9 (Bm (8) (120) (AV.agg [iV 0,iV 0,iV 0,iV 0,AV.str [],AV.nils,AV.nils,AV.nils]) q2 ((some q10)) ((some (nV (n+1 - i)))))=some (ARes.val q9 q1))<|Ko 2 (by exact IP (xs:=L.take i++List.replicate (n+1 - i) zU) (l:=i) (h:=n+1) (by kernel_rfl) (by rfl) (by rfl) (by omega) (by grind) (by omega) (by omega):bU q1 (cT (8) q1 ((some q9)) q3 (none) (none))=some (ARes.val q8 q1))<|Ko 0 (by exact J2 (zs:= [x]) rfl (by rfl) (qr hx) (by grind) (by grind [List.take_of_length_le, RD]):e9 (tC (8) q1 ((some q8)) ((some (AV.ps [x] t))))=some (ARes.val (iV 1) q))<|Mg 2<|Ma (jo i)<|Mv (by exact IP (xs:=L.take i++(x::List.replicate (n - i) zU)) (l:=i+1) (h:=n+1) (by kernel_rfl) (by rfl) (by rfl) (by omega) (by grind) (by omega) (by omega):bU ((AHeap.mk 1000000 (bi (aa [AObj.row 8 false 0 L,AObj.row 8 true 0 (L.take i++x::List.replicate (n - i) zU)]) ([1]) Tr.nil))) (cT (8) ((AHeap.mk 1000000 (bi (aa [AObj.row 8 false 0 L,AObj.row 8 true 0 (L.take i++x::List.replicate (n - i) zU)]) ([1]) Tr.nil))) ((some (AV.slice 1 0 0 (n+1) none))) ((some (nV (i+1)))) (none) (none))=some (ARes.val (AV.slice 1 0 (i+1) (n - i) none) (AHeap.mk 1000000 (bi (aa [AObj.row 8 false 0 L,AObj.row 8 true 0 (L.take i++x::List.replicate (n - i) zU)]) ([1]) Tr.nil))))<|Kv 1 (by exact gM (xs:=L) (l:=i) (h:=n) (by kernel_rfl) (by rfl) (by rfl) (by omega) (by omega) (by omega) (by omega) (by omega) (by omega):bU (q4) (cT (8) (q4) q6 q3 (none) (none))=some (ARes.val q5 q4))<|Md rt (gT (tR 8 true 0 2 (oA:aY (L.take i++x::List.replicate (n - i) zU)=0))<|gT (tR 8 false 0 2 (oA:aY (L)=0)) rt) (by exact J2 (zs:=L.drop i) rfl (xL rfl (Ar (by simp_all))) (qr (qt hf)) (by simp_all) (by grind [List.length_drop, Oe]):e9 (tC (8) (q7) ((some (AV.slice 1 0 (i+1) (n - i) none))) ((some q5)))=some (ARes.val (nV (n - i)) (AHeap.put q7 1 (AObj.row 8 true 0 (gV i x L)))))<|Mg 1<|M2 (.fsl 1 [] 6<|gV i x L) (et (tR 8 false 0 1 (oA:aY (L)=0)) ti) (cW (aU 0) (EX (oA:(gV i x L).length=n+1)) (oA:aY (gV i x L)=0))<|Ml 6 (eH (gV i x L) false (oA:aY (gV i x L)=0))<|Mf a
theorem Fz (x:TUnit) (t:Bool):kP 140 [.nils,iV 0, .ps [eU x] t] (.ls [eU x]):=by
  have hx:dc 8 [eU x]=true:=by kernel_rfl
  have hIl : [eU x].length=1:=rfl
  have hI:aY [eU x]=0:=by kernel_rfl
  let q:= [av [iV x.act,iV x.item,iV x.n,iV x.kind,ak x.label,aW (x.head.map aQ),aW (x.words.map aQ),aW (x.kids.map aK)]];exact bp Tryz.func140<|Ko 18 (by (simp only [dK,gQ,j6,jP,gp,hx];rfl):e9 (dK (8) (120) (aa []) ((some (AV.nils))) ((some (AV.ps [AV.agg [iV x.act,iV x.item,iV x.n,iV x.kind,AV.str x.label,AV.ls (x.head.map aQ),AV.ls (x.words.map aQ),AV.ls (x.kids.map aK)]] t))))=some (ARes.val (AV.slice 0 0 0 1 none) (aa [AObj.row 8 true 0 [eU x]])))<|K1 0 (.frz 0 [6]) ti<|Mf (eH q _<|by rfl:Le _ (AV.ps q false))
theorem Fq (x:TUnit) (t:Bool):kP 140 [.ps [] true,iV 0, .ps [eU x] t] (.ls [eU x]):=by
  have hx:dc 8 [eU x]=true:=by kernel_rfl
  have hIl : [eU x].length=1:=rfl
  have hI:aY [eU x]=0:=by kernel_rfl
  let q:= [av [iV x.act,iV x.item,iV x.n,iV x.kind,ak x.label,aW (x.head.map aQ),aW (x.words.map aQ),aW (x.kids.map aK)]];exact bp Tryz.func140<|Ko 18 (by (simp only [dK,gQ,j6,jP,gp,hx];rfl):e9 (dK (8) (120) (aa []) ((some (AV.ps [] true))) ((some (AV.ps [AV.agg [iV x.act,iV x.item,iV x.n,iV x.kind,AV.str x.label,AV.ls (x.head.map aQ),AV.ls (x.words.map aQ),AV.ls (x.kids.map aK)]] t))))=some (ARes.val (AV.slice 0 0 0 1 none) (aa [AObj.row 8 true 0 [eU x]])))<|K1 0 (.frz 0 [6]) ti<|Mf (eH q _<|by rfl:Le _ (AV.ps q false))
noncomputable def ID:TypeInfo:=(Tryz.prog.info? 31).getD default
theorem NV:Tryz.prog.info? 31=some ID:=by kernel_rfl
/-- A unit of zero values says no more than the zero value. -/
theorem Vo:Le (aK bx) zU:=aL (.cons (Le.refl _) (.cons (Le.refl _) (.cons (Le.refl _) (.cons (Le.refl _) (.cons (Le.refl _) (.cons Le.nils (.cons Le.nils (.cons Le.nils .nil)))))))) rfl
theorem G7:ID.size=8:=by kernel_rfl
theorem EQ:ID.bytes=120:=by kernel_rfl
theorem Wn (l:List TUnit):dc 8 (l.map aK)=true:=gY (fun u=>by cases u;rfl) l
/-- A copy of units: a row of its own, which holds zero values behind them. -/
theorem Dv (xs:List TUnit) (hne:xs≠ []) (hl:xs.length≤2 ^ 20) (a b c:AObj):kC 233 [.ls (xs.map aK)] (aa [a,b,c])
    (fun v h=>∃ k:Nat,True∧v = .slice 3 0 0 xs.length (some (xs.length+k))∧h=aa [a,b,c,di ((xs++List.replicate k bx).map aK)]):=by
  simp only [pw,List.map_replicate]
  have hn:xs.map aK≠ []:=fun h=>hne (List.map_eq_nil_iff.1 h)
  have hf:=Wn xs
  have hsm:small (xs.map aK).length 120=true:=by grind [ap]
  have hlen:xs.length=(xs.map aK).length:=(bH ..).symm
  rw [hlen]
  generalize xs.map aK=L at hn hf hsm
  refine aD.enter 2 (fn:=Tryz.f233) Tryz.func233 (by kernel_rfl) rfl ⟨by kernel_rfl,by kernel_rfl⟩ ?_
  refine ah.seq (ah.mono (C4 o9 ip (ev 40) (s':=⟨dI 8 [(0, .ls L),(2, .nils)],aa [a,b,c]⟩) (.go 0 .fin) (by kernel_rfl)) ?_)
  rintro _ _ ⟨rfl,rfl⟩
  refine ah.seq (ah.seq (ah.mono (wR ip (ev 40) (Ψ:=fun s=>s=⟨dI 8 [(0, .ls L),(2, .nils),(3, .ps L false),(4, .bool false)],aa [a,b,c]⟩) (.go 0 (.nz 3 .abs (.go 0 .fin)))
    (W:=(L = []→False)∧(⟨dI 8 [(0, .ls L),(2, .nils),(3, .ps L false),(4, .bool false)],aa [a,b,c]⟩:St)=⟨dI 8 [(0, .ls L),(2, .nils),(3, .ps L false),(4, .bool false)],aa [a,b,c]⟩) ⟨hn,rfl⟩ (by kernel_rfl)) ?_))
  rintro _ _ ⟨rfl,rfl⟩
  refine ah.cond (t:=false) (by kernel_rfl) (fun h=>by grind) fun _=>ah.skip ?_
  refine ah.seq (ah.region ?_)
  show cJ _ _ _ _ [_,_,_,_] _ _
  refine cJ.one (s':=⟨dI 8 [(0, .ls L),(2, .nils),(3, .ps L false),(4, .bool false),(5, .ps [] true)],aa [a,b,c]⟩) (ev 40) (by kernel_rfl) ?_
  refine cJ.one (s':=⟨dI 8 [(0, .ls L),(2, .nils),(3, .ps L false),(4, .bool false),(5, .ps [] true),(6, .ls L)],aa [a,b,c]⟩) (ev 40) (by kernel_rfl) ?_
  refine qO (I:=fun _=>True) (r:=fun k:Nat=> .slice 3 0 0 L.length (some (L.length+k))) (H:=fun k=>aa [a,b,c, .row 8 false 0 (L++List.replicate k (aK bx))]) (by kernel_rfl)
    (fun pl M a w g1 g2 g3=>tO (z:=aK bx) (z0:=zU) (xs:=L) (t:=29) (tx:=29) (e:=31) (i:=ID) G7 EQ (by kernel_rfl) ⟨31,by kernel_rfl⟩ NV (by kernel_rfl) Vo (by kernel_rfl) (by kernel_rfl) hn hf (by kernel_rfl) hsm (by omega) pl M a w g1 g2 g3) fun k _=>?_
  refine ⟨dI 8 [(0, .ls L),(2, .nils),(3, .ps L false),(4, .bool false),(5, .ps [] true),(6, .ls L),(7, .slice 3 0 0 L.length (some (L.length+k)))],by kernel_rfl,?_⟩
  refine cJ.one (s':=⟨dI 8 [(0, .ls L),(2, .slice 3 0 0 L.length (some (L.length+k))),(3, .ps L false),(4, .bool false),(5, .ps [] true),(6, .ls L),(7, .slice 3 0 0 L.length (some (L.length+k)))],aa [a,b,c, .row 8 false 0 (L++List.replicate k (aK bx))]⟩) (ev 40) (by kernel_rfl) (cJ.nil (ah.ret ⟨fun id h=>(by grind), .slice 3 0 0 L.length (some (L.length+k)),by kernel_rfl,k,trivial,by kernel_rfl,by kernel_rfl⟩))
/-- The unit that a closure changes: its kids are 'K'. -/
noncomputable abbrev dh (u:TUnit) (K:AV):AObj:= .row 8 false 0 [.agg [iV u.act,iV u.item,iV u.n,iV u.kind, .str u.label, .ls (u.head.map aQ), .ls (u.words.map aQ),K]]
theorem Vs (u:TUnit) (n c i:Nat) (R R':List AV) (hT:aY R=0) (hT2:aY R'=0) (hi:i<n) (hs:n≤2 ^ 20) (hD:kD 237 [.slice 1 0 0 n (some c),nV i,nV (i+1)] (aa [dh u (.slice 1 0 0 n (some c)),di R]) (.slice 1 0 0 (n - 1) (some c)) (aa [dh u (.slice 1 0 0 n (some c)),di R'])) :
    kD 236 [.ptr 0 0 0 0, .pptr [nV i] 0 0] (aa [dh u (.slice 1 0 0 n (some c)),di R]) (.tuple []) (aa [dh u (.slice 1 0 0 (n - 1) (some c)),di R']):=by
  exact fH Tryz.func236 fun a=>Mg 6<|Ma (jo i)<|M3 (.efx false (aI 1 0 0 (n - 1)<|some c)<|aa [aZ 8 false 0 [av [iV u.act,iV u.item,iV u.n,iV u.kind,ak u.label,aW<|u.head.map aQ,aW<|u.words.map aQ,aI 1 0 0 n<|some c]],aZ 8 false 0 R']) (cW (tR 8 false 0 2 (oA:aY (R)=0)) rt ti) ti hD<|Kf 2 a
theorem UG (u x:TUnit) (n c i:Nat) (R R':List AV) (hT:aY R=0) (hT2:aY R'=0) (hD:kD 140 [.slice 1 0 0 n (some c),nV i, .ps [eU x] true] (aa [dh u (.slice 1 0 0 n (some c)),di R]) (.slice 1 0 0 (n+1) (some c)) (aa [dh u (.slice 1 0 0 n (some c)),di R'])) :
    kD 139 [.ptr 0 0 0 0, .pptr [nV i] 0 0, .pptr [eU x] 0 0] (aa [dh u (.slice 1 0 0 n (some c)),di R]) (.tuple []) (aa [dh u (.slice 1 0 0 (n+1) (some c)),di R']):=by
  exact fH Tryz.func139 fun a=>Mg 7<|M3 (.efx false (aI 1 0 0 (n+1)<|some c)<|aa [aZ 8 false 0 [av [iV u.act,iV u.item,iV u.n,iV u.kind,ak u.label,aW<|u.head.map aQ,aW<|u.words.map aQ,aI 1 0 0 n<|some c]],aZ 8 false 0 R']) (cW (tR 8 false 0 2 (oA:aY (R)=0)) rt ti) ti hD<|Kf 2 a
theorem UF (u x:TUnit) (n c i:Nat) (R Y:List AV) (hT:aY R=0) (hD:kD 140 [.slice 1 0 0 n (some c),nV i, .ps [eU x] true] (aa [dh u (.slice 1 0 0 n (some c)),di R]) (.ls Y) (aa [dh u (.slice 1 0 0 n (some c)),di R])) :
    kD 139 [.ptr 0 0 0 0, .pptr [nV i] 0 0, .pptr [eU x] 0 0] (aa [dh u (.slice 1 0 0 n (some c)),di R]) (.tuple []) (aa [dh u (.ls Y),di R]):=by
  let q:= [av [iV u.act,iV u.item,iV u.n,iV u.kind,ak u.label,aW (u.head.map aQ),aW (u.words.map aQ),aI 1 0 0 n (some c)]];exact fH Tryz.func139 fun a=>Mg 7<|M3 (.efx true (aW Y)<|aa [aZ 8 false 0 q,aZ 8 false 0 R]) (cW (tR 8 false 0 2 (oA:aY (R)=0)) rt ti) (cW (aU<|some<|aZ 8 false 0 R) (aU<|some<|aZ 8 false 0 q) ti) hD<|Kf 2 a
theorem UE (u x:TUnit) (Y:List AV) (hD:kP 140 [.nils,iV 0, .ps [eU x] true] (.ls Y)) :
    kD 139 [.ptr 0 0 0 0, .pptr [iV 0] 0 0, .pptr [eU x] 0 0] (aa [dh u .nils]) (.tuple []) (aa [dh u (.ls Y)]):=by
  exact fH Tryz.func139 fun a=>Kp 7 hD<|Kf 2 a
theorem UD (u x:TUnit) (Y:List AV) (hD:kP 140 [(.ps [] true),iV 0, .ps [eU x] true] (.ls Y)) :
    kD 139 [.ptr 0 0 0 0, .pptr [iV 0] 0 0, .pptr [eU x] 0 0] (aa [dh u (.ps [] true)]) (.tuple []) (aa [dh u (.ls Y)]):=by
  exact fH Tryz.func139 fun a=>Kp 7 hD<|Kf 2 a
theorem Ui (u x:TUnit) (n c i:Nat) (R R':List AV) (hT:aY R=0) (hT2:aY R'=0) (hD:kD 140 [.slice 1 0 0 n (some c),nV i, .ps [eU x] true] (aa [dh u (.slice 1 0 0 n (some c)),di R]) (.slice 1 0 0 (n+1) (some c)) (aa [dh u (.slice 1 0 0 n (some c)),di R'])) :
    kD 150 [.ptr 0 0 0 0, .pptr [nV i] 0 0, .pptr [eU x] 0 0] (aa [dh u (.slice 1 0 0 n (some c)),di R]) (.tuple []) (aa [dh u (.slice 1 0 0 (n+1) (some c)),di R']):=by
  exact fH Tryz.func150 fun a=>Mg 7<|M3 (.efx false (aI 1 0 0 (n+1)<|some c)<|aa [aZ 8 false 0 [av [iV u.act,iV u.item,iV u.n,iV u.kind,ak u.label,aW<|u.head.map aQ,aW<|u.words.map aQ,aI 1 0 0 n<|some c]],aZ 8 false 0 R']) (cW (tR 8 false 0 2 (oA:aY (R)=0)) rt ti) ti hD<|Kf 2 a
theorem Uh (u x:TUnit) (n c i:Nat) (R Y:List AV) (hT:aY R=0) (hD:kD 140 [.slice 1 0 0 n (some c),nV i, .ps [eU x] true] (aa [dh u (.slice 1 0 0 n (some c)),di R]) (.ls Y) (aa [dh u (.slice 1 0 0 n (some c)),di R])) :
    kD 150 [.ptr 0 0 0 0, .pptr [nV i] 0 0, .pptr [eU x] 0 0] (aa [dh u (.slice 1 0 0 n (some c)),di R]) (.tuple []) (aa [dh u (.ls Y),di R]):=by
  let q:= [av [iV u.act,iV u.item,iV u.n,iV u.kind,ak u.label,aW (u.head.map aQ),aW (u.words.map aQ),aI 1 0 0 n (some c)]];exact fH Tryz.func150 fun a=>Mg 7<|M3 (.efx true (aW Y)<|aa [aZ 8 false 0 q,aZ 8 false 0 R]) (cW (tR 8 false 0 2 (oA:aY (R)=0)) rt ti) (cW (aU<|some<|aZ 8 false 0 R) (aU<|some<|aZ 8 false 0 q) ti) hD<|Kf 2 a
theorem Ug (u x:TUnit) (Y:List AV) (hD:kP 140 [.nils,iV 0, .ps [eU x] true] (.ls Y)) :
    kD 150 [.ptr 0 0 0 0, .pptr [iV 0] 0 0, .pptr [eU x] 0 0] (aa [dh u .nils]) (.tuple []) (aa [dh u (.ls Y)]):=by
  exact fH Tryz.func150 fun a=>Kp 7 hD<|Kf 2 a
theorem Uf (u x:TUnit) (Y:List AV) (hD:kP 140 [(.ps [] true),iV 0, .ps [eU x] true] (.ls Y)) :
    kD 150 [.ptr 0 0 0 0, .pptr [iV 0] 0 0, .pptr [eU x] 0 0] (aa [dh u (.ps [] true)]) (.tuple []) (aa [dh u (.ls Y)]):=by
  exact fH Tryz.func150 fun a=>Kp 7 hD<|Kf 2 a
theorem Vp (u:TUnit) (l:List PWord):kD 143 [.ptr 0 0 0 0, .pptr [.ls (l.map aQ)] 0 0] (aa [dh u (.ls (u.kids.map aK))]) (.tuple []) (aa [dh (lh l u) (.ls (u.kids.map aK))]):=by
  exact fH Tryz.func143 fun a=>Kf 4 a
theorem VO (u:TUnit) (l:List PWord):kD 145 [.ptr 0 0 0 0, .pptr [.ls (l.map aQ)] 0 0] (aa [dh u (.ls (u.kids.map aK))]) (.tuple []) (aa [dh (lh l u) (.ls (u.kids.map aK))]):=by
  exact fH Tryz.func145 fun a=>Kf 4 a
theorem Wh (u:TUnit) (l:List PWord):kD 147 [.ptr 0 0 0 0, .pptr [.ls (l.map aQ)] 0 0] (aa [dh u (.ls (u.kids.map aK))]) (.tuple []) (aa [dh (y6 l u) (.ls (u.kids.map aK))]):=by
  exact fH Tryz.func147 fun a=>Kf 4 a
theorem VM (u:TUnit) (d:PDeed):kD 149 [.ptr 0 0 0 0, .pptr [az d] 0 0] (aa [dh u (.ls (u.kids.map aK))]) (.tuple []) (aa [dh (qm d.it.label u) (.ls (u.kids.map aK))]):=by
  exact fH Tryz.func149 fun a=>Kf 6 a
noncomputable abbrev um (p:PId):AObj:= .row 3 false 0 [aV p]
noncomputable abbrev zO:AObj:= .row 8 false 0 [zU]
theorem Ga:kP 233 [.nils] .nils:=by
  exact wk Tryz.func233 (.go 4 .fin)<|bv ab
theorem Gy:kP 233 [.ps [] false] (.ps [] true):=by
  exact wk Tryz.func233 (.go 7 .fin)<|bv<|kK [] true
theorem P8 (w:TUnit) (r:List TUnit) (hl:r.length<2 ^ 20):kP 233 [.ls ((w::r).map aK)] (.ls ((w::r).map aK)):=by
  let q:=List.map aK (w::r);exact bp Tryz.func233<|Mg 1<|Mz 3 (fun (a:((w::r).map aK:List AV) = [])=>Mw .abs<|o3 _ _ a)<|Mg 3<|M2 .apl (et (sA:List.map aK (w::r)≠ [])<|gY (sz:=8) (f:=aK) (fun _=>by (rw [aG];rfl))<|w::r) (by (refine ap (m:=2 ^ 21) ?_ ?_ ?_ <;> first | omega | grind):small ((w::r).map aK).length 120=true)<|Mg 0<|M2 (.fsl 0 [] 2 q) ti (cW (aU 0) (tA aK (w::r) q.length (sA:(w::r).length=((w::r).map aK).length))<|aX gC<|w::r)<|Ml 2 (eH q false<|aX gC<|w::r)<|Mf<|bv<|aW q
theorem B7 (l:List TUnit) (hl:l.length≤2 ^ 20):kP 233 [.ls (l.map aK)] (.ls (l.map aK)):=by
  cases l with
  | nil=>exact aM.ls0 (Ga.less Le.nils) (Gy.lessB (u:= .ls []) (by kernel_rfl))
  | cons w r=>grind [P8]
/-- The unit is found; its kids stay what they are. -/
theorem xK (g:Nat) (bs:List AV) (p:PId) (u u2:TUnit) (hA:aY [eU u,aV p, .func (.func g) [] bs]=0) (hp:(ae u.act p.a && (ae u.item p.i && ae u.n p.n))=true) (hl:u.kids.length≤2 ^ 20) (hd:kD g (.ptr 0 0 0 0::bs) (aa [dh u (.ls (u.kids.map aK)),um p,zO]) (.tuple []) (aa [dh u2 (.ls (u2.kids.map aK)),um p,zO])):kP 138 [eU u,aV p, .func (.func g) [] bs] (eU u2):=by
  have hc:=B7 u.kids hl
  let q:= [iV p.a,iV p.i,iV p.n];exact bp (ht:=oA) Tryz.func138<|Kv 5 (kL ((Tryz.prog).underlying 27) u.act u.item u.n p.a p.i p.n<|aa [aZ 8 false 0 [av [iV u.act,iV u.item,iV u.n,iV u.kind,ak u.label,aW<|u.head.map aQ,aW<|u.words.map aQ,aW<|u.kids.map aK]],aZ 3 false 0 [av q],aZ 8 false 0 [av [iV 0,iV 0,iV 0,iV 0,ak [],ab,ab,ab]]])<|Mt hp<|Kp 1 hc<|Ke 2 hd<|Kf 1<|bv<|av [iV u2.act,iV u2.item,iV u2.n,iV u2.kind,ak u2.label,aW<|u2.head.map aQ,aW<|u2.words.map aQ,aW<|u2.kids.map aK]
/-- The unit is found; it has kids; in its own row something is done. -/
theorem Se (g:Nat) (bs:List AV) (p:PId) (u u2:TUnit) (n2:Nat) (Z:Nat→List AV) (hA:aY [eU u,aV p, .func (.func g) [] bs]=0) (hp:(ae u.act p.a && (ae u.item p.i && ae u.n p.n))=true) (hl:u.kids.length≤2 ^ 20) (hne:u.kids≠ []) (hn2:u2.kids.length=n2) (hd : ∀ k,kD g (.ptr 0 0 0 0::bs) (aa [dh u (.slice 3 0 0 u.kids.length (some (u.kids.length+k))),um p,zO,di ((u.kids++List.replicate k bx).map aK)]) (.tuple []) (aa [dh u2 (.slice 3 0 0 n2 (some (u.kids.length+k))),um p,zO,di (u2.kids.map aK++Z k)])):kP 138 [eU u,aV p, .func (.func g) [] bs] (eU u2):=by
  let q:= [av [iV u.act,iV u.item,iV u.n,iV u.kind,ak u.label,aW (u.head.map aQ),aW (u.words.map aQ),aW (u.kids.map aK)]];let q1:= [iV p.a,iV p.i,iV p.n];let q2:= [av [iV 0,iV 0,iV 0,iV 0,ak [],ab,ab,ab]];let q3:=List.map aK u2.kids;exact bp (ht:=oA) Tryz.func138<|Kv 5 (kL ((Tryz.prog).underlying 27) u.act u.item u.n p.a p.i p.n<|aa [aZ 8 false 0 q,aZ 3 false 0 [av q1],aZ 8 false 0 q2])<|Mt hp<|Mg 1<|Mq (Dv u.kids hne hl (aZ 8 false 0 q) (aZ 3 false 0 [av q1])<|aZ 8 false 0 q2) fun a _=>Ke 2 (hd a)<|M2 (.fza 0 7 3 [3,6] q3) (j5 rt rt rt ti) (cW (aU 0) (Th (xs:=List.map aK u2.kids) (ys:=Z a) (n:=n2) sA)<|aX gC u2.kids)<|Kf 1<|bv<|av [iV u2.act,iV u2.item,iV u2.n,iV u2.kind,ak u2.label,aW<|u2.head.map aQ,aW<|u2.words.map aQ,aW q3]
theorem Sm {l m:List TUnit} {i:Nat} (h:i<l.length):gD (l++m) i=gD l i:=by
  grind [gD]
theorem sr {l m:List TUnit} {i n:Nat} {x:TUnit} (h:l.length=n) (hi:i<n):((l++m).set i x).take n=l.set i x:=by
  simp_all
theorem Qp {l m:List TUnit} {n:Nat} (h:l.length=n):(l++m).take n=l:=by simp_all
theorem JO {l:List TUnit} {i:Nat} (h:i<l.length):l.drop i=gD l i::l.drop (i+1):=by
  grind [List.drop_eq_getElem_cons, gD]
theorem VA {p:PId} {f:TUnit→TUnit} {l:List TUnit} {i:Nat} (h:iN p f l i (l.drop i)) (hi:l.length≤i):eQ p f l=l:=by
  grind [List.drop_eq_nil_of_le, iN.done]
theorem Vt {p:PId} {f:TUnit→TUnit} {l:List TUnit} {i:Nat} (h:iN p f l i (l.drop i)) (hi:i<l.length) (hw:cZ p (gD l i)=false):iN p f l (i+1) (l.drop (i+1)):=by
  grind [JO, iN.skip]
theorem Vu {p:PId} {f:TUnit→TUnit} {l:List TUnit} {i:Nat} (h:iN p f l i (l.drop i)) (hi:i<l.length) (hw:cZ p (gD l i)=true):eQ p f l=l.set i (cS p f (gD l i)):=by
  grind [JO, iN.hit]
/-- The unit is another one without kids. -/
theorem Wv (g:Nat) (bs:List AV) (p:PId) (u:TUnit) (hA:aY [eU u,aV p, .func (.func g) [] bs]=0) (hA2:(AV.func (.func g) [] bs).top=0) (hp:(ae u.act p.a && (ae u.item p.i && ae u.n p.n))=false) (h0:u.kids.length=0) (hl0:ar 0 (Int.ofNat u.kids.length)=false):kP 138 [eU u,aV p, .func (.func g) [] bs] (eU u):=by
  have hc:=B7 u.kids (by omega)
  let q:= [aZ 8 false 0 [av [iV u.act,iV u.item,iV u.n,iV u.kind,ak u.label,aW (u.head.map aQ),aW (u.words.map aQ),aW (u.kids.map aK)]],aZ 3 false 0 [av [iV p.a,iV p.i,iV p.n]],aZ 8 false 0 [av [iV 0,iV 0,iV 0,iV 0,ak [],ab,ab,ab]]];let q1:= [bW (bX g) [] bs,bJ 0 0 0 0,bJ 1 0 0 0,bJ 2 0 0 0,aW (u.kids.map aK),aW (u.kids.map aK),nV u.kids.length,iV 0];exact bp (ht:=oA) Tryz.func138<|Kv 5 (kL ((Tryz.prog).underlying 27) u.act u.item u.n p.a p.i p.n<|aa q)<|Mh hp<|Kp 1 hc<|Kl 2 27 (ln aK u.kids)<|Mg 0<|W6 [2,3,4,6,7,26,27,28] (q1,q) True 0 ti fun _ _=>Kh 0 hl0<|Kf 4<|bv<|av [iV u.act,iV u.item,iV u.n,iV u.kind,ak u.label,aW<|u.head.map aQ,aW<|u.words.map aQ,aW<|u.kids.map aK]
/-- The unit is another: what is done below. -/
theorem Ww (g:Nat) (bs:List AV) (p:PId) (f:TUnit→TUnit) (u:TUnit) (hA:aY [eU u,aV p, .func (.func g) [] bs]=0) (hA2:(AV.func (.func g) [] bs).top=0) (hp:(ae u.act p.a && (ae u.item p.i && ae u.n p.n))=false) (hne:u.kids≠ []) (hn:u.kids.length≤2 ^ 20)
    (hf : ∀ k,k∈u.kids→kP 48 [eU k,aV p] (.tuple [eU (eu p k), .bool (cZ p k)]))
    (ih : ∀ k,k∈u.kids→kP 138 [eU k,aV p, .func (.func g) [] bs] (eU (cS p f k))):kP 138 [eU u,aV p, .func (.func g) [] bs] (eU (mc u (eQ p f u.kids))):=by
  have rr0 : ∀ b',(h:(List.map aK (mc u (eQ p f u.kids)).kids)=b':=by first | rfl | (rw [Vu hx0.2 (by (first | omega | (simp only [oN] at *;omega))) (by rw [← q0 (by (first | omega | (simp only [oN] at *;omega)))];assumption),q0 (by (first | omega | (simp only [oN] at *;omega)))];exact congrArg _ (sr rfl (by (first | omega | (simp only [oN] at *;omega)))).symm) | (rw [VA hx0.2 (by (first | omega | (simp only [oN] at *;omega)))];exact congrArg _ (Qp rfl).symm))→(List.map aK (mc u (eQ p f u.kids)).kids)=b':=(fun _ h=>h);exact bp (ht:=oA) Tryz.func138<|Kv 5 (kL ((Tryz.prog).underlying 27) u.act u.item u.n p.a p.i p.n<|aa [aZ 8 false 0 [av [iV u.act,iV u.item,iV u.n,iV u.kind,ak u.label,aW<|u.head.map aQ,aW<|u.words.map aQ,aW<|u.kids.map aK]],aZ 3 false 0 [av [iV p.a,iV p.i,iV p.n]],aZ 8 false 0 [av [iV 0,iV 0,iV 0,iV 0,ak [],ab,ab,ab]]])<|Mh hp<|Mg 1<|Mq (Dv u.kids hne hn (aZ 8 false 0 [av [iV u.act,iV u.item,iV u.n,iV u.kind,ak u.label,aW<|u.head.map aQ,aW<|u.words.map aQ,aW<|u.kids.map aK]]) (aZ 3 false 0 [av [iV p.a,iV p.i,iV p.n]])<|aZ 8 false 0 [av [iV 0,iV 0,iV 0,iV 0,ak [],ab,ab,ab]]) fun a _=>Mg 3<|Yb (0:Nat) [2,3,4,6,7,26,27,28] (fun b=>([bW (bX g) [] bs,bJ 0 0 0 0,bJ 1 0 0 0,bJ 2 0 0 0,aI 3 0 0 u.kids.length<|some<|u.kids.length+a,aI 3 0 0 u.kids.length<|some<|u.kids.length+a,nV u.kids.length,nV b],[aZ 8 false 0 [av [iV u.act,iV u.item,iV u.n,iV u.kind,ak u.label,aW<|u.head.map aQ,aW<|u.words.map aQ,aW<|u.kids.map aK]],aZ 3 false 0 [av [iV p.a,iV p.i,iV p.n]],aZ 8 false 0 [av [iV 0,iV 0,iV 0,iV 0,ak [],ab,ab,ab]],aZ 8 false 0<|(u.kids++List.replicate a bx).map aK])) (fun a=>a≤u.kids.length∧iN p f u.kids a (u.kids.drop a)) (fun a=>u.kids.length - a) (by simp_all [iN.start]) fun b hx0 c=>have hx0:b≤u.kids.length∧iN p f u.kids b (u.kids.drop b):=hx0;have q0:b<u.kids.length→gD (u.kids++List.replicate a bx) b=gD u.kids b:=fun h=>Sm h;Ka 0 (Int.ofNat b) (Int.ofNat u.kids.length) (fun _ _=>K1 0 .rix (et (aU 0) (sA:b<u.kids.length))<|Mr (et (aU 0)<|qf aK (g:=Go.Ev.eU) aG (gR:b<(u.kids++List.replicate a bx).length))<|Kp 4 (hf (gD (u.kids++List.replicate a bx) b)<|by grind [iY])<|Kb 6 (cZ p<|gD (u.kids++List.replicate a bx) b) (fun _=>Kp 4 (ih (gD (u.kids++List.replicate a bx) b)<|by grind [iY])<|M1 .rix (et (aU 0) (sA:b<u.kids.length))<|M1 (.rst (av [iV (gD (u.kids++List.replicate a bx) b).act,iV (gD (u.kids++List.replicate a bx) b).item,iV (gD (u.kids++List.replicate a bx) b).n,iV (gD (u.kids++List.replicate a bx) b).kind,ak (gD (u.kids++List.replicate a bx) b).label,aW<|List.map aQ (gD (u.kids++List.replicate a bx) b).head,aW<|List.map aQ (gD (u.kids++List.replicate a bx) b).words,aW<|List.map aK (gD (u.kids++List.replicate a bx) b).kids])<|((u.kids++List.replicate a bx).set b<|cS p f<|gD (u.kids++List.replicate a bx) b).map aK) (cW (aU 0) (qf aK (g:=Go.Ev.eU) aG (gR:b<(u.kids++List.replicate a bx).length))<|Ch (f:=aK) (g:=Go.Ev.eU) aG (l:=u.kids++List.replicate a bx) (i:=b) (w:=cS p f<|gD (u.kids++List.replicate a bx) b))<|Mg 0<|M2 (.fsl 3 [3,6] 48<|(((u.kids++List.replicate a bx).set b<|cS p f<|gD (u.kids++List.replicate a bx) b).take u.kids.length).map aK) (j5 rt rt rt ti) (cW (aU 0) (A6 (f:=aK) (l:=(u.kids++List.replicate a bx).set b<|cS p f<|gD (u.kids++List.replicate a bx) b) (n:=u.kids.length))<|aX gC<|((u.kids++List.replicate a bx).set b<|cS p f<|gD (u.kids++List.replicate a bx) b).take u.kids.length)<|Ml 48 (eH ((((u.kids++List.replicate a bx).set b<|cS p f<|gD (u.kids++List.replicate a bx) b).take u.kids.length).map aK) (nC (some<|u.kids.length+a)<|some u.kids.length)<|aX gC<|((u.kids++List.replicate a bx).set b<|cS p f<|gD (u.kids++List.replicate a bx) b).take u.kids.length)<|Kf 3 (aL (.cons (bv _)<|.cons (bv _)<|.cons (bv _)<|.cons (bv _)<|.cons (bv _)<|.cons (bv _)<|.cons (bv _)<|.cons (cw<|rr0<|(((u.kids++List.replicate a bx).set b<|cS p f<|gD (u.kids++List.replicate a bx) b).take u.kids.length).map aK) .nil)<|by kernel_rfl:Le _ (AV.agg [iV u.act,iV u.item,iV u.n,iV u.kind,AV.str u.label,AV.ls (u.head.map aQ),AV.ls (u.words.map aQ),AV.ls ((((u.kids++List.replicate a bx).set b (cS p f (gD (u.kids++List.replicate a bx) b))).take u.kids.length).map aK)]))) fun _=>Kl 0 47 (jo b)<|Mg 0<|M2 (.frl 4 [3,4,6,7,26,27,28] [2]) (GN (Nk (sz:=8) (op:=false) (ep:=0) (n:=4)<|aX gC<|u.kids++List.replicate a bx) rt rt rt ti) (et (oA:(AV.func (Fn.func g) [] bs).top≤4) ti)<|Mf<|c (b+1) (by grind [Vt]) gR) fun _ _=>Mg 0<|M2 (.fsl 3 [3,6] 48<|((u.kids++List.replicate a bx).take u.kids.length).map aK) (j5 rt rt rt ti) (cW (aU 0) (A6 (f:=aK) (l:=u.kids++List.replicate a bx) (n:=u.kids.length))<|aX gC<|(u.kids++List.replicate a bx).take u.kids.length)<|Ml 48 (eH (((u.kids++List.replicate a bx).take u.kids.length).map aK) (nC (some<|u.kids.length+a)<|some u.kids.length)<|aX gC<|(u.kids++List.replicate a bx).take u.kids.length)<|Kf 3 (aL (.cons (bv _)<|.cons (bv _)<|.cons (bv _)<|.cons (bv _)<|.cons (bv _)<|.cons (bv _)<|.cons (bv _)<|.cons (cw<|rr0<|((u.kids++List.replicate a bx).take u.kids.length).map aK) .nil)<|by kernel_rfl:Le _ (AV.agg [iV u.act,iV u.item,iV u.n,iV u.kind,AV.str u.label,AV.ls (u.head.map aQ),AV.ls (u.words.map aQ),AV.ls (((u.kids++List.replicate a bx).take u.kids.length).map aK)]))
theorem gF {g:Nat} {bs:List AV} {p:PId} (hb:aY bs=0) (x:TUnit):aY [eU x,aV p, .func (.func g) [] bs]=0:=by
  have h1:(eU x).top=0:=by rw [← aG];exact gC x
  have h2:(AV.func (.func g) [] bs).top=0:=by simp only [AV.top,aY,hb];rfl
  exact fx.2 fun y hy=>by
    simp only [fz,List.mem_nil_iff,or_false] at hy
    rcases hy with rfl | rfl | rfl
    · omega
    · exact IX p
    omega
/-- with: the first unit of the number is changed, wherever it stands. -/
theorem n9 (g:Nat) (bs:List AV) (p:PId) (f:TUnit→TUnit) (hb:aY bs=0) : ∀ (u:TUnit),nU u≤2 ^ 19→(∀ x,x∈bc u→x.head.length<2 ^ 30∧x.words.length<2 ^ 30)→
    (∀ v,v∈bc u→fL p v=true→kP 138 [eU v,aV p, .func (.func g) [] bs] (eU (f v)))→kP 138 [eU u,aV p, .func (.func g) [] bs] (eU (cS p f u)):=by
  refine TUnit.ind fun u ih hn ht hit=>?_
  have hA:=gF (g:=g) (bs:=bs) (p:=p) hb
  cases hi:fL p u with
  | true=>grind [uY, c8]
  | false=>
    have hkl:=bj u
    rw [oQ hi]
    by_cases h0:u.kids = []
    · have e:mc u (eQ p f u.kids)=u:=by rw [h0,rh];cases u;simp only [TUnit.kids] at h0;subst h0;rfl
      rw [e]
      exact Wv g bs p u (hA u) (by simp only [AV.top,aY,hb];rfl) hi (by simp_all) (by rw [h0];rfl)
    · exact Ww g bs p f u (hA u) (by simp only [AV.top,aY,hb];rfl) hi h0 (by omega) (fun k hk=>Pg p k (by have:=gN hk;omega) fun x hx=>ht x (bf hk hx))
        fun k hk=>ih k hk (by have:=gN hk;omega) (fun x hx=>ht x (bf hk hx)) fun v hv=>hit v (bf hk hv)
theorem zE {bs:List AV} (rs:List Nat) (h0:fk rs 0=0) (hb:aY bs=0):lz (fk rs) (.ptr 0 0 0 0::bs) = .ptr 0 0 0 0::bs:=by
  grind [lz, Ev.ren, eA]
theorem ze {g:Nat} {bs:List AV} {u u2:TUnit} {n n2 c:Nat} {X X2:List AV} {A B:AObj} (hb:aY bs=0) (hX:aY X=0) (hX2:aY X2=0) (h:kD g (.ptr 0 0 0 0::bs) (aa [dh u (.slice 1 0 0 n (some c)),di X]) (.tuple []) (aa [dh u2 (.slice 1 0 0 n2 (some c)),di X2])) :
    kD g (.ptr 0 0 0 0::bs) (aa [dh u (.slice 3 0 0 n (some c)),A,B,di X]) (.tuple []) (aa [dh u2 (.slice 3 0 0 n2 (some c)),A,B,di X2]):=
  oS ip [0,3] h (zE _ rfl hb) rfl rfl ⟨⟨rfl,uK (by kernel_rfl)⟩,⟨rfl,by show aY X≤2;omega⟩,trivial⟩ ⟨⟨rfl,uK (by kernel_rfl)⟩,⟨rfl,by show aY X2≤2;omega⟩,trivial⟩
    (by show Nat.mx _ (aY bs)≤2;rw [hb];exact uK (by kernel_rfl)) (bN _) ⟨by kernel_rfl,by rw [ue hX];kernel_rfl,trivial⟩ ⟨by kernel_rfl,by kernel_rfl,trivial⟩
    (by show _=AHeap.put (AHeap.put _ _ _) _ (jC _ (.row 8 false 0 X2));rw [ue hX2];kernel_rfl)
theorem BR {g:Nat} {bs:List AV} {u u2:TUnit} {n c:Nat} {X Y:List AV} {A B:AObj} (hb:aY bs=0) (hX:aY X=0) (h:kD g (.ptr 0 0 0 0::bs) (aa [dh u (.slice 1 0 0 n (some c)),di X]) (.tuple []) (aa [dh u2 (.ls Y),di X])) :
    kD g (.ptr 0 0 0 0::bs) (aa [dh u (.slice 3 0 0 n (some c)),A,B,di X]) (.tuple []) (aa [dh u2 (.ls Y),A,B,di X]):=
  oS ip [0,3] h (zE _ rfl hb) rfl rfl ⟨⟨rfl,uK (by kernel_rfl)⟩,⟨rfl,by show aY X≤2;omega⟩,trivial⟩ ⟨⟨rfl,uK (by kernel_rfl)⟩,⟨rfl,by show aY X≤2;omega⟩,trivial⟩
    (by show Nat.mx _ (aY bs)≤2;rw [hb];exact uK (by kernel_rfl)) (bN _) ⟨by kernel_rfl,by rw [ue hX];kernel_rfl,trivial⟩ ⟨by kernel_rfl,by kernel_rfl,trivial⟩
    (by show _=AHeap.put (AHeap.put _ _ _) _ (jC _ (.row 8 false 0 X));rw [ue hX];kernel_rfl)
theorem jg {g:Nat} {bs:List AV} {u u2:TUnit} {A B:AObj} {K K2:AV} (hb:aY bs=0) (h1:aY [.agg [iV u.act,iV u.item,iV u.n,iV u.kind, .str u.label, .ls (u.head.map aQ), .ls (u.words.map aQ),K]]=0) (h2:aY [.agg [iV u2.act,iV u2.item,iV u2.n,iV u2.kind, .str u2.label, .ls (u2.head.map aQ), .ls (u2.words.map aQ),K2]]=0) (h:kD g (.ptr 0 0 0 0::bs) (aa [dh u K]) (.tuple []) (aa [dh u2 K2])) :
    kD g (.ptr 0 0 0 0::bs) (aa [dh u K,A,B]) (.tuple []) (aa [dh u2 K2,A,B]):=
  eR ip 0 h1 h2 h (zE _ rfl hb) rfl rfl (by simp only [aY,AV.top,hb];rfl) rfl (by kernel_rfl) (by kernel_rfl)
/-- The unit is found; it has kids; a kid more is laid into its row, or into a new one. -/
theorem JA (g:Nat) (bs:List AV) (p:PId) (u u2:TUnit) (n2:Nat) (Z:Nat→List AV) (hA:aY [eU u,aV p, .func (.func g) [] bs]=0) (hp:(ae u.act p.a && (ae u.item p.i && ae u.n p.n))=true) (hl:u.kids.length≤2 ^ 20) (hne:u.kids≠ []) (hn2:u2.kids.length=n2)
    (hdA : ∀ k,By (Nat.beq k 0) true→kD g (.ptr 0 0 0 0::bs) (aa [dh u (.slice 3 0 0 u.kids.length (some (u.kids.length+k))),um p,zO,di ((u.kids++List.replicate k bx).map aK)]) (.tuple []) (aa [dh u2 (.ls (u2.kids.map aK)),um p,zO,di ((u.kids++List.replicate k bx).map aK)]))
    (hdB : ∀ k,By (Nat.beq k 0) false→kD g (.ptr 0 0 0 0::bs) (aa [dh u (.slice 3 0 0 u.kids.length (some (u.kids.length+k))),um p,zO,di ((u.kids++List.replicate k bx).map aK)]) (.tuple []) (aa [dh u2 (.slice 3 0 0 n2 (some (u.kids.length+k))),um p,zO,di (u2.kids.map aK++Z k)])):kP 138 [eU u,aV p, .func (.func g) [] bs] (eU u2):=by
  let q:=av [iV u2.act,iV u2.item,iV u2.n,iV u2.kind,ak u2.label,aW (u2.head.map aQ),aW (u2.words.map aQ),aW (u2.kids.map aK)];let q1:= [av [iV u.act,iV u.item,iV u.n,iV u.kind,ak u.label,aW (u.head.map aQ),aW (u.words.map aQ),aW (u.kids.map aK)]];let q2:= [iV p.a,iV p.i,iV p.n];let q3:= [av [iV 0,iV 0,iV 0,iV 0,ak [],ab,ab,ab]];exact bp (ht:=oA) Tryz.func138<|Kv 5 (kL ((Tryz.prog).underlying 27) u.act u.item u.n p.a p.i p.n<|aa [aZ 8 false 0 q1,aZ 3 false 0 [av q2],aZ 8 false 0 q3])<|Mt hp<|Mg 1<|Mq (Dv u.kids hne hl (aZ 8 false 0 q1) (aZ 3 false 0 [av q2])<|aZ 8 false 0 q3) fun a _=>Ks 2 (a.beq 0) (fun b=>Me (hdA a b)<|Kf 1<|bv q) fun b=>Me (hdB a b)<|M2 (.fza 0 7 3 [3,6]<|u2.kids.map aK) (j5 rt rt rt ti) (cW (aU 0) (Th (xs:=List.map aK u2.kids) (ys:=Z a) (n:=n2) sA)<|aX gC u2.kids)<|Kf 1<|bv q
/-- The unit is found; it has no kids; it gets one. -/
theorem JB (g:Nat) (bs:List AV) (p:PId) (u u2:TUnit) (hA:aY [eU u,aV p, .func (.func g) [] bs]=0) (hp:(ae u.act p.a && (ae u.item p.i && ae u.n p.n))=true) (h0:u.kids = [])
    (hdN:kD g (.ptr 0 0 0 0::bs) (aa [dh u .nils,um p,zO]) (.tuple []) (aa [dh u2 (.ls (u2.kids.map aK)),um p,zO]))
    (hdP:kD g (.ptr 0 0 0 0::bs) (aa [dh u (.ps [] true),um p,zO]) (.tuple []) (aa [dh u2 (.ls (u2.kids.map aK)),um p,zO])):kP 138 [eU u,aV p, .func (.func g) [] bs] (eU u2):=by
  obtain ⟨a,i,n,k,l,h,w,ks⟩:=u
  simp only [TUnit.kids] at h0
  subst h0
  let q:=av [iV u2.act,iV u2.item,iV u2.n,iV u2.kind,ak u2.label,aW (u2.head.map aQ),aW (u2.words.map aQ),aW (u2.kids.map aK)];let q1:= [iV p.a,iV p.i,iV p.n];exact bp (ht:=oA) Tryz.func138<|Kv 5 (kL ((Tryz.prog).underlying 27) (TUnit.mk a i n k l h w []).act (TUnit.mk a i n k l h w []).item (TUnit.mk a i n k l h w []).n p.a p.i p.n<|aa [aZ 8 false 0 [av [iV (TUnit.mk a i n k l h w []).act,iV (TUnit.mk a i n k l h w []).item,iV (TUnit.mk a i n k l h w []).n,iV (TUnit.mk a i n k l h w []).kind,ak l,aW<|List.map aQ (TUnit.mk a i n k l h w []).head,aW<|List.map aQ (TUnit.mk a i n k l h w []).words,aW []]],aZ 3 false 0 [av q1],aZ 8 false 0 [av [iV 0,iV 0,iV 0,iV 0,ak [],ab,ab,ab]]])<|Mt hp<|Mg 1<|Mz 17 (fun (_:([]:List AV) = [])=>Mp Ga<|Ke 2 hdN<|Kf 1<|bv q)<|Mp Gy<|Ke 2 hdP<|Kf 1<|bv q
theorem jr {a b:List AV} (h1:aY a=0) (h2:aY b=0):aY (a++b)=0:=fx.2 fun x hx=>by
  rcases iE.1 hx with h | h
  · exact fx.1 h1 x h
  · exact fx.1 h2 x h
theorem Pd (l:List TUnit):dc 8 (l.map aK)=true:=gY (fun u=>by cases u;rfl) l
theorem Su (x:TUnit):dc 8 [eU x]=true:=by kernel_rfl
theorem LM (x:TUnit):(eU x).top=0:=by rw [← aG];exact gC x
theorem sf {i:Nat} {x:TUnit} {l:List AV} (h:aY l=0):aY (gV i (eU x) l)=0:=fx.2 fun y hy=>by
  unfold gV at hy
  rcases iE.1 hy with h1 | h1
  · exact fx.1 h y (rW h1)
  · rcases fz.1 h1 with rfl | h1
    · exact LM x
    · exact fx.1 h y (MH h1)
theorem Js (i:Nat) (x:TUnit) (l:List TUnit):(vM i x l).map aK=gV i (eU x) (l.map aK):=by
  unfold vM gV
  rw [pw,ej,List.map_take,List.map_drop,aG]
theorem JR (i:Nat) (l:List TUnit):(l.eraseIdx i).map aK=(l.map aK).eraseIdx i:=by
  grind [List.eraseIdx_eq_take_drop_succ, List.map_take, List.map_drop]
theorem Bt {i:Nat} {x:TUnit} {l:List TUnit} (h:i≤l.length):(vM i x l).length=l.length+1:=by
  grind [vM]
theorem FX (l:List TUnit) (k:Nat):(l++List.replicate k bx).map aK=l.map aK++List.replicate k (aK bx):=by simp_all
theorem lm (k:Nat):aY (List.replicate k (aK bx))=0:=by rw [← List.map_replicate];exact aX gC _
/-- A kid is taken out. -/
theorem NZ (p:PId) (i:Nat) (u:TUnit) (hn:nU u≤2 ^ 19) (ht : ∀ x,x∈bc u→x.head.length<2 ^ 30∧x.words.length<2 ^ 30) (hv : ∀ v,v∈bc u→fL p v=true→i<v.kids.length) :
    aM Tryz.prog G 138 [eU u,aV p, .func (.func 236) [] [.pptr [.int .i64 (.ofNat i)] 0 0]] (eU (cS p (gP i) u)):=by
  refine n9 _ _ p (gP i) rfl u hn ht fun v hm hid=>?_
  have hi:=hv v hm hid
  have hkl:=bj v
  have hvu:=dA hm
  have hl:v.kids.length≤2 ^ 20:=by omega
  refine Se _ _ p v (gP i v) (v.kids.length - 1) (fun k=>zU::List.replicate k (aK bx)) (gF rfl v) hid hl (fun e=>by grind) (by show (v.kids.eraseIdx i).length=_;grind) fun k=>?_
  have h:=PO (v.kids.map aK) (List.replicate k (aK bx)) v.kids.length i hi (bH _) hl (Pd _) (jr (aX gC _) (lm k))
  rw [pb] at h
  have hT:aY ((v.kids.map aK).eraseIdx i++(zU::List.replicate k (aK bx)))=0:=jr (by rw [← JR];exact aX gC _) (by show Nat.mx zU.top (aY _)=0;rw [lm];rfl)
  rw [FX]
  show aD _ _ _ _ _ fun v1 h1=>v1 = .tuple []∧h1=aa [dh v (.slice 3 0 0 (v.kids.length - 1) (some (v.kids.length+k))),um p,zO,di ((v.kids.eraseIdx i).map aK++_)]
  rw [JR]
  refine ze rfl (jr (aX gC _) (lm k)) hT (Vs v v.kids.length _ i _ _ (jr (aX gC _) (lm k)) hT hi hl ?_)
  exact eR ip 1 (jr (aX gC _) (lm k)) hT h rfl rfl (by simp_all) (by kernel_rfl) (by kernel_rfl) (by kernel_rfl) (by kernel_rfl)
theorem Uj (x:TUnit) (t:Bool) (off len c:Nat) (X:List AV):kD 234 [.ps [eU x] t, .slice 0 0 off len (some c)] (aa [di X]) (.bool false) (aa [di X]):=
  Ab (tS:=29) (tR:=4) (e:=31) (n:=8) Tryz.func234 (by kernel_rfl) (by kernel_rfl) (by kernel_rfl) (by kernel_rfl) (by simp_all) (by kernel_rfl) (o3 _ _) (by kernel_rfl:(aa [di X]).get 0=some (.row 8 false 0 X))
/-- A kid laid into a row that has room. -/
theorem FU (L:List AV) (x:TUnit) (z:AV) (Z:List AV) (n k i:Nat) (hi:i≤n) (hn:L.length=n) (hs:n<2 ^ 20) (hk:Z.length=k) (hf:dc 8 L=true) (hT:aY (L++z::Z)=0):kD 140 [.slice 0 0 0 n (some (n+(k+1))),nV i, .ps [eU x] true] (aa [di (L++z::Z)]) (.slice 0 0 0 (n+1) (some (n+(k+1)))) (aa [di (gV i (eU x) L++Z)]):=by
  rcases fX i n with h | h
  · grind [OO, Su, Uj]
  · obtain rfl:i=n:=by omega
    exact OR L Z (eU x) z true i k hn hs hk (Su x)
theorem Fx (L:List AV) (x:TUnit) (n i:Nat) (hi:i≤n) (hn:L.length=n) (hs:n<2 ^ 20) (hf:dc 8 L=true) (hT:aY L=0):kD 140 [.slice 0 0 0 n (some n),nV i, .ps [eU x] true] (aa [di L]) (.ls (gV i (eU x) L)) (aa [di L]):=by
  rcases fX i n with h | h
  · refine ON L (eU x) true n i h hn hs (Su x) hf hT (fx.2 fun y hy=>?_) (sf hT)
    rcases iE.1 hy with h1 | h1
    · exact fx.1 hT y (rW h1)
    · rcases fz.1 h1 with rfl | h1
      · exact LM x
      · rw [(List.mem_replicate.1 h1).2];rfl
  · grind [OP, Su, sf]
/-- A kid is laid in. -/
theorem M9 (p:PId) (i:Nat) (x u:TUnit) (hn:nU u≤2 ^ 19) (ht : ∀ x,x∈bc u→x.head.length<2 ^ 30∧x.words.length<2 ^ 30) (hv : ∀ v,v∈bc u→fL p v=true→i≤v.kids.length) :
    aM Tryz.prog G 138 [eU u,aV p, .func (.func 139) [] [.pptr [.int .i64 (.ofNat i)] 0 0, .pptr [eU x] 0 0]] (eU (cS p (dF i x) u)):=by
  have hb:aY [.pptr [.int .i64 (.ofNat i)] 0 0, .pptr [eU x] 0 0]=0:=by kernel_rfl
  refine n9 _ _ p (dF i x) hb u hn ht fun v hm hid=>?_
  have hi:=hv v hm hid
  have hkl:=bj v
  have hvu:=dA hm
  have hl:v.kids.length<2 ^ 20:=by omega
  have hK:=aX gC v.kids
  by_cases h0:v.kids = []
  · rw [h0] at hi
    obtain rfl:i=0:=by simp_all
    have e:(dF 0 x v).kids = [x]:=by show vM 0 x v.kids = [x];rw [h0];rfl
    have e2:(dF 0 x v).kids.map aK = [eU x]:=by rw [e,ej,aG];rfl
    refine JB _ _ p v (dF 0 x v) (gF hb v) hid h0 ?_ ?_
    · rw [e2];exact jg (u2:=dF 0 x v) hb (by kernel_rfl) (by kernel_rfl) (UE v x [eU x] (Fz x true))
    · rw [e2];exact jg (u2:=dF 0 x v) hb (by kernel_rfl) (by kernel_rfl) (UD v x [eU x] (Fq x true))
  · have e2:(dF i x v).kids.map aK=gV i (eU x) (v.kids.map aK):=Js i x v.kids
    refine JA _ _ p v (dF i x v) (v.kids.length+1) (fun k=>List.replicate (k - 1) (aK bx)) (gF hb v) hid (by omega) h0 (Bt hi) (fun k hk=>?_) fun k hk=>?_
    · obtain rfl:k=0:=o5 hk
      rw [e2,FX,List.replicate_zero,ez]
      refine BR (u2:=dF i x v) hb hK (UF v x v.kids.length _ i _ _ hK ?_)
      exact eR ip 1 hK hK (Fx (v.kids.map aK) x v.kids.length i hi (bH _) hl (Pd _) hK) rfl rfl (by simp_all) (by kernel_rfl) (by kernel_rfl) (by kernel_rfl) (by kernel_rfl)
    · obtain ⟨j,rfl⟩ : ∃ j,k=j+1:=⟨k - 1,by grind [Nat.ne_of_beq_eq_false]⟩
      rw [e2,FX,show j+1 - 1=j from rfl,List.replicate_succ]
      have hT:aY (v.kids.map aK++aK bx::List.replicate j (aK bx))=0:=by rw [← List.replicate_succ];grind [jr, lm]
      have hT2:aY (gV i (eU x) (v.kids.map aK)++List.replicate j (aK bx))=0:=jr (sf hK) (lm _)
      refine ze (u2:=dF i x v) hb hT hT2 (UG v x v.kids.length _ i _ _ hT hT2 ?_)
      exact eR ip 1 hT hT2 (FU (v.kids.map aK) x (aK bx) (List.replicate j (aK bx)) v.kids.length j i hi (bH _) hl (pb ..) (Pd _) hT) rfl rfl (by simp_all) (by kernel_rfl) (by kernel_rfl) (by kernel_rfl) (by kernel_rfl)
/-- A kid is laid in. -/
theorem M7 (p:PId) (i:Nat) (x u:TUnit) (hn:nU u≤2 ^ 19) (ht : ∀ x,x∈bc u→x.head.length<2 ^ 30∧x.words.length<2 ^ 30) (hv : ∀ v,v∈bc u→fL p v=true→i≤v.kids.length) :
    aM Tryz.prog G 138 [eU u,aV p, .func (.func 150) [] [.pptr [.int .i64 (.ofNat i)] 0 0, .pptr [eU x] 0 0]] (eU (cS p (dF i x) u)):=by
  have hb:aY [.pptr [.int .i64 (.ofNat i)] 0 0, .pptr [eU x] 0 0]=0:=by kernel_rfl
  refine n9 _ _ p (dF i x) hb u hn ht fun v hm hid=>?_
  have hi:=hv v hm hid
  have hkl:=bj v
  have hvu:=dA hm
  have hl:v.kids.length<2 ^ 20:=by omega
  have hK:=aX gC v.kids
  by_cases h0:v.kids = []
  · rw [h0] at hi
    obtain rfl:i=0:=by simp_all
    have e:(dF 0 x v).kids = [x]:=by show vM 0 x v.kids = [x];rw [h0];rfl
    have e2:(dF 0 x v).kids.map aK = [eU x]:=by rw [e,ej,aG];rfl
    refine JB _ _ p v (dF 0 x v) (gF hb v) hid h0 ?_ ?_
    · rw [e2];exact jg (u2:=dF 0 x v) hb (by kernel_rfl) (by kernel_rfl) (Ug v x [eU x] (Fz x true))
    · rw [e2];exact jg (u2:=dF 0 x v) hb (by kernel_rfl) (by kernel_rfl) (Uf v x [eU x] (Fq x true))
  · have e2:(dF i x v).kids.map aK=gV i (eU x) (v.kids.map aK):=Js i x v.kids
    refine JA _ _ p v (dF i x v) (v.kids.length+1) (fun k=>List.replicate (k - 1) (aK bx)) (gF hb v) hid (by omega) h0 (Bt hi) (fun k hk=>?_) fun k hk=>?_
    · obtain rfl:k=0:=o5 hk
      rw [e2,FX,List.replicate_zero,ez]
      refine BR (u2:=dF i x v) hb hK (Uh v x v.kids.length _ i _ _ hK ?_)
      exact eR ip 1 hK hK (Fx (v.kids.map aK) x v.kids.length i hi (bH _) hl (Pd _) hK) rfl rfl (by simp_all) (by kernel_rfl) (by kernel_rfl) (by kernel_rfl) (by kernel_rfl)
    · obtain ⟨j,rfl⟩ : ∃ j,k=j+1:=⟨k - 1,by grind [Nat.ne_of_beq_eq_false]⟩
      rw [e2,FX,show j+1 - 1=j from rfl,List.replicate_succ]
      have hT:aY (v.kids.map aK++aK bx::List.replicate j (aK bx))=0:=by rw [← List.replicate_succ];grind [jr, lm]
      have hT2:aY (gV i (eU x) (v.kids.map aK)++List.replicate j (aK bx))=0:=jr (sf hK) (lm _)
      refine ze (u2:=dF i x v) hb hT hT2 (Ui v x v.kids.length _ i _ _ hT hT2 ?_)
      exact eR ip 1 hT hT2 (FU (v.kids.map aK) x (aK bx) (List.replicate j (aK bx)) v.kids.length j i hi (bH _) hl (pb ..) (Pd _) hT) rfl rfl (by simp_all) (by kernel_rfl) (by kernel_rfl) (by kernel_rfl) (by kernel_rfl)
theorem M4 (p:PId) (l:List PWord) (u:TUnit) (hn:nU u≤2 ^ 19) (ht : ∀ x,x∈bc u→x.head.length<2 ^ 30∧x.words.length<2 ^ 30) :
    kP 138 [eU u,aV p, .func (.func 143) [] [.pptr [.ls (l.map aQ)] 0 0]] (eU (cS p (lh l) u)):=by
  have hb:aY [.pptr [.ls (l.map aQ)] 0 0]=0:=by kernel_rfl
  refine n9 _ _ p (lh l) hb u hn ht fun v hm hid=>?_
  have hkl:=bj v
  have hvu:=dA hm
  exact xK _ _ p v ((lh l) v) (gF hb v) hid (by omega) (jg hb (by kernel_rfl) (by kernel_rfl) (Vp v l))
theorem M6 (p:PId) (l:List PWord) (u:TUnit) (hn:nU u≤2 ^ 19) (ht : ∀ x,x∈bc u→x.head.length<2 ^ 30∧x.words.length<2 ^ 30) :
    kP 138 [eU u,aV p, .func (.func 145) [] [.pptr [.ls (l.map aQ)] 0 0]] (eU (cS p (lh l) u)):=by
  have hb:aY [.pptr [.ls (l.map aQ)] 0 0]=0:=by kernel_rfl
  refine n9 _ _ p (lh l) hb u hn ht fun v hm hid=>?_
  have hkl:=bj v
  have hvu:=dA hm
  exact xK _ _ p v ((lh l) v) (gF hb v) hid (by omega) (jg hb (by kernel_rfl) (by kernel_rfl) (VO v l))
theorem NQ (p:PId) (l:List PWord) (u:TUnit) (hn:nU u≤2 ^ 19) (ht : ∀ x,x∈bc u→x.head.length<2 ^ 30∧x.words.length<2 ^ 30) :
    kP 138 [eU u,aV p, .func (.func 147) [] [.pptr [.ls (l.map aQ)] 0 0]] (eU (cS p (y6 l) u)):=by
  have hb:aY [.pptr [.ls (l.map aQ)] 0 0]=0:=by kernel_rfl
  refine n9 _ _ p (y6 l) hb u hn ht fun v hm hid=>?_
  have hkl:=bj v
  have hvu:=dA hm
  exact xK _ _ p v ((y6 l) v) (gF hb v) hid (by omega) (jg hb (by kernel_rfl) (by kernel_rfl) (Wh v l))
theorem M5 (p:PId) (d:PDeed) (u:TUnit) (hn:nU u≤2 ^ 19) (ht : ∀ x,x∈bc u→x.head.length<2 ^ 30∧x.words.length<2 ^ 30) :
    kP 138 [eU u,aV p, .func (.func 149) [] [.pptr [az d] 0 0]] (eU (cS p (qm d.it.label) u)):=by
  have hb:aY [.pptr [az d] 0 0]=0:=by kernel_rfl
  refine n9 _ _ p (qm d.it.label) hb u hn ht fun v hm hid=>?_
  have hkl:=bj v
  have hvu:=dA hm
  exact xK _ _ p v ((qm d.it.label) v) (gF hb v) hid (by omega) (jg hb (by kernel_rfl) (by kernel_rfl) (VM v d))
end Go.Proofs.YtempcdhknnjebaaGreatDoor
