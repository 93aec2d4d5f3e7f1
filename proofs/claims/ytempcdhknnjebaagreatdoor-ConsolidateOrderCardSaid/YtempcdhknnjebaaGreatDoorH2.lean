/- Functions walked: what each of them answers, for the law of order: part 2. Conditions: those that each theorem names. -/
import Derived.Test.YtempcdhknnjebaaGreatDoorH1
namespace Go.Proofs.YtempcdhknnjebaaGreatDoor
open Go Go.Ev
theorem km (u:TUnit) (s:PStep):kP 260 [eU u,ax s] (.bool (bi s u)):=by
  have rr0 b' (h:(bi s u)=b':=by (simp only [bi,aT,aS,ak,bS, *];first | done | rfl)):=h;exact bo Tryz.func260<|Kb 8 (ae u.kind s.kind) (fun a=>Kt 0 a<|Kt 0 a<|Kt 0 a<|Kt 0 a<|Ku 0 a<|Kf 0<|ca<|rr0<|dM u.label s.label) fun a=>Mh a<|Mh a<|Mh a<|Mh a<|My a<|Ky 0<|rr0 false
noncomputable abbrev jx (p:List PStep):AObj:= .row 1 false 0 [.ls (p.map ax)]
noncomputable abbrev Dt (ep n:Nat):AObj:= .row 1 false 0 [.slice 2 ep 0 n none]
noncomputable abbrev Au (ep:Nat) (l:List TUnit):AObj:= .row 8 true ep (l.map aK)
noncomputable abbrev LM:AObj:= .row 1 false 0 [.nils]
theorem B8 (s:PStep) (rs:List PStep) (u:TUnit) (h:By (bi s u) false):kD 259 [eU u, .ptr 0 0 0 0, .ptr 1 0 0 0] (aa [jx (s::rs),LM]) (.tuple []) (aa [jx (s::rs),LM]):=by
  have h':bi s u=false:=h
  exact fN Tryz.func259 fun a=>Kp 4 (km u s)<|Mh h'<|M1 (.frz 2 []) (bT rt rt ti)<|Mf a
theorem Iw (s:PStep) (rs:List PStep) (u:TUnit) (h:By (bi s u) true):kD 259 [eU u, .ptr 0 0 0 0, .ptr 1 0 0 0] (aa [jx (s::rs),LM]) (.tuple []) (aa [jx (s::rs),Dt 0 1,Au 0 [u]]):=by
  have h':bi s u=true:=h
  exact Rp Tryz.func259<|Kp 4 (km u s)<|Mt h'<|Mg 7<|M0 (.ren [0,1,3,2] [] [])<|M1 (.frz 3 []) (j4 rt rt rt ti)<|Mf<|et (aY<|cj []) (by (simp only [Au,eW,vB,aI];rfl):(aa [AObj.row 1 false 0 [AV.ls ((s::rs).map ax)],AObj.row 1 false 0 [AV.slice 2 0 0 1 none],AObj.row 8 true 0 [AV.agg [iV u.act,iV u.item,iV u.n,iV u.kind,AV.str u.label,AV.ls (u.head.map aQ),AV.ls (u.words.map aQ),AV.ls (u.kids.map aK)]]])=(aa [jx (s::rs),Dt 0 1,Au 0 [u]]))
theorem MJ (s:PStep) (rs:List PStep) (u:TUnit) (ep n:Nat) (l:List TUnit) (h:By (bi s u) false):kD 259 [eU u, .ptr 0 0 0 0, .ptr 1 0 0 0] (aa [jx (s::rs),Dt ep n,Au ep l]) (.tuple []) (aa [jx (s::rs),Dt ep n,Au ep l]):=by
  have h':bi s u=false:=h
  exact fN Tryz.func259 fun a=>Kp 4 (km u s)<|Mh h'<|M1 (.frz 3 []) (j4 (tR 8 true ep 3<|aX gH l) rt rt ti)<|Mf a
theorem MK (s:PStep) (rs:List PStep) (u:TUnit) (ep n:Nat) (l:List TUnit) (h:By (bi s u) true) (hn:n=l.length) (hl:l.length<2 ^ 30):kD 259 [eU u, .ptr 0 0 0 0, .ptr 1 0 0 0] (aa [jx (s::rs),Dt ep n,Au ep l]) (.tuple []) (aa [jx (s::rs),Dt (ep+1) (n+1),Au (ep+1) (l++ [u])]):=by
  have h':bi s u=true:=h
  let q:= [iV 0,iV 0,iV 0,iV 0,aw [],af,af,af];let q1:=List.map aK l++ [ay q];exact fN Tryz.func259 fun a=>Kp 4 (km u s)<|Mt h'<|Mg 3<|Mw (.apx q1<|.rix<|.rst (ay q) ((l++ [u]).map aK)<|.go 0<|.frz 3 [] .fin)<|Tt rt (eC (tR 8 true ep 4<|aX gH l) rt) (et (kX _ _:([ay q]:List AV)≠ []) rt) (et (bT (aY ep) (sA:n=(l.map aK).length) (by (refine aA (m:=2 ^ 31) ?_ ?_ ?_ <;> (try simp only [lC,lN]) <;> omega):small (n+([AV.agg [iV 0,iV 0,iV 0,iV 0,AV.str [],AV.nils,AV.nils,AV.nils]]).length) 120=true))<|aY q1) (et (aY<|ep+1) (oA:n<n+1)) rt (eC (tR 8 true (ep+1) 4 (by exact UP _ rfl:aq q1=0)) rt) (bT (aY<|ep+1) (O7 (f:=aK) (l:=l) (z:=ay q) (oA:n=(l).length))<|Ox (f:=aK) (g:=Go.Ev.eU) aI (l:=l) (z:=ay q) (w:=u) (oA:n=(l).length)) (j4 (tR 8 true (ep+1) 3<|aX gH<|l++ [u]) rt rt ti) a
theorem Gm (s:PStep) (rs:List PStep) : ∀ (u:TUnit),∀ (ep n:Nat) (l:List TUnit),n=l.length→l.length+nU u<2 ^ 30→kC 258 [eU u, .func (.func 259) [] [.ptr 0 0 0 0, .ptr 1 0 0 0]] (aa [jx (s::rs),Dt ep n,Au ep l])
    (fun v h=>∃ y:Nat × Nat × List TUnit,(y.2.1=y.2.2.length∧y.2.2=l++kH s u)∧v = .tuple []∧h=aa [jx (s::rs),Dt y.1 y.2.1,Au y.1 y.2.2]):=by
  refine TUnit.ind fun u ih ep n l hn hl=>?_
  have hq:=iP u
  have hkl:=ba u
  have hp:=ym s u
  rcases Bool.eq_false_or_eq_true (bi s u) with hc | hc
  · rw [hc] at hp
    exact pB Tryz.func258 fun a=>K1 2 (.frz 3 [1,2,6,7]) (j4 (tR 8 true ep 3<|aX gH l) rt rt ti)<|Me (MK s rs u ep n l hc hn oA)<|Kl 2 11 (ln aK u.kids)<|Mg 0<|Uj aK u.kids (ep+1) (n+1) (l++ [u]) [1,10,11,12] (fun a _ b c d=>([bJ (bW 259) [] [bK 0 0 0 0,bK 1 0 0 0],aW<|u.kids.map aK,nV u.kids.length,nV a],[aZ 1 false 0 [aW<|(s::rs).map ax],aZ 1 false 0 [aD 2 b 0 c none],aZ 8 true b<|d.map aK])) (fun a _ b c=>b=c.length∧c++dW s a=l++ [u]++dW s u.kids∧c.length+dP a<2 ^ 30) gR (fun _ _ b c d _ _ _ e _=>Kh 0 e<|Mf<|a (b,c,d)<|by grind [mc]) fun a _ b c d e f g i j k m _ o _=>have o:=(o).trans<|congrArg some<|aI g;have :=cD (J:=fun a b=>b.2.1=b.2.2.length∧b.2.2++dW s a=l++ [u]++dW s u.kids∧b.2.2.length+dP a<2 ^ 30) (a:=(b,c,d)) k f;have e:=aR e k;have f:d.length+nU g<2 ^ 30:=(by grind [bc]);Kt 0 m<|Mx o<|K1 4 (.frz 3 [1,10,11,12,16,17]) (j4 (tR 8 true b 3<|aX gH d) rt rt ti)<|Mq (ih g e b c d oA f) fun b _=>Kl 0 19 (dg a)<|Kf 0<|j b.1 b.2.1 b.2.2<|by grind [bc, gd, mQ]
  · rw [hc] at hp
    exact pB Tryz.func258 fun a=>K1 2 (.frz 3 [1,2,6,7]) (j4 (tR 8 true ep 3<|aX gH l) rt rt ti)<|Me (MJ s rs u ep n l hc)<|Kl 2 11 (ln aK u.kids)<|Mg 0<|Uj aK u.kids ep n l [1,10,11,12] (fun a _ b c d=>([bJ (bW 259) [] [bK 0 0 0 0,bK 1 0 0 0],aW<|u.kids.map aK,nV u.kids.length,nV a],[aZ 1 false 0 [aW<|(s::rs).map ax],aZ 1 false 0 [aD 2 b 0 c none],aZ 8 true b<|d.map aK])) (fun a _ b c=>b=c.length∧c++dW s a=l++dW s u.kids∧c.length+dP a<2 ^ 30) gR (fun _ _ b c d _ _ _ e _=>Kh 0 e<|Mf<|a (b,c,d)<|by grind [mc]) fun a _ b c d e f g i j k m _ o _=>have o:=(o).trans<|congrArg some<|aI g;have :=cD (J:=fun a b=>b.2.1=b.2.2.length∧b.2.2++dW s a=l++dW s u.kids∧b.2.2.length+dP a<2 ^ 30) (a:=(b,c,d)) k f;have e:=aR e k;have f:d.length+nU g<2 ^ 30:=(by grind [bc]);Kt 0 m<|Mx o<|K1 4 (.frz 3 [1,10,11,12,16,17]) (j4 (tR 8 true b 3<|aX gH d) rt rt ti)<|Mq (ih g e b c d oA f) fun b _=>Kl 0 19 (dg a)<|Kf 0<|j b.1 b.2.1 b.2.2<|by grind [bc, gd, mQ]
theorem Gn (s:PStep) (rs:List PStep) : ∀ (u:TUnit),nU u≤2 ^ 20→By (kH s u).isEmpty true→kD 258 [eU u, .func (.func 259) [] [.ptr 0 0 0 0, .ptr 1 0 0 0]] (aa [jx (s::rs),LM]) (.tuple []) (aa [jx (s::rs),LM]):=by
  refine TUnit.ind fun u ih hn he=>?_
  have hkl:=ba u
  have hp:=ym s u
  have he':=List.isEmpty_iff.1 (show (kH s u).isEmpty=true from he)
  rw [he'] at hp
  rcases Bool.eq_false_or_eq_true (bi s u) with hc | hc
  · grind
  · rw [hc] at hp
    have hp:dW s u.kids = []:=hp.symm
    exact fN Tryz.func258 fun a=>K1 2 (.frz 2 [1,2,6,7]) (bT rt rt ti)<|Me (B8 s rs u hc)<|Kl 2 11 (ln aK u.kids)<|Mg 0<|sl aK u.kids [1,10,11,12] (fun a _=>([bJ (bW 259) [] [bK 0 0 0 0,bK 1 0 0 0],aW<|u.kids.map aK,nV u.kids.length,nV a],[aZ 1 false 0 [aW<|(s::rs).map ax],aZ 1 false 0 [af]])) (fun a=>dW s a= []) oA (fun _ _ _ _ _ b _=>Kh 0 b<|Mf a) fun a _ b _ c d e f g _ h i=>have h:=h.trans<|congrArg some<|aI c;have j:=aR b f;have b:=bH (sm<|g9<|aR b f) hn;have f:(kH s c).isEmpty=true:=(by rw [gd] at i;rw [(List.append_eq_nil_iff.1 i).1];rfl);Kt 0 g<|Mx h<|K1 4 (.frz 2 [1,10,11,12,16,17]) (bT rt rt ti)<|Me (ih c j b f)<|Kl 0 19 (dg a)<|Kf 0<|e<|by grind [gd]
theorem Qm (s:PStep) (rs:List PStep) : ∀ (u:TUnit),nU u≤2 ^ 20→By (kH s u).isEmpty false→kC 258 [eU u, .func (.func 259) [] [.ptr 0 0 0 0, .ptr 1 0 0 0]] (aa [jx (s::rs),LM])
    (fun v h=>∃ y:Nat × Nat × List TUnit,(y.2.1=y.2.2.length∧y.2.2=kH s u)∧v = .tuple []∧h=aa [jx (s::rs),Dt y.1 y.2.1,Au y.1 y.2.2]):=by
  refine TUnit.ind fun u ih hn he=>?_
  have hq:=iP u
  have hkl:=ba u
  have hp:=ym s u
  rcases Bool.eq_false_or_eq_true (bi s u) with hc | hc
  · rw [hc] at hp
    exact pB Tryz.func258 fun a=>K1 2 (.frz 2 [1,2,6,7]) (bT rt rt ti)<|Me (Iw s rs u hc)<|Kl 2 11 (ln aK u.kids)<|Mg 0<|Uj aK u.kids (0:Nat) (1:Nat) ([u]:List TUnit) [1,10,11,12] (fun a _ b c d=>([bJ (bW 259) [] [bK 0 0 0 0,bK 1 0 0 0],aW<|u.kids.map aK,nV u.kids.length,nV a],[aZ 1 false 0 [aW<|(s::rs).map ax],aZ 1 false 0 [aD 2 b 0 c none],aZ 8 true b<|d.map aK])) (fun a _ b c=>b=c.length∧c++dW s a= [u]++dW s u.kids∧c.length+dP a<2 ^ 30) gR (fun _ _ b c d _ _ _ e _=>Kh 0 e<|Mf<|a (b,c,d)<|by grind [mc]) fun a _ b c d e f g i j k l _ m _=>have m:=(m).trans<|congrArg some<|aI g;have :=cD (J:=fun a b=>b.2.1=b.2.2.length∧b.2.2++dW s a= [u]++dW s u.kids∧b.2.2.length+dP a<2 ^ 30) (a:=(b,c,d)) k f;have :=aR e k;have e:d.length+nU g<2 ^ 30:=(by grind [bc]);Kt 0 l<|Mx m<|K1 4 (.frz 3 [1,10,11,12,16,17]) (j4 (tR 8 true b 3<|aX gH d) rt rt ti)<|Mq (Gm s rs g b c d oA e) fun b _=>Kl 0 19 (dg a)<|Kf 0<|j b.1 b.2.1 b.2.2<|by grind [bc, gd, mQ]
  · rw [hc] at hp
    have hne:dW s u.kids≠ []:=fun e=>by
      simp_all
    exact pB Tryz.func258 fun a=>K1 2 (.frz 2 [1,2,6,7]) (bT rt rt ti)<|Me (B8 s rs u hc)<|Kl 2 11 (ln aK u.kids)<|Mg 0<|kQ Nat Nat (List TUnit) aK u.kids [1,10,11,12] (fun a _=>([bJ (bW 259) [] [bK 0 0 0 0,bK 1 0 0 0],aW<|u.kids.map aK,nV u.kids.length,nV a],[aZ 1 false 0 [aW<|(s::rs).map ax],aZ 1 false 0 [af]])) (fun a _ b c d=>([bJ (bW 259) [] [bK 0 0 0 0,bK 1 0 0 0],aW<|u.kids.map aK,nV u.kids.length,nV a],[aZ 1 false 0 [aW<|(s::rs).map ax],aZ 1 false 0 [aD 2 b 0 c none],aZ 8 true b<|d.map aK])) (fun a=>a≠[]∧dW s a=dW s u.kids) (fun a _ b c=>b=c.length∧c++dW s a=dW s u.kids∧c.length+dP a<2 ^ 30) (by (exact ⟨Jr rfl hne,rfl⟩)) (fun _ _ _ _ _ _ _=>Mw .abs (sA:False)) (fun a _ b c d f g i j k _ l _=>have l:=(l).trans<|congrArg some<|aI d;have :=cD (J:=fun a _=>a≠[]∧dW s a=dW s u.kids) (a:=()) j c;have c:=aR b j;have m:=bH (sm<|g9<|aR b j) hn;have :nU d+dP f≤2 ^ 20:=(by have z:=oc b j;omega);Kt 0 k<|Mx l<|K1 4 (.frz 2 [1,10,11,12,16,17]) (bT rt rt ti)<|Ms (kH s d).isEmpty (fun b=>Me (Gn s rs d m b)<|Kl 0 19 (dg a)<|Kf 0<|g<|by (have e:dW s f=dW s u.kids:=(by grind [gd]);exact ⟨Jr e hne,e⟩)) fun b=>Mq (ih d c m b) fun b _=>Kl 0 19 (dg a)<|Kf 0<|i b.1 b.2.1 b.2.2<|by grind [gd, mQ]) (fun _ _ b c d _ _ _ f g=>Kh 0 f<|Mf<|a (b,c,d)<|by (refine ⟨g.1,?_⟩;have:=g.2.1;rw [mc,eX] at this;simp_all)) fun a _ b c d f g i j _ k l m _ n _=>have n:=(n).trans<|congrArg some<|aI i;have :=cD (J:=fun a b=>b.2.1=b.2.2.length∧b.2.2++dW s a=dW s u.kids∧b.2.2.length+dP a<2 ^ 30) (a:=(b,c,d)) l g;have :=aR f l;have :=bH (sm<|g9<|aR f l) hn;have :nU i+dP j≤2 ^ 20:=(by have z:=oc f l;omega);Kt 0 m<|Mx n<|K1 4 (.frz 3 [1,10,11,12,16,17]) (j4 (tR 8 true b 3<|aX gH d) rt rt ti)<|Mq (Gm s rs i b c d oA<|by grind [bc]) fun b _=>Kl 0 19 (dg a)<|Kf 0<|k b.1 b.2.1 b.2.2<|by grind [gd, mQ]
theorem Tg (u:TUnit) (hb:kq []=true):kP 182 [eU u, .ls (([]:List PStep).map ax)] (.ls ((dL u []).map aK)):=by
  have hv:=ue [] (by simp) (fun s h=>by grind)
  rw [F3 hb]
  have rr0 b' (h:(List.map aK [u])=b':=by (rw [eW,aI];rfl)):=h;let q:= [ay [iV u.act,iV u.item,iV u.n,iV u.kind,aw u.label,aW (u.head.map aQ),aW (u.words.map aQ),aW (u.kids.map aK)]];exact bo Tryz.func182<|Kp 3 hv<|Kf 10 (Le.lsp (rr0 q)<|by rfl:Le _ (AV.ps q true))
def F6 (u:TUnit) (s:PStep) (rs:List PStep) (z1000:List TUnit):Prop:=dL u (s::rs)=gY rs z1000∧dP z1000≤2 ^ 22
noncomputable def F5 (u:TUnit) (s:PStep) (rs:List PStep) (z1000:List TUnit):List AV × List AObj:=([AV.ptr 0 0 0 0,AV.ptr 1 0 0 0], [AObj.row 1 false 0 [AV.ls ((s::rs).map ax)],AObj.row 1 false 0 [AV.ls (z1000.map aK)]])
theorem P8 (u:TUnit) (s:PStep) (rs:List PStep) (hn:nU u≤2 ^ 11) (hl:(s::rs).length<2 ^ 40) (hs : ∀ x,x∈s::rs→x.label.length≤2 ^ 39):kP 182 [eU u, .ls ((s::rs).map ax)] (.ls ((dL u (s::rs)).map aK)):=by
  have hv:=ue (s::rs) hl hs
  have hk:=G9 s
  have hpb:=FV s u fun x hx=>dD hx
  have hpm:nU u * nU u≤2 ^ 11 * 2 ^ 11:=Nat.mul_le_mul hn hn
  have hd:((s::rs).drop 1).length=rs.length:=rfl
  have rr0 b' (h:((dL u (s::rs)).map aK)=b':=by first | rfl | (rw [Ik ‹_›];rfl) | (rw [hj0.1,Hi])):=h;exact bo Tryz.func182<|Kp 3 hv<|Kn 0 (kq<|s::rs) (fun _=>Kf 0 (Le.lsn<|rr0 []:Le _ (af))) fun _=>Mg 0<|Mj (List TUnit) [3,5] (F5 u s rs) (F6 u s rs) (fun a=>Kl 1 21 (ln ax<|s::rs)<|Kp 5 hk<|Kb 0 (ae s.kind 0 && dM s.label []) (fun _=>Kl 1 31 (Le.lsp (t:=true) (Eq.symm<|S0 (f:=aK) (g:=Go.Ev.eU) (ws:=[u]) aI) (aY 0:aq ([ay [iV u.act,iV u.item,iV u.n,iV u.kind,aw u.label,aW (u.head.map aQ),aW (u.words.map aQ),aW (u.kids.map aK)]])=0))<|Mg 0<|M0 (.ren [1,2,0] [] [3,5])<|M1 (.frz 2 [3,5]) (bT rt rt ti)<|Mf<|a [u] (by exact ⟨F4 (by omega) (by assumption),by grind [bc, lF]⟩:dL u (s::rs)=gY rs [u]∧dP [u]≤2 ^ 22)) fun _=>Mg 1<|M0 (.ren [1,2,0] [] [3,5,16,17])<|M1 (.frz 2 [3,5,16,17]) (bT rt rt ti)<|Ms (kH s u).isEmpty (fun b=>Me (Gn s rs u oA b)<|M1 (.obw 1<|aW []) (VU bA rfl rfl)<|Mf<|a [] (by exact ⟨by rw [wb (by omega) (by assumption),List.isEmpty_iff.1 b],by grind⟩:dL u (s::rs)=gY rs []∧dP []≤2 ^ 22)) fun b=>Mq (Qm s rs u oA b) fun b c=>M2 (.fzo 1 2 [3,5]<|b.2.2.map aK) (bT rt rt ti) (bT (aY b.1) (tA aK b.2.2 b.2.1 (oA:(b.2.2).length=b.2.1))<|aX gH b.2.2)<|Mf<|a b.2.2 (by exact ⟨by rw [wb (by omega) (by assumption),c.2],by grind⟩:dL u (s::rs)=gY rs b.2.2∧dP b.2.2≤2 ^ 22)) fun a b=>have :dL u (s::rs)=gY rs a∧dP a≤2 ^ 22:=b;K1 0 (.slp<|((s::rs).drop 1).map ax) (bT (hM 2 ax (s::rs) fun _=>rfl) (et (sA:1≤((s::rs).map ax).length) (oA:((s::rs).map ax).length≤((s::rs).map ax).length))<|OU (f:=ax) (l:=s::rs) (k:=1))<|Kl 0 34 (ln ax<|List.drop 1<|s::rs)<|Mg 0<|M0 (.ren [1,0] [] [5,33,34,35])<|M1 (.frz 1 [5,33,34,35]) (et rt ti)<|Nl ax (List.drop 1<|s::rs) a [5,33,34,35] (fun a _ b=>([bK 0 0 0 0,aW<|((s::rs).drop 1).map ax,nV ((s::rs).drop 1).length,nV a],[aZ 1 false 0 [aW<|b.map aK]])) (fun a b=>dL u (s::rs)=gY a b∧dP b≤2 ^ 22) sA (fun _ _ a _ _ _ b hj0=>Kh 0 b<|Kf 1<|cJ<|rr0<|a.map aK) fun a _ b _ _ c d e _ f _ g hj0=>have :b.length≤dP b:=xl _;Kt 0 f<|Mx g<|Kl 5 40 (ln aK b)<|Mg 0<|kQ Nat Nat (List TUnit) aK b [5,7,8,33,34,35,39,40,41] (fun d _=>([bK 0 0 0 0,bK 1 0 0 0,af,aW<|((s::rs).drop 1).map ax,nV ((s::rs).drop 1).length,nV a,aW<|b.map aK,nV b.length,nV d],[aZ 1 false 0 [aW<|b.map aK],aZ 2 false 0 [ay [iV c.kind,aw c.label]]])) (fun d _ e f g=>([bK 0 0 0 0,bK 1 0 0 0,aD 2 e 0 f none,aW<|((s::rs).drop 1).map ax,nV ((s::rs).drop 1).length,nV a,aW<|b.map aK,nV b.length,nV d],[aZ 1 false 0 [aW<|b.map aK],aZ 2 false 0 [ay [iV c.kind,aw c.label]],aZ 8 true e<|g.map aK])) (fun a=>cb c a=cb c b) (fun a _ d e=>d=e.length∧e++cb c a=cb c b∧e.length+dP a<2 ^ 30) (by rfl) (fun _ _ _ _ _ b c=>Kh 0 b<|Kl 0 61 bA<|Kl 1 62 (dg a)<|K1 0 (.frz 1 [5,33,34,35]) (et rt ti)<|Mf<|e []<|by exact fA hj0 c) (fun d _ e f g i j k l n _ o _=>have p:=(o).trans<|congrArg some<|aI g;have :=cD (J:=fun a _=>cb c a=cb c b) (a:=()) l f;have :nU g+dP i≤dP b:=oc e l;have :g.kids.length<nU g:=ba g;have :nU g=1+dP g.kids:=iP g;Kt 0 n<|Mx p<|Kl 5 47 (ln aK g.kids)<|K1 0 (.frz 2 [5,7,8,33,34,35,39,40,41,46,47,48]) (bT rt rt ti)<|kQ Nat Nat (List TUnit) aK g.kids [5,7,8,33,34,35,39,40,41,46,47,48] (fun e _=>([bK 0 0 0 0,bK 1 0 0 0,af,aW<|((s::rs).drop 1).map ax,nV ((s::rs).drop 1).length,nV a,aW<|b.map aK,nV b.length,nV d,aW<|g.kids.map aK,nV g.kids.length,nV e],[aZ 1 false 0 [aW<|b.map aK],aZ 2 false 0 [ay [iV c.kind,aw c.label]]])) (fun e _ f i j=>([bK 0 0 0 0,bK 1 0 0 0,aD 2 f 0 i none,aW<|((s::rs).drop 1).map ax,nV ((s::rs).drop 1).length,nV a,aW<|b.map aK,nV b.length,nV d,aW<|g.kids.map aK,nV g.kids.length,nV e],[aZ 1 false 0 [aW<|b.map aK],aZ 2 false 0 [ay [iV c.kind,aw c.label]],aZ 8 true f<|j.map aK])) (fun a=>List.filter (bi c) a++cb c i=cb c b) (fun a _ d e=>d=e.length∧e++(List.filter (bi c) a++cb c i)=cb c b∧e.length+(dP a+dP i)<2 ^ 30) (by simp_all [gA]) (fun _ _ _ _ _ a _=>Kh 0 a<|Kl 0 60 (dg d)<|Kf 0<|j sA) (fun a _ d e f j k l n p _ o _=>have o:=(o).trans<|congrArg some<|aI f;have :=cD (J:=fun a _=>List.filter (bi c) a++cb c i=cb c b) (a:=()) n e;have :nU f+dP j≤dP g.kids:=oc d n;Kt 0 p<|Mx o<|Kp 4 (km f c)<|Mb (bi c f) (fun _=>K1 3 (.obj 3<|aZ 8 true 0<|List.map aK [f]) (congrArg (aZ 8 true 0)<|S0 (f:=aK) (g:=Go.Ev.eU) (ws:=[f]) aI)<|Kl 1 59 (dg a)<|K1 0 (.ren [0,1,3,2] [3] [5,7,8,33,34,35,39,40,41,46,47,48]) (tS 8 true 0<|aX gH [f])<|M1 (.frz 3 [5,7,8,33,34,35,39,40,41,46,47,48]) (j4 (tR 8 true 0 3<|aX gH [f]) rt rt ti)<|Mf<|l 0 1 [f] gR) fun _=>Kl 0 59 (dg a)<|K1 0 (.frz 2 [5,7,8,33,34,35,39,40,41,46,47,48]) (bT rt rt ti)<|Mf<|k sA) (fun _ _ a e f _ _ _ g _=>Kh 0 g<|Kl 0 60 (dg d)<|Kf 0<|k a e f gR) fun a _ d e f j k l n _ p q r _ o _=>have o:=(o).trans<|congrArg some<|aI l;have k:=cD (J:=fun a d=>d.2.1=d.2.2.length∧d.2.2++(List.filter (bi c) a++cb c i)=cb c b∧d.2.2.length+(dP a+dP i)<2 ^ 30) (a:=(d,e,f)) q k;have :nU l+dP n≤dP g.kids:=oc j q;Kt 0 r<|Mx o<|Kp 4 (km l c)<|Mb (bi c l) (fun _=>K1 2 .app (bT (aY d) (sA:e=(f.map aK).length) (by (refine aA (m:=2 ^ 31) ?_ ?_ ?_ <;> omega):small (e+1) 120=true))<|M1 (.obj 2<|aZ 8 true (d+1)<|(f++ [l]).map aK) (congrArg (aZ 8 true<|d+1)<|xn (f:=aK) (g:=Go.Ev.eU) (l:=f) (ws:=[l]) aI)<|Kl 1 59 (dg a)<|K1 0 (.frz 3 [5,7,8,33,34,35,39,40,41,46,47,48]) (j4 (tR 8 true (d+1) 3<|aX gH<|f++ [l]) rt rt ti)<|Mf<|p (d+1) (e+1) (f++ [l])<|by exact Ys k (by omega)) fun _=>Kl 0 59 (dg a)<|K1 0 (.frz 3 [5,7,8,33,34,35,39,40,41,46,47,48]) (j4 (tR 8 true d 3<|aX gH f) rt rt ti)<|Mf<|p d e f<|by exact Up k (by omega)) (fun _ _ b c f _ _ _ g i=>let j:=List.map aK f;Kh 0 g<|Mg 0<|M2 (.fsl 2 [5,33,34,35] 61 j) (bT rt rt ti) (bT (aY b) (tA aK f c (oA:(f).length=c))<|aX gH f)<|Ml 61 (fK j false<|aX gH f)<|Kl 1 62 (dg a)<|K1 0 (.frz 1 [5,33,34,35]) (et rt ti)<|Mf<|e f<|by exact fB hj0 i.2.1) fun d _ e f g i j k l _ n o p _ q _=>have r:=(q).trans<|congrArg some<|aI k;have j:=cD (J:=fun a d=>d.2.1=d.2.2.length∧d.2.2++cb c a=cb c b∧d.2.2.length+dP a<2 ^ 30) (a:=(e,f,g)) o j;have :nU k+dP l≤dP b:=oc i o;have :k.kids.length<nU k:=ba k;have :nU k=1+dP k.kids:=iP k;Kt 0 p<|Mx r<|Kl 5 47 (ln aK k.kids)<|K1 0 (.frz 3 [5,7,8,33,34,35,39,40,41,46,47,48]) (j4 (tR 8 true e 3<|aX gH g) rt rt ti)<|Uj aK k.kids e f g [5,7,8,33,34,35,39,40,41,46,47,48] (fun e _ f g i=>([bK 0 0 0 0,bK 1 0 0 0,aD 2 f 0 g none,aW<|((s::rs).drop 1).map ax,nV ((s::rs).drop 1).length,nV a,aW<|b.map aK,nV b.length,nV d,aW<|k.kids.map aK,nV k.kids.length,nV e],[aZ 1 false 0 [aW<|b.map aK],aZ 2 false 0 [ay [iV c.kind,aw c.label]],aZ 8 true f<|i.map aK])) (fun a _ d e=>d=e.length∧e++(List.filter (bi c) a++cb c l)=cb c b∧e.length+(dP a+dP l)<2 ^ 30) (by (exact gB j)) (fun _ _ a e f _ _ _ g _=>Kh 0 g<|Kl 0 60 (dg d)<|Kf 0<|n a e f gR) fun a _ d e f g i j n o p r _ q _=>have q:=(q).trans<|congrArg some<|aI j;have i:=cD (J:=fun a d=>d.2.1=d.2.2.length∧d.2.2++(List.filter (bi c) a++cb c l)=cb c b∧d.2.2.length+(dP a+dP l)<2 ^ 30) (a:=(d,e,f)) p i;have :nU j+dP n≤dP k.kids:=oc g p;Kt 0 r<|Mx q<|Kp 4 (km j c)<|Mb (bi c j) (fun _=>K1 2 .app (bT (aY d) (sA:e=(f.map aK).length) (by (refine aA (m:=2 ^ 31) ?_ ?_ ?_ <;> omega):small (e+1) 120=true))<|M1 (.obj 2<|aZ 8 true (d+1)<|(f++ [j]).map aK) (congrArg (aZ 8 true<|d+1)<|xn (f:=aK) (g:=Go.Ev.eU) (l:=f) (ws:=[j]) aI)<|Kl 1 59 (dg a)<|K1 0 (.frz 3 [5,7,8,33,34,35,39,40,41,46,47,48]) (j4 (tR 8 true (d+1) 3<|aX gH<|f++ [j]) rt rt ti)<|Mf<|o (d+1) (e+1) (f++ [j])<|by exact Ys i (by omega)) fun _=>Kl 0 59 (dg a)<|K1 0 (.frz 3 [5,7,8,33,34,35,39,40,41,46,47,48]) (j4 (tR 8 true d 3<|aX gH f) rt rt ti)<|Mf<|o d e f<|by exact Up i (by omega)
theorem Tf (u:TUnit) (p:List PStep) (hn:nU u≤2 ^ 11) (hl:p.length<2 ^ 40) (hs : ∀ x,x∈p→x.label.length≤2 ^ 39):kP 182 [eU u, .ls (p.map ax)] (.ls ((dL u p).map aK)):=by
  cases p with
  | nil=>exact Tg u rfl
  | cons s rs=>grind [P8]
theorem Mu (u:TUnit) (p:List PStep) (L:List TUnit) (hf:kP 182 [eU u, .ls (p.map ax)] (.ls (L.map aK))) (hL:L.length≤2 ^ 22):kP 85 [eU u, .ls (p.map ax)] (.ls ((L.map bY).map aV)):=by
  have rr0 b' (h:((L.map bY).map aV)=b':=by first | rfl | (rw [← hj0];rfl) | (rw [← hj0.2.2.1];simp)):=h;exact bo Tryz.func85<|Kp 4 hf<|Kl 0 11 (ln aK L)<|K1 0 (.frz 0 [5,10,11,12]) ti<|kQ Nat Nat (List PId) aK L [5,10,11,12] (fun a _=>([af,aW<|L.map aK,nV L.length,nV a],[])) (fun a _ b c d=>([aD 0 b 0 c none,aW<|L.map aK,nV L.length,nV a],[aZ 3 true b<|d.map aV])) (fun a=>a=L) (fun a _ b c=>b=c.length∧(0:Nat)<c.length∧c++List.map bY a=List.map bY L∧c.length+a.length=L.length) (by rfl) (fun _ _ _ _ _ a hj0=>Kh 0 a<|Kf 1 (Le.lsn<|rr0 []:Le _ (af))) (fun a _ _ b c d _ e f g _ i _=>have i:=(i).trans<|congrArg some<|aI c;have hj0:=cD (J:=fun a _=>a=L) (a:=()) f b;Kt 0 g<|Mx i<|Kl 9 21 (gP a)<|Mg 0<|M0 (.ren [1,0] [] [5,10,11,12])<|M1 (.frz 1 [5,10,11,12]) (et rt ti)<|Mf<|e 0 1 [PId.mk c.act c.item c.n]<|by (refine ⟨rfl,by simp,?_,?_⟩ <;> (rw [← hj0]) <;> (first | rfl | grind))) (fun _ _ a b c _ _ _ d hj0=>Kh 0 d<|Mg 1<|M2 (.fsl 0 [] 4<|c.map aV) ti (bT (aY a) (tA aV c b (oA:(c).length=b))<|aX Ip c)<|Ml 4 (fK (c.map aV) false<|aX Ip c)<|Mf<|cJ<|rr0<|c.map aV) fun a _ b c d _ e f g _ i j k _ l _=>have l:=(l).trans<|congrArg some<|aI f;have hj0:=cD (J:=fun a b=>b.2.1=b.2.2.length∧(0:Nat)<b.2.2.length∧b.2.2++List.map bY a=List.map bY L∧b.2.2.length+a.length=L.length) (a:=(b,c,d)) j e;Kt 0 k<|Mx l<|K1 6 .app (bT (aY b) (sA:c=(d.map aV).length) (by (refine aA (m:=2 ^ 25) ?_ ?_ ?_ <;> omega):small (c+1) 24=true))<|M1 (.obj 0<|aZ 3 true (b+1)<|(d++ [PId.mk f.act f.item f.n]).map aV) (congrArg (aZ 3 true<|b+1)<|cN (f:=aV) (l:=d) (ws:=[PId.mk f.act f.item f.n]))<|Kl 1 21 (gP a)<|K1 0 (.frz 1 [5,10,11,12]) (et (tR 3 true (b+1) 1<|aX Ip<|d++ [PId.mk f.act f.item f.n]) ti)<|Mf<|i (b+1) (c+1) (d++ [PId.mk f.act f.item f.n])<|by (refine ⟨by simp_all,by simp,?_,?_⟩ <;> first | (rw [← hj0.2.2.1,eW,kE];rfl) | (rw [← hj0.2.2.1];simp;done) | grind)
theorem MU (u:TUnit) (p:List PStep) (hf:kP 85 [eU u, .ls (p.map ax)] (.ls (([]:List PId).map aV))):kP 47 [eU u, .ls (p.map ax)] (.tuple [aV bG,iV 7]):=by
  exact bo Tryz.func47<|Kp 4 hf<|Kf 8<|bq<|cj [ay [iV 0,iV 0,iV 0],iV 7]
theorem Mm (u x:TUnit) (p:List PStep) (hf:kP 85 [eU u, .ls (p.map ax)] (.ls ([bY x].map aV))):kP 47 [eU u, .ls (p.map ax)] (.tuple [aV (bY x),iV 0]):=by
  exact bo Tryz.func47<|Kp 4 hf<|Kf 13<|bq<|cj [ay [iV (bY x).a,iV (bY x).i,iV (bY x).n],iV 0]
theorem Mk (u:TUnit) (p:List PStep) (a b:PId) (r:List PId) (hf:kP 85 [eU u, .ls (p.map ax)] (.ls ((a::b::r).map aV))):kP 47 [eU u, .ls (p.map ax)] (.tuple [aV bG,iV 8]):=by
  have q1:ae (Int.ofNat (r.length+1+1)) 0=false:=rfl
  have q2:ae (Int.ofNat (r.length+1+1)) 1=false:=rfl
  exact bo Tryz.func47<|Kp 4 hf<|Kl 2 11 (ln aV<|a::b::r)<|Kf 8<|bq<|cj [ay [iV 0,iV 0,iV 0],iV 8]
/-- The way of an address, whatever it finds. -/
theorem MY (u:TUnit) (p:List PStep) (hf:kP 182 [eU u, .ls (p.map ax)] (.ls ((dL u p).map aK))) (hn:nU u≤2 ^ 11):kP 47 [eU u, .ls (p.map ax)] (.tuple [aV (aE u p).1,iV (aE u p).2]):=by
  have ha:=Mu u p (dL u p) hf (Ij p hn)
  cases e:dL u p with
  | nil=>grind [GW, MU]
  | cons x r=>
    cases r with
    | nil=>grind [GX, Mm]
    | cons y r=>grind [GZ, Mk]
noncomputable abbrev zU:AV:= .agg [iV 0,iV 0,iV 0,iV 0, .str [], .nils, .nils, .nils]
noncomputable abbrev dn (xs:List AV):AObj:= .row 8 false 0 xs
theorem TM {L Z:List AV} {n i:Nat} (hn:L.length=n) (hi:i<n):((L++Z).drop (i+1)).take (n - (i+1))=L.drop (i+1):=by
  grind
theorem TN {L Z:List AV} {n i:Nat} (hn:L.length=n) (hi:i<n):bh (L++Z) (0+i) (L.drop (i+1))=L.eraseIdx i++(L.drop (n - 1)++Z):=by
  unfold bh
  grind
theorem Dp {L Z:List AV} {z:AV} {n i:Nat} (hn:L.length=n) (hi:i<n):bh (L.eraseIdx i++(L.drop (n - 1)++Z)) (n - 1) (List.replicate 1 z)=L.eraseIdx i++(z::Z):=by
  unfold bh
  have h1:(L.eraseIdx i).length=n - 1:=by grind
  have h2:(L.drop (n - 1)).length=1:=by grind
  grind
theorem Xj {a b:Nat} (h:a≠b):ae (Int.ofNat a) (Int.ofNat b)=false:=by
  grind [qL]
theorem QB (L Z:List AV) (n k i:Nat) (hi:i+1<n) (hn:L.length=n) (hs:n≤2 ^ 20) (hf:dq 8 L=true) (hZ:Z.length=k) (hT:aq (L++Z)=0):kD 237 [.slice 0 0 0 n (some (n+k)),nV i,nV (i+1)] (aa [dn (L++Z)]) (.slice 0 0 0 (n - 1) (some (n+k))) (aa [dn (L.eraseIdx i++(zU::Z))]):=by
  have hq:ae (Int.ofNat i) (Int.ofNat (i+1))=false:=Xj (by omega)
  let q:=AHeap.mk 1000000 (bv (aa [aZ 8 false 0 (L++Z)]) ([0]) Tr.nil);let q1:=aa [aZ 8 false 0 (L.eraseIdx i++(L.drop (n - 1)++Z))];let q2:=aa [aZ 8 false 0 (L++Z)];let q3:=(some (aD 0 0 0 n (some (n+k))));let q4:=aD 0 0 (i+1) (n - (i+1)) (some (n+k - (i+1)));let q5:=(some (nV (i+1)));let q6:=(some (nV i));let q7:=(some (nV n));let q8:=AHeap.mk 1 (bv q2 ([0,0]) Tr.nil);let q9:=aD 0 0 0 (n - 1) (some (n+k));let q10:=aD 0 0 (n - 1) 1 (some (k+1));let q11:=aD 0 0 0 i (some (n+k));exact fN Tryz.func237 fun a=>Ko 5 (by exact CE (xs:=L++Z) (l:=i) (h:=i+1) (m:=n) (by kernel_rfl) (by rfl) (by rfl) (by rfl) (by omega) (by omega) (by omega) (by omega) (by omega) (by omega) (by omega):bz q2 (dZ (8) q2 q3 q6 q5 q7)=some (ARes.val (AV.slice 0 0 i 1 (some (n - i))) q2))<|Kh 2 hq<|Kv 4 (by exact gT (xs:=L++Z) (l:=0) (h:=i) (by kernel_rfl) (by rfl) (by rfl) (by omega) (by omega) (by omega) (by omega) (by omega) (by omega):bz (q) (dZ (8) (q) q3 (none) q6 (none))=some (ARes.val q11 q))<|Kv 1 (by exact gT (xs:=L++Z) (l:=i+1) (h:=n) (by kernel_rfl) (by rfl) (by rfl) (by omega) (by omega) (by omega) (by omega) (by omega) (by omega):bz (q) (dZ (8) (q) q3 q5 (none) (none))=some (ARes.val q4 q))<|Md rt (eC (tR 8 false 0 1 (oA:aq (L++Z)=0))<|eC (tR 8 false 0 1 (oA:aq (L++Z)=0)) rt) (by exact K3 (new:=L.drop (i+1)) rfl (yU rfl (TM hn (by omega))) (qH hf) (fun e=>by have:=congrArg List.length e;grind) (by grind) (by grind) (aA (m:=2 ^ 20) (by grind) (by omega) (by omega)) (by grind) (TN hn (by omega)):dR (b7 (8) (120) (q8) ((some q11)) ((some q4)))=some (ARes.val q9 (AHeap.put q8 0 (AObj.row 8 false 0 (L.eraseIdx i++(L.drop (n - 1)++Z))))))<|Ko 4 (by exact gT (xs:=L.eraseIdx i++(L.drop (n - 1)++Z)) (l:=n - 1) (h:=n) (by kernel_rfl) (by rfl) (by rfl) (by omega) (by omega) (by omega) (by omega) (by omega) (by omega):bz q1 (dZ (8) q1 ((some q9)) ((some (nV (n - 1)))) q7 (none))=some (ARes.val q10 q1))<|Mo (by exact IA rfl (by kernel_rfl) (Dp hn (by omega)):dR (vg (8) (AV.agg [iV 0,iV 0,iV 0,iV 0,AV.str [],AV.nils,AV.nils,AV.nils]) q1 ((some q10)))=some (ARes.val (AV.tuple []) (aa [AObj.row 8 false 0 (L.eraseIdx i++zU::Z)])))<|Kf 1 a
theorem QA (L Z:List AV) (k i:Nat) (hn:L.length=i+1) (hs:i<2 ^ 20) (hk:0<k) (hZ:Z.length=k) (hT:aq (L++Z)=0):kD 237 [.slice 0 0 0 (i+1) (some (i+1+k)),nV i,nV (i+1)] (aa [dn (L++Z)]) (.slice 0 0 0 i (some (i+1+k))) (aa [dn (L.eraseIdx i++(zU::Z))]):=by
  have hq:ae (Int.ofNat i) (Int.ofNat (i+1))=false:=Xj (by omega)
  have hr:L.eraseIdx i++(L.drop (i+1 - 1)++Z)=L++Z:=by
    rw [Nm,EQ (by omega),eX,← kE,show i+1 - 1=i from rfl,EJ]
  have hc:bh (L++Z) i (List.replicate 1 zU)=L.eraseIdx i++(zU::Z):=by
    have h:=Dp (z:=zU) (Z:=Z) hn (show i<i+1 by omega)
    grind
  let q:=aa [aZ 8 false 0 (L++Z)];let q1:=AHeap.mk 1000000 (bv q ([0]) Tr.nil);let q2:=(some (nV (i+1)));let q3:=aD 0 0 0 i (some (i+1+k));let q4:=(some (aD 0 0 0 (i+1) (some (i+1+k))));let q5:=(some (nV i));let q6:=AHeap.mk 1 (bv q ([0,0]) Tr.nil);let q7:=aD 0 0 (i+1) 0 (some k);let q8:=aD 0 0 i 1 (some (k+1));exact fN Tryz.func237 fun a=>Ko 5 (by exact CE (xs:=L++Z) (l:=i) (h:=i+1) (m:=i+1) (by kernel_rfl) (by rfl) (by rfl) (by rfl) (by omega) (by omega) (by omega) (by omega) (by omega) (by omega) (by omega):bz q (dZ (8) q q4 q5 q2 q2)=some (ARes.val (AV.slice 0 0 i 1 (some 1)) q))<|Kh 2 hq<|Kv 4 (by exact gT (xs:=L++Z) (l:=0) (h:=i) (by kernel_rfl) (by rfl) (by rfl) (by omega) (by omega) (by omega) (by omega) (by omega) (by omega):bz (q1) (dZ (8) (q1) q4 (none) q5 (none))=some (ARes.val q3 q1))<|Kv 1 (by exact gT (xs:=L++Z) (l:=i+1) (h:=i+1) (by kernel_rfl) (by rfl) (by rfl) (by omega) (by omega) (by omega) (by omega) (by omega) (by omega):bz (q1) (dZ (8) (q1) q4 q2 (none) (none))=some (ARes.val q7 q1))<|Md rt (eC (tR 8 false 0 1 (oA:aq (L++Z)=0))<|eC (tR 8 false 0 1 (oA:aq (L++Z)=0)) rt) (by exact Rq (yU rfl List.take_zero):dR (b7 (8) (120) (q6) ((some q3)) ((some q7)))=some (ARes.val q3 q6))<|Ko 4 (by exact gT (xs:=L++Z) (l:=i) (h:=i+1) (by kernel_rfl) (by rfl) (by rfl) (by omega) (by omega) (by omega) (by omega) (by omega) (by omega):bz q (dZ (8) q ((some q3)) q5 q2 (none))=some (ARes.val q8 q))<|Mo (by exact IA rfl (by kernel_rfl) hc:dR (vg (8) (AV.agg [iV 0,iV 0,iV 0,iV 0,AV.str [],AV.nils,AV.nils,AV.nils]) q ((some q8)))=some (ARes.val (AV.tuple []) (aa [AObj.row 8 false 0 (L.eraseIdx i++zU::Z)])))<|Kf 1 a
theorem Qu (L:List AV) (i:Nat) (hn:L.length=i+1) (hs:i<2 ^ 20) (hT:aq L=0):kD 237 [.slice 0 0 0 (i+1) (some (i+1)),nV i,nV (i+1)] (aa [dn L]) (.slice 0 0 0 i (some (i+1))) (aa [dn (L.eraseIdx i++ [zU])]):=by
  have hq:ae (Int.ofNat i) (Int.ofNat (i+1))=false:=Xj (by omega)
  have hr:L.eraseIdx i++(L.drop (i+1 - 1)++ [])=L:=by
    rw [Nm,EQ (by omega),eX,eX,show i+1 - 1=i from rfl,EJ]
  have hc:bh L i (List.replicate 1 zU)=L.eraseIdx i++ [zU]:=by
    have h:=Dp (z:=zU) (Z:= []) hn (show i<i+1 by omega)
    grind
  let q:=aa [aZ 8 false 0 L];let q1:=AHeap.mk 1000000 (bv q ([0]) Tr.nil);let q2:=(some (nV (i+1)));let q3:=aD 0 0 0 i (some (i+1));let q4:=(some (aD 0 0 0 (i+1) (some (i+1))));let q5:=(some (nV i));let q6:=aD 0 0 i 1 (some 1);let q7:=AHeap.mk 1 (bv q ([0,0]) Tr.nil);let q8:=aD 0 0 0 0 (some 0);exact fN Tryz.func237 fun a=>Ko 5 (by exact CE (xs:=L) (l:=i) (h:=i+1) (m:=i+1) (by kernel_rfl) (by rfl) (by rfl) (by rfl) (by omega) (by omega) (by omega) (by omega) (by omega) (by omega) (by omega):bz q (dZ (8) q q4 q5 q2 q2)=some (ARes.val q6 q))<|Kh 2 hq<|Kv 4 (by exact gT (xs:=L) (l:=0) (h:=i) (by kernel_rfl) (by rfl) (by rfl) (by omega) (by omega) (by omega) (by omega) (by omega) (by omega):bz (q1) (dZ (8) (q1) q4 (none) q5 (none))=some (ARes.val q3 q1))<|Kv 1 (by exact Jv (xs:=L) (l:=i+1) (h:=i+1) (by kernel_rfl) (by rfl) (by rfl) (by rfl) rfl:bz (q1) (dZ (8) (q1) q4 q2 (none) (none))=some (ARes.val q8 q1))<|Md rt (eC (tR 8 false 0 1 (oA:aq (L)=0))<|eC (tR 8 false 0 1 (oA:aq (L)=0)) rt) (by exact Rq (yU rfl List.take_zero):dR (b7 (8) (120) (q7) ((some q3)) ((some q8)))=some (ARes.val q3 q7))<|Ko 4 (by exact gT (xs:=L) (l:=i) (h:=i+1) (by kernel_rfl) (by rfl) (by rfl) (by omega) (by omega) (by omega) (by omega) (by omega) (by omega):bz q (dZ (8) q ((some q3)) q5 q2 (none))=some (ARes.val q6 q))<|Mo (by exact IA rfl (by kernel_rfl) hc:dR (vg (8) (AV.agg [iV 0,iV 0,iV 0,iV 0,AV.str [],AV.nils,AV.nils,AV.nils]) q ((some q6)))=some (ARes.val (AV.tuple []) (aa [AObj.row 8 false 0 (L.eraseIdx i++ [zU])])))<|Kf 1 a
theorem Qt (L Z:List AV) (n i:Nat) (hi:i<n) (hn:L.length=n) (hs:n≤2 ^ 20) (hf:dq 8 L=true) (hT:aq (L++Z)=0):kD 237 [.slice 0 0 0 n (some (n+Z.length)),nV i,nV (i+1)] (aa [dn (L++Z)]) (.slice 0 0 0 (n - 1) (some (n+Z.length))) (aa [dn (L.eraseIdx i++(zU::Z))]):=by
  rcases fJ (i+1) n with h | h
  · exact QB L Z n _ i h hn hs hf rfl hT
  · obtain rfl:n=i+1:=by omega
    cases Z with
    | nil=>rw [eX];rw [eX] at hT;exact Qu L i hn (by omega) hT
    | cons z r=>exact QA L (z::r) _ i hn (by omega) (rq _) rfl hT
/-- A list with an element more at a place. -/
def gx (i:Nat) (x:AV) (l:List AV):List AV:=l.take i++(x::l.drop i)
theorem zx {i:Nat} {x:AV} {l:List AV} (h:i≤l.length):(gx i x l).length=l.length+1:=by
  grind [gx]
theorem Fu {x:AV} {l:List AV} {n:Nat} (h:l.length=n):gx n x l=l++ [x]:=by
  grind [gx]
theorem Xr (n:Nat):ae (Int.ofNat n) (Int.ofNat n)=true:=aT _
theorem Yd {a b:Nat} (h:a<b):ar (Int.ofNat a) (Int.ofNat b)=true:=nQ (by simp_all)
theorem Ye {a b:Nat} (h:b≤a):ar (Int.ofNat a) (Int.ofNat b)=false:=lp (by simp_all)
theorem TE {L Z:List AV} {x z:AV} {n:Nat} (h:L.length=n):bh (L++z::Z) (0+n) [x]=gx n x L++Z:=by
  unfold bh
  rw [Fu h,f9,← h,List.take_left,show (L++z::Z).drop (L.length + [x].length)=Z by rw [← A5,List.drop_left];rfl]
theorem SF {L Z:List AV} {z:AV} {n i:Nat} (h:L.length=n) (hi:i<n):bh (L++z::Z) (i+1) (L.drop i)=L.take (i+1)++(L.drop i++Z):=by
  unfold bh
  rw [List.take_append_of_le_length (by omega),kE,jC,show i+1+(L.length - i)=L.length+1 by omega,← A5,List.drop_left];rfl
theorem PV {L Z:List AV} {x:AV} {n i:Nat} (h:L.length=n) (hi:i<n):bh (L.take (i+1)++(L.drop i++Z)) i [x]=gx i x L++Z:=by
  unfold bh gx
  grind
theorem Sr {L:List AV} {z x:AV} {n i:Nat} (h:L.length=n) (hi:i<n):bh (L.take i++List.replicate (n+1 - i) z) i [x]=L.take i++(x::List.replicate (n - i) z):=by
  unfold bh
  have h1:(L.take i).length=i:=by grind
  have e:n+1 - i=(n - i)+1:=by omega
  rw [List.take_append_of_le_length (by omega),A4 (by omega),← A5]
  simp_all
theorem PJ {L:List AV} {z x:AV} {n i:Nat} (h:L.length=n) (hi:i<n):bh (L.take i++(x::List.replicate (n - i) z)) (i+1) (L.drop i)=gx i x L:=by
  unfold bh gx
  have h1:(L.take i).length=i:=by grind
  have h2:(L.take i++(x::List.replicate (n - i) z)).length=n+1:=by grind
  have e:(L.take i++(x::List.replicate (n - i) z)).drop (i+1+(L.drop i).length) = []:=EQ (by grind)
  grind
theorem Pp (L Z:List AV) (x z:AV) (t:Bool) (n k:Nat) (hn:L.length=n) (hs:n<2 ^ 20) (hk:Z.length=k) (hx:dq 8 [x]=true):kD 140 [.slice 0 0 0 n (some (n+(k+1))),nV n, .ps [x] t] (aa [dn (L++z::Z)]) (.slice 0 0 0 (n+1) (some (n+(k+1)))) (aa [dn (gx n x L++Z)]):=by
  have hq:=Xr n
  let q:=aa [aZ 8 false 0 (L++z::Z)];exact fN Tryz.func140 fun a=>Ko 2 (by exact gT (xs:=L++z::Z) (l:=n) (h:=n) (by kernel_rfl) (by rfl) (by rfl) (by omega) (by omega) (by omega) (by omega) (by omega) (by omega):bz q (dZ (8) q ((some (AV.slice 0 0 0 n (some (n+(k+1)))))) ((some (nV n))) (none) (none))=some (ARes.val (AV.slice 0 0 n 0 (some (k+1))) q))<|Kt 11 hq<|Ko 1 (by exact K3 (new:= [x]) rfl (by rfl) hx (kX _ _) (by simp_all) (by simp_all) (aA (m:=2 ^ 20) (by grind) (by omega) (by omega)) rfl (TE hn):dR (b7 (8) (120) (aa [AObj.row 8 false 0 (L++z::Z)]) ((some (AV.slice 0 0 0 n (some (n+(k+1)))))) ((some (AV.ps [x] t))))=some (ARes.val (AV.slice 0 0 0 (n+1) (some (n+(k+1)))) (aa [AObj.row 8 false 0 (gx n x L++Z)])))<|Kf 0 a
theorem Po (L:List AV) (x:AV) (t:Bool) (n:Nat) (hn:L.length=n) (hs:n<2 ^ 20) (hx:dq 8 [x]=true) (hT:aq L=0) (hI:aq (gx n x L)=0):kD 140 [.slice 0 0 0 n (some n),nV n, .ps [x] t] (aa [dn L]) (.ls (gx n x L)) (aa [dn L]):=by
  have hq:=Xr n
  have hIl:(gx n x L).length=n+1:=(zx (by omega)).trans (by omega)
  let q:=aa [aZ 8 false 0 L];exact fN Tryz.func140 fun a=>Ko 2 (by exact Jv (xs:=L) (l:=n) (h:=n) (by kernel_rfl) (by rfl) (by rfl) (by rfl) rfl:bz q (dZ (8) q ((some (AV.slice 0 0 0 n (some n)))) ((some (nV n))) (none) (none))=some (ARes.val (AV.slice 0 0 0 0 (some 0)) q))<|Kt 11 hq<|Ko 1 (by exact UW (new:= [x]) rfl (by rfl) hx (kX _ _) (by simp_all) (aA (m:=2 ^ 20) (by grind) (by omega) (by omega)) (by grind [Fu]) ((zx (by omega)).trans (by omega)):dR (b7 (8) (120) (aa [AObj.row 8 false 0 L]) ((some (AV.slice 0 0 0 n (some n)))) ((some (AV.ps [x] t))))=some (ARes.val (AV.slice 1 0 0 (n+1) none) (aa [AObj.row 8 false 0 L,AObj.row 8 true 0 (gx n x L)])))<|Mg 0<|M2 (.fsl 1 [] 6<|gx n x L) (et (tR 8 false 0 1 (oA:aq (L)=0)) ti) (bT (aY 0) (Ua (oA:(gx n x L).length=n+1)) (oA:aq (gx n x L)=0))<|Ml 6 (fK (gx n x L) false (oA:aq (gx n x L)=0))<|Mf a
theorem Pn (L Z:List AV) (x z:AV) (t:Bool) (n k i:Nat) (hi:i<n) (hn:L.length=n) (hs:n<2 ^ 20) (hk:Z.length=k) (hx:dq 8 [x]=true) (hf:dq 8 L=true) (hT:aq (L++z::Z)=0) (hov:kD 234 [.ps [x] t, .slice 0 0 (i+1) (n - i) (some (n+(k+1) - (i+1)))] (aa [dn (L++z::Z)]) (.bool false) (aa [dn (L++z::Z)])):kD 140 [.slice 0 0 0 n (some (n+(k+1))),nV i, .ps [x] t] (aa [dn (L++z::Z)]) (.slice 0 0 0 (n+1) (some (n+(k+1)))) (aa [dn (gx i x L++Z)]):=by
  have hq:ae (Int.ofNat i) (Int.ofNat n)=false:=Xj (by omega)
  have hl:ar (Int.ofNat (n+(k+1))) (Int.ofNat (n+1))=false:=Ye (by omega)
  let q:=aa [aZ 8 false 0 (L++z::Z)];let q1:=aa [aZ 8 false 0 (L.take (i+1)++(L.drop i++Z))];let q2:=AHeap.mk 1000000 (bv q ([0]) Tr.nil);let q3:=aD 0 0 0 (n+1) (some (n+(k+1)));let q4:=aD 0 0 i (n+1 - i) (some (n+(k+1) - i));let q5:=(some (nV i));let q6:=aD 0 0 (i+1) (n - i) (some (n+(k+1) - (i+1)));let q7:=(some (nV (i+1)));let q8:=(some (aD 0 0 0 n (some (n+(k+1)))));exact fN Tryz.func140 fun a=>Ko 2 (by exact gT (xs:=L++z::Z) (l:=i) (h:=n) (by kernel_rfl) (by rfl) (by rfl) (by omega) (by omega) (by omega) (by omega) (by omega) (by omega):bz q (dZ (8) q q8 q5 (none) (none))=some (ARes.val (AV.slice 0 0 i (n - i) (some (n+(k+1) - i))) q))<|Kh 11 hq<|Kl 2 28 (gP n)<|Kh 2 hl<|Kl 3 59 (gP n)<|Mo (by exact gT (xs:=L++z::Z) (l:=0) (h:=n+1) (by kernel_rfl) (by rfl) (by rfl) (by omega) (by omega) (by omega) (by omega) (by omega) (by omega):bz q (dZ (8) q q8 (none) ((some (nV (n+1)))) (none))=some (ARes.val q3 q))<|Kl 5 65 (gP i)<|Mo (by exact gT (xs:=L++z::Z) (l:=i+1) (h:=n+1) (by kernel_rfl) (by rfl) (by rfl) (by omega) (by omega) (by omega) (by omega) (by omega) (by omega):bz q (dZ (8) q ((some q3)) q7 (none) (none))=some (ARes.val q6 q))<|Me hov<|Mg 4<|Ma (gP i)<|Mv (by exact gT (xs:=L++z::Z) (l:=i+1) (h:=n+1) (by kernel_rfl) (by rfl) (by rfl) (by omega) (by omega) (by omega) (by omega) (by omega) (by omega):bz (q2) (dZ (8) (q2) ((some q3)) q7 (none) (none))=some (ARes.val q6 q2))<|Kv 1 (by exact gT (xs:=L++z::Z) (l:=i) (h:=n+1) (by kernel_rfl) (by rfl) (by rfl) (by omega) (by omega) (by omega) (by omega) (by omega) (by omega):bz (q2) (dZ (8) (q2) ((some q3)) q5 (none) (none))=some (ARes.val q4 q2))<|Md rt (eC (tR 8 false 0 1 (oA:aq (L++z::Z)=0))<|eC (tR 8 false 0 1 (oA:aq (L++z::Z)=0)) rt) (by exact KH (zs:=((L++z::Z).drop i).take (n+1 - i)) rfl (yU rfl rfl) (by grind [qH]) (by grind) (by grind [SF]):dR (uK (8) ((AHeap.mk 1 (bv (aa [AObj.row 8 false 0 (L++z::Z)]) ([0,0]) Tr.nil))) ((some (AV.slice 0 0 (i+1) (n - i) (some (n+(k+1) - (i+1)))))) ((some (AV.slice 0 0 i (n+1 - i) (some (n+(k+1) - i))))))=some (ARes.val (nV (n - i)) (AHeap.put (AHeap.mk 1 (bv (aa [AObj.row 8 false 0 (L++z::Z)]) ([0,0]) Tr.nil)) 0 (AObj.row 8 false 0 (L.take (i+1)++(L.drop i++Z))))))<|Ko 1 (by exact gT (xs:=L.take (i+1)++(L.drop i++Z)) (l:=i) (h:=n+1) (by kernel_rfl) (by rfl) (by rfl) (by omega) (by omega) (by omega) (by omega) (by omega) (by omega):bz q1 (dZ (8) q1 ((some q3)) q5 (none) (none))=some (ARes.val q4 q1))<|Ko 0 (by exact KH (zs:= [x]) rfl (by rfl) (qG hx) (by grind) (by grind [List.take_of_length_le, PV]):dR (uK (8) q1 ((some q4)) ((some (AV.ps [x] t))))=some (ARes.val (iV 1) (aa [AObj.row 8 false 0 (gx i x L++Z)])))<|Kf 1 a
theorem Pm (L:List AV) (x:AV) (t:Bool) (n i:Nat) (hi:i<n) (hn:L.length=n) (hs:n<2 ^ 20) (hx:dq 8 [x]=true) (hf:dq 8 L=true) (hT:aq L=0) (hT2:aq (L.take i++(x::List.replicate (n - i) zU))=0) (hI:aq (gx i x L)=0):kD 140 [.slice 0 0 0 n (some n),nV i, .ps [x] t] (aa [dn L]) (.ls (gx i x L)) (aa [dn L]):=by
  have hq:ae (Int.ofNat i) (Int.ofNat n)=false:=Xj (by omega)
  have hl:ar (Int.ofNat n) (Int.ofNat (n+1))=true:=Yd (by omega)
  have hIl:(gx i x L).length=n+1:=(zx (by omega)).trans (by omega)
  let q:=aa [aZ 8 false 0 L,aZ 8 true 0 (L.take i++x::List.replicate (n - i) zU)];let q1:=aa [aZ 8 false 0 L,aZ 8 true 0 (L.take i++List.replicate (n+1 - i) zU)];let q2:=aa [aZ 8 false 0 L];let q3:=(some (nV i));let q4:=AHeap.mk 1000000 (bv q ([0]) Tr.nil);let q5:=aD 0 0 i (n - i) (some (n - i));let q6:=(some (aD 0 0 0 n (some n)));let q7:=AHeap.mk 2 (bv q ([1,0]) Tr.nil);let q8:=aD 1 0 i (n+1 - i) none;let q9:=aD 1 0 0 (n+1) none;let q10:=aD 0 0 0 i (some n);exact fN Tryz.func140 fun a=>Ko 2 (by exact gT (xs:=L) (l:=i) (h:=n) (by kernel_rfl) (by rfl) (by rfl) (by omega) (by omega) (by omega) (by omega) (by omega) (by omega):bz q2 (dZ (8) q2 q6 q3 (none) (none))=some (ARes.val q5 q2))<|Kh 11 hq<|Kl 2 28 (gP n)<|Kt 2 hl<|Ko 1 (by exact gT (xs:=L) (l:=0) (h:=i) (by kernel_rfl) (by rfl) (by rfl) (by omega) (by omega) (by omega) (by omega) (by omega) (by omega):bz q2 (dZ (8) q2 q6 (none) q3 (none))=some (ARes.val q10 q2))<|Kl 2 37 (gP n)<|Ko 0 (by (show bz _ (some (AV.int .i64 (IntKind.i64.wrap (Int.ofNat (n+1) - Int.ofNat i))))=_;rw [show (Int.ofNat (n+1) - Int.ofNat i)=Int.ofNat (n+1 - i) by grind,xY (by simp_all) (by grind)];rfl):bz (aa [AObj.row 8 false 0 L]) (RD (pc BinOp.sub (Tryz.prog.underlying 3) (cE Tryz.prog 3) (cG Tryz.prog 3) (dH Tryz.prog 10 3 0)) ((some (nV (n+1)))) ((some (nV i))))=some (ARes.val (nV (n+1 - i)) (aa [AObj.row 8 false 0 L])))<|Mo (by exact SD rfl (by omega) (by omega) (by kernel_rfl) (aA (m:=2 ^ 21) (by omega) (by omega) (by omega)) (aA (m:=2 ^ 21) (by omega) (by omega) (by omega)) (by simp_all) (by grind):dR (BL (8) (120) (AV.agg [iV 0,iV 0,iV 0,iV 0,AV.str [],AV.nils,AV.nils,AV.nils]) q2 ((some q10)) ((some (nV (n+1 - i)))))=some (ARes.val q9 q1))<|Ko 2 (by exact Jw (xs:=L.take i++List.replicate (n+1 - i) zU) (l:=i) (h:=n+1) (by kernel_rfl) (by rfl) (by rfl) (by omega) (by grind) (by omega) (by omega):bz q1 (dZ (8) q1 ((some q9)) q3 (none) (none))=some (ARes.val q8 q1))<|Ko 0 (by exact KH (zs:= [x]) rfl (by rfl) (qG hx) (by grind) (by grind [List.take_of_length_le, Sr]):dR (uK (8) q1 ((some q8)) ((some (AV.ps [x] t))))=some (ARes.val (iV 1) q))<|Mg 2<|Ma (gP i)<|Mv (by exact Jw (xs:=L.take i++(x::List.replicate (n - i) zU)) (l:=i+1) (h:=n+1) (by kernel_rfl) (by rfl) (by rfl) (by omega) (by grind) (by omega) (by omega):bz ((AHeap.mk 1000000 (bv (aa [AObj.row 8 false 0 L,AObj.row 8 true 0 (L.take i++x::List.replicate (n - i) zU)]) ([1]) Tr.nil))) (dZ (8) ((AHeap.mk 1000000 (bv (aa [AObj.row 8 false 0 L,AObj.row 8 true 0 (L.take i++x::List.replicate (n - i) zU)]) ([1]) Tr.nil))) ((some (AV.slice 1 0 0 (n+1) none))) ((some (nV (i+1)))) (none) (none))=some (ARes.val (AV.slice 1 0 (i+1) (n - i) none) (AHeap.mk 1000000 (bv (aa [AObj.row 8 false 0 L,AObj.row 8 true 0 (L.take i++x::List.replicate (n - i) zU)]) ([1]) Tr.nil))))<|Kv 1 (by exact gT (xs:=L) (l:=i) (h:=n) (by kernel_rfl) (by rfl) (by rfl) (by omega) (by omega) (by omega) (by omega) (by omega) (by omega):bz (q4) (dZ (8) (q4) q6 q3 (none) (none))=some (ARes.val q5 q4))<|Md rt (eC (tR 8 true 0 2 (oA:aq (L.take i++x::List.replicate (n - i) zU)=0))<|eC (tR 8 false 0 2 (oA:aq (L)=0)) rt) (by exact KH (zs:=L.drop i) rfl (yU rfl (A4 (by simp_all))) (qG (qH hf)) (by simp_all) (by grind [List.length_drop, PJ]):dR (uK (8) (q7) ((some (AV.slice 1 0 (i+1) (n - i) none))) ((some q5)))=some (ARes.val (nV (n - i)) (AHeap.put q7 1 (AObj.row 8 true 0 (gx i x L)))))<|Mg 1<|M2 (.fsl 1 [] 6<|gx i x L) (et (tR 8 false 0 1 (oA:aq (L)=0)) ti) (bT (aY 0) (Ua (oA:(gx i x L).length=n+1)) (oA:aq (gx i x L)=0))<|Ml 6 (fK (gx i x L) false (oA:aq (gx i x L)=0))<|Mf a
theorem Fp (x:TUnit) (t:Bool):kP 140 [.nils,iV 0, .ps [eU x] t] (.ls [eU x]):=by
  have hx:dq 8 [eU x]=true:=by kernel_rfl
  have hIl : [eU x].length=1:=rfl
  have hI:aq [eU x]=0:=by kernel_rfl
  let q:= [ay [iV x.act,iV x.item,iV x.n,iV x.kind,aw x.label,aW (x.head.map aQ),aW (x.words.map aQ),aW (x.kids.map aK)]];exact bo Tryz.func140<|Ko 18 (by (simp only [b7,eG,iC,ib,fZ,hx];rfl):dR (b7 (8) (120) (aa []) ((some (AV.nils))) ((some (AV.ps [AV.agg [iV x.act,iV x.item,iV x.n,iV x.kind,AV.str x.label,AV.ls (x.head.map aQ),AV.ls (x.words.map aQ),AV.ls (x.kids.map aK)]] t))))=some (ARes.val (AV.slice 0 0 0 1 none) (aa [AObj.row 8 true 0 [eU x]])))<|K1 0 (.frz 0 [6]) ti<|Mf (fK q _<|by rfl:Le _ (AV.ps q false))
theorem Fo (x:TUnit) (t:Bool):kP 140 [.ps [] true,iV 0, .ps [eU x] t] (.ls [eU x]):=by
  have hx:dq 8 [eU x]=true:=by kernel_rfl
  have hIl : [eU x].length=1:=rfl
  have hI:aq [eU x]=0:=by kernel_rfl
  let q:= [ay [iV x.act,iV x.item,iV x.n,iV x.kind,aw x.label,aW (x.head.map aQ),aW (x.words.map aQ),aW (x.kids.map aK)]];exact bo Tryz.func140<|Ko 18 (by (simp only [b7,eG,iC,ib,fZ,hx];rfl):dR (b7 (8) (120) (aa []) ((some (AV.ps [] true))) ((some (AV.ps [AV.agg [iV x.act,iV x.item,iV x.n,iV x.kind,AV.str x.label,AV.ls (x.head.map aQ),AV.ls (x.words.map aQ),AV.ls (x.kids.map aK)]] t))))=some (ARes.val (AV.slice 0 0 0 1 none) (aa [AObj.row 8 true 0 [eU x]])))<|K1 0 (.frz 0 [6]) ti<|Mf (fK q _<|by rfl:Le _ (AV.ps q false))
noncomputable def JK:TypeInfo:=(Tryz.prog.info? 31).getD default
theorem NN:Tryz.prog.info? 31=some JK:=by kernel_rfl
/-- A unit of zero values says no more than the zero value. -/
theorem Wi:Le (aK bw) zU:=aO (.cons (Le.refl _) (.cons (Le.refl _) (.cons (Le.refl _) (.cons (Le.refl _) (.cons (Le.refl _) (.cons Le.nils (.cons Le.nils (.cons Le.nils .nil)))))))) rfl
theorem Hf:JK.size=8:=by kernel_rfl
theorem Ec:JK.bytes=120:=by kernel_rfl
theorem Xo (l:List TUnit):dq 8 (l.map aK)=true:=gk (fun u=>by cases u;rfl) l
/-- A copy of units: a row of its own, which holds zero values behind them. -/
theorem Dr (xs:List TUnit) (hne:xs≠ []) (hl:xs.length≤2 ^ 20) (a b c:AObj):kC 233 [.ls (xs.map aK)] (aa [a,b,c])
    (fun v h=>∃ k:Nat,True∧v = .slice 3 0 0 xs.length (some (xs.length+k))∧h=aa [a,b,c,dn ((xs++List.replicate k bw).map aK)]):=by
  simp only [pQ,List.map_replicate]
  have hn:xs.map aK≠ []:=fun h=>hne (List.map_eq_nil_iff.1 h)
  have hf:=Xo xs
  have hsm:small (xs.map aK).length 120=true:=by grind [aA]
  have hlen:xs.length=(xs.map aK).length:=(bI ..).symm
  rw [hlen]
  generalize xs.map aK=L at hn hf hsm
  refine aG.enter 2 (fn:=Tryz.f233) Tryz.func233 (by kernel_rfl) rfl ⟨by kernel_rfl,by kernel_rfl⟩ ?_
  refine am.seq (am.mono (Dz pY iG (ev 40) (s':=⟨dN 8 [(0, .ls L),(2, .nils)],aa [a,b,c]⟩) (.go 0 .fin) (by kernel_rfl)) ?_)
  rintro _ _ ⟨rfl,rfl⟩
  refine am.seq (am.seq (am.mono (xg iG (ev 40) (Ψ:=fun s=>s=⟨dN 8 [(0, .ls L),(2, .nils),(3, .ps L false),(4, .bool false)],aa [a,b,c]⟩) (.go 0 (.nz 3 .abs (.go 0 .fin)))
    (W:=(L = []→False)∧(⟨dN 8 [(0, .ls L),(2, .nils),(3, .ps L false),(4, .bool false)],aa [a,b,c]⟩:St)=⟨dN 8 [(0, .ls L),(2, .nils),(3, .ps L false),(4, .bool false)],aa [a,b,c]⟩) ⟨hn,rfl⟩ (by kernel_rfl)) ?_))
  rintro _ _ ⟨rfl,rfl⟩
  refine am.cond (t:=false) (by kernel_rfl) (fun h=>by grind) fun _=>am.skip ?_
  refine am.seq (am.region ?_)
  show cY _ _ _ _ [_,_,_,_] _ _
  refine cY.one (s':=⟨dN 8 [(0, .ls L),(2, .nils),(3, .ps L false),(4, .bool false),(5, .ps [] true)],aa [a,b,c]⟩) (ev 40) (by kernel_rfl) ?_
  refine cY.one (s':=⟨dN 8 [(0, .ls L),(2, .nils),(3, .ps L false),(4, .bool false),(5, .ps [] true),(6, .ls L)],aa [a,b,c]⟩) (ev 40) (by kernel_rfl) ?_
  refine rW (I:=fun _=>True) (r:=fun k:Nat=> .slice 3 0 0 L.length (some (L.length+k))) (H:=fun k=>aa [a,b,c, .row 8 false 0 (L++List.replicate k (aK bw))]) (by kernel_rfl)
    (fun pl M a w g1 g2 g3=>uv (z:=aK bw) (z0:=zU) (xs:=L) (t:=29) (tx:=29) (e:=31) (i:=JK) Hf Ec (by kernel_rfl) ⟨31,by kernel_rfl⟩ NN (by kernel_rfl) Wi (by kernel_rfl) (by kernel_rfl) hn hf (by kernel_rfl) hsm (by omega) pl M a w g1 g2 g3) fun k _=>?_
  refine ⟨dN 8 [(0, .ls L),(2, .nils),(3, .ps L false),(4, .bool false),(5, .ps [] true),(6, .ls L),(7, .slice 3 0 0 L.length (some (L.length+k)))],by kernel_rfl,?_⟩
  refine cY.one (s':=⟨dN 8 [(0, .ls L),(2, .slice 3 0 0 L.length (some (L.length+k))),(3, .ps L false),(4, .bool false),(5, .ps [] true),(6, .ls L),(7, .slice 3 0 0 L.length (some (L.length+k)))],aa [a,b,c, .row 8 false 0 (L++List.replicate k (aK bw))]⟩) (ev 40) (by kernel_rfl) (cY.nil (am.ret ⟨fun id h=>(by grind), .slice 3 0 0 L.length (some (L.length+k)),by kernel_rfl,k,trivial,by kernel_rfl,by kernel_rfl⟩))
/-- The unit that a closure changes: its kids are 'K'. -/
noncomputable abbrev dm (u:TUnit) (K:AV):AObj:= .row 8 false 0 [.agg [iV u.act,iV u.item,iV u.n,iV u.kind, .str u.label, .ls (u.head.map aQ), .ls (u.words.map aQ),K]]
theorem Wn (u:TUnit) (n c i:Nat) (R R':List AV) (hT:aq R=0) (hT2:aq R'=0) (hi:i<n) (hs:n≤2 ^ 20) (hD:kD 237 [.slice 1 0 0 n (some c),nV i,nV (i+1)] (aa [dm u (.slice 1 0 0 n (some c)),dn R]) (.slice 1 0 0 (n - 1) (some c)) (aa [dm u (.slice 1 0 0 n (some c)),dn R'])) :
    kD 236 [.ptr 0 0 0 0, .pptr [nV i] 0 0] (aa [dm u (.slice 1 0 0 n (some c)),dn R]) (.tuple []) (aa [dm u (.slice 1 0 0 (n - 1) (some c)),dn R']):=by
  exact fN Tryz.func236 fun a=>Mg 6<|Ma (gP i)<|M3 (.efx false (aD 1 0 0 (n - 1)<|some c)<|aa [aZ 8 false 0 [ay [iV u.act,iV u.item,iV u.n,iV u.kind,aw u.label,aW<|u.head.map aQ,aW<|u.words.map aQ,aD 1 0 0 n<|some c]],aZ 8 false 0 R']) (bT (tR 8 false 0 2 (oA:aq (R)=0)) rt ti) ti hD<|Kf 2 a
theorem Vu (u x:TUnit) (n c i:Nat) (R R':List AV) (hT:aq R=0) (hT2:aq R'=0) (hD:kD 140 [.slice 1 0 0 n (some c),nV i, .ps [eU x] true] (aa [dm u (.slice 1 0 0 n (some c)),dn R]) (.slice 1 0 0 (n+1) (some c)) (aa [dm u (.slice 1 0 0 n (some c)),dn R'])) :
    kD 139 [.ptr 0 0 0 0, .pptr [nV i] 0 0, .pptr [eU x] 0 0] (aa [dm u (.slice 1 0 0 n (some c)),dn R]) (.tuple []) (aa [dm u (.slice 1 0 0 (n+1) (some c)),dn R']):=by
  exact fN Tryz.func139 fun a=>Mg 7<|M3 (.efx false (aD 1 0 0 (n+1)<|some c)<|aa [aZ 8 false 0 [ay [iV u.act,iV u.item,iV u.n,iV u.kind,aw u.label,aW<|u.head.map aQ,aW<|u.words.map aQ,aD 1 0 0 n<|some c]],aZ 8 false 0 R']) (bT (tR 8 false 0 2 (oA:aq (R)=0)) rt ti) ti hD<|Kf 2 a
theorem Vt (u x:TUnit) (n c i:Nat) (R Y:List AV) (hT:aq R=0) (hD:kD 140 [.slice 1 0 0 n (some c),nV i, .ps [eU x] true] (aa [dm u (.slice 1 0 0 n (some c)),dn R]) (.ls Y) (aa [dm u (.slice 1 0 0 n (some c)),dn R])) :
    kD 139 [.ptr 0 0 0 0, .pptr [nV i] 0 0, .pptr [eU x] 0 0] (aa [dm u (.slice 1 0 0 n (some c)),dn R]) (.tuple []) (aa [dm u (.ls Y),dn R]):=by
  let q:= [ay [iV u.act,iV u.item,iV u.n,iV u.kind,aw u.label,aW (u.head.map aQ),aW (u.words.map aQ),aD 1 0 0 n (some c)]];exact fN Tryz.func139 fun a=>Mg 7<|M3 (.efx true (aW Y)<|aa [aZ 8 false 0 q,aZ 8 false 0 R]) (bT (tR 8 false 0 2 (oA:aq (R)=0)) rt ti) (bT (aY<|some<|aZ 8 false 0 R) (aY<|some<|aZ 8 false 0 q) ti) hD<|Kf 2 a
theorem Vs (u x:TUnit) (Y:List AV) (hD:kP 140 [.nils,iV 0, .ps [eU x] true] (.ls Y)) :
    kD 139 [.ptr 0 0 0 0, .pptr [iV 0] 0 0, .pptr [eU x] 0 0] (aa [dm u .nils]) (.tuple []) (aa [dm u (.ls Y)]):=by
  exact fN Tryz.func139 fun a=>Kp 7 hD<|Kf 2 a
theorem Vr (u x:TUnit) (Y:List AV) (hD:kP 140 [(.ps [] true),iV 0, .ps [eU x] true] (.ls Y)) :
    kD 139 [.ptr 0 0 0 0, .pptr [iV 0] 0 0, .pptr [eU x] 0 0] (aa [dm u (.ps [] true)]) (.tuple []) (aa [dm u (.ls Y)]):=by
  exact fN Tryz.func139 fun a=>Kp 7 hD<|Kf 2 a
theorem Vb (u x:TUnit) (n c i:Nat) (R R':List AV) (hT:aq R=0) (hT2:aq R'=0) (hD:kD 140 [.slice 1 0 0 n (some c),nV i, .ps [eU x] true] (aa [dm u (.slice 1 0 0 n (some c)),dn R]) (.slice 1 0 0 (n+1) (some c)) (aa [dm u (.slice 1 0 0 n (some c)),dn R'])) :
    kD 150 [.ptr 0 0 0 0, .pptr [nV i] 0 0, .pptr [eU x] 0 0] (aa [dm u (.slice 1 0 0 n (some c)),dn R]) (.tuple []) (aa [dm u (.slice 1 0 0 (n+1) (some c)),dn R']):=by
  exact fN Tryz.func150 fun a=>Mg 7<|M3 (.efx false (aD 1 0 0 (n+1)<|some c)<|aa [aZ 8 false 0 [ay [iV u.act,iV u.item,iV u.n,iV u.kind,aw u.label,aW<|u.head.map aQ,aW<|u.words.map aQ,aD 1 0 0 n<|some c]],aZ 8 false 0 R']) (bT (tR 8 false 0 2 (oA:aq (R)=0)) rt ti) ti hD<|Kf 2 a
theorem Va (u x:TUnit) (n c i:Nat) (R Y:List AV) (hT:aq R=0) (hD:kD 140 [.slice 1 0 0 n (some c),nV i, .ps [eU x] true] (aa [dm u (.slice 1 0 0 n (some c)),dn R]) (.ls Y) (aa [dm u (.slice 1 0 0 n (some c)),dn R])) :
    kD 150 [.ptr 0 0 0 0, .pptr [nV i] 0 0, .pptr [eU x] 0 0] (aa [dm u (.slice 1 0 0 n (some c)),dn R]) (.tuple []) (aa [dm u (.ls Y),dn R]):=by
  let q:= [ay [iV u.act,iV u.item,iV u.n,iV u.kind,aw u.label,aW (u.head.map aQ),aW (u.words.map aQ),aD 1 0 0 n (some c)]];exact fN Tryz.func150 fun a=>Mg 7<|M3 (.efx true (aW Y)<|aa [aZ 8 false 0 q,aZ 8 false 0 R]) (bT (tR 8 false 0 2 (oA:aq (R)=0)) rt ti) (bT (aY<|some<|aZ 8 false 0 R) (aY<|some<|aZ 8 false 0 q) ti) hD<|Kf 2 a
theorem Vy (u x:TUnit) (Y:List AV) (hD:kP 140 [.nils,iV 0, .ps [eU x] true] (.ls Y)) :
    kD 150 [.ptr 0 0 0 0, .pptr [iV 0] 0 0, .pptr [eU x] 0 0] (aa [dm u .nils]) (.tuple []) (aa [dm u (.ls Y)]):=by
  exact fN Tryz.func150 fun a=>Kp 7 hD<|Kf 2 a
theorem Vv (u x:TUnit) (Y:List AV) (hD:kP 140 [(.ps [] true),iV 0, .ps [eU x] true] (.ls Y)) :
    kD 150 [.ptr 0 0 0 0, .pptr [iV 0] 0 0, .pptr [eU x] 0 0] (aa [dm u (.ps [] true)]) (.tuple []) (aa [dm u (.ls Y)]):=by
  exact fN Tryz.func150 fun a=>Kp 7 hD<|Kf 2 a
theorem Wl (u:TUnit) (l:List PWord):kD 143 [.ptr 0 0 0 0, .pptr [.ls (l.map aQ)] 0 0] (aa [dm u (.ls (u.kids.map aK))]) (.tuple []) (aa [dm (lr l u) (.ls (u.kids.map aK))]):=by
  exact fN Tryz.func143 fun a=>Kf 4 a
theorem WH (u:TUnit) (l:List PWord):kD 145 [.ptr 0 0 0 0, .pptr [.ls (l.map aQ)] 0 0] (aa [dm u (.ls (u.kids.map aK))]) (.tuple []) (aa [dm (lr l u) (.ls (u.kids.map aK))]):=by
  exact fN Tryz.func145 fun a=>Kf 4 a
theorem Xi (u:TUnit) (l:List PWord):kD 147 [.ptr 0 0 0 0, .pptr [.ls (l.map aQ)] 0 0] (aa [dm u (.ls (u.kids.map aK))]) (.tuple []) (aa [dm (zw l u) (.ls (u.kids.map aK))]):=by
  exact fN Tryz.func147 fun a=>Kf 4 a
theorem WF (u:TUnit) (d:PDeed):kD 149 [.ptr 0 0 0 0, .pptr [az d] 0 0] (aa [dm u (.ls (u.kids.map aK))]) (.tuple []) (aa [dm (qC d.it.label u) (.ls (u.kids.map aK))]):=by
  exact fN Tryz.func149 fun a=>Kf 6 a
noncomputable abbrev uT (p:PId):AObj:= .row 3 false 0 [aV p]
noncomputable abbrev zO:AObj:= .row 8 false 0 [zU]
theorem GG:kP 233 [.nils] .nils:=by
  exact wk Tryz.func233 (.go 4 .fin)<|bq af
theorem GF:kP 233 [.ps [] false] (.ps [] true):=by
  exact wk Tryz.func233 (.go 7 .fin)<|bq<|iK [] true
theorem QL (w:TUnit) (r:List TUnit) (hl:r.length<2 ^ 20):kP 233 [.ls ((w::r).map aK)] (.ls ((w::r).map aK)):=by
  let q:=List.map aK (w::r);exact bo Tryz.func233<|Mg 1<|Mz 3 (fun (a:((w::r).map aK:List AV) = [])=>Mw .abs<|kX _ _ a)<|Mg 3<|M2 .apl (et (sA:List.map aK (w::r)≠ [])<|gk (sz:=8) (f:=aK) (fun _=>by (rw [aI];rfl))<|w::r) (by (refine aA (m:=2 ^ 21) ?_ ?_ ?_ <;> first | omega | grind):small ((w::r).map aK).length 120=true)<|Mg 0<|M2 (.fsl 0 [] 2 q) ti (bT (aY 0) (tA aK (w::r) q.length (sA:(w::r).length=((w::r).map aK).length))<|aX gH<|w::r)<|Ml 2 (fK q false<|aX gH<|w::r)<|Mf<|bq<|aW q
theorem Cw (l:List TUnit) (hl:l.length≤2 ^ 20):kP 233 [.ls (l.map aK)] (.ls (l.map aK)):=by
  cases l with
  | nil=>exact aP.ls0 (GG.less Le.nils) (GF.lessB (u:= .ls []) (by kernel_rfl))
  | cons w r=>grind [QL]
/-- The unit is found; its kids stay what they are. -/
theorem xp (g:Nat) (bs:List AV) (p:PId) (u u2:TUnit) (hA:aq [eU u,aV p, .func (.func g) [] bs]=0) (hp:(ae u.act p.a && (ae u.item p.i && ae u.n p.n))=true) (hl:u.kids.length≤2 ^ 20) (hd:kD g (.ptr 0 0 0 0::bs) (aa [dm u (.ls (u.kids.map aK)),uT p,zO]) (.tuple []) (aa [dm u2 (.ls (u2.kids.map aK)),uT p,zO])):kP 138 [eU u,aV p, .func (.func g) [] bs] (eU u2):=by
  have hc:=Cw u.kids hl
  let q:= [iV p.a,iV p.i,iV p.n];exact bo (ht:=oA) Tryz.func138<|Kv 5 (kS ((Tryz.prog).underlying 27) u.act u.item u.n p.a p.i p.n<|aa [aZ 8 false 0 [ay [iV u.act,iV u.item,iV u.n,iV u.kind,aw u.label,aW<|u.head.map aQ,aW<|u.words.map aQ,aW<|u.kids.map aK]],aZ 3 false 0 [ay q],aZ 8 false 0 [ay [iV 0,iV 0,iV 0,iV 0,aw [],af,af,af]]])<|Mt hp<|Kp 1 hc<|Ke 2 hd<|Kf 1<|bq<|ay [iV u2.act,iV u2.item,iV u2.n,iV u2.kind,aw u2.label,aW<|u2.head.map aQ,aW<|u2.words.map aQ,aW<|u2.kids.map aK]
/-- The unit is found; it has kids; in its own row something is done. -/
theorem Tj (g:Nat) (bs:List AV) (p:PId) (u u2:TUnit) (n2:Nat) (Z:Nat→List AV) (hA:aq [eU u,aV p, .func (.func g) [] bs]=0) (hp:(ae u.act p.a && (ae u.item p.i && ae u.n p.n))=true) (hl:u.kids.length≤2 ^ 20) (hne:u.kids≠ []) (hn2:u2.kids.length=n2) (hd : ∀ k,kD g (.ptr 0 0 0 0::bs) (aa [dm u (.slice 3 0 0 u.kids.length (some (u.kids.length+k))),uT p,zO,dn ((u.kids++List.replicate k bw).map aK)]) (.tuple []) (aa [dm u2 (.slice 3 0 0 n2 (some (u.kids.length+k))),uT p,zO,dn (u2.kids.map aK++Z k)])):kP 138 [eU u,aV p, .func (.func g) [] bs] (eU u2):=by
  let q:= [ay [iV u.act,iV u.item,iV u.n,iV u.kind,aw u.label,aW (u.head.map aQ),aW (u.words.map aQ),aW (u.kids.map aK)]];let q1:= [iV p.a,iV p.i,iV p.n];let q2:= [ay [iV 0,iV 0,iV 0,iV 0,aw [],af,af,af]];let q3:=List.map aK u2.kids;exact bo (ht:=oA) Tryz.func138<|Kv 5 (kS ((Tryz.prog).underlying 27) u.act u.item u.n p.a p.i p.n<|aa [aZ 8 false 0 q,aZ 3 false 0 [ay q1],aZ 8 false 0 q2])<|Mt hp<|Mg 1<|Mq (Dr u.kids hne hl (aZ 8 false 0 q) (aZ 3 false 0 [ay q1])<|aZ 8 false 0 q2) fun a _=>Ke 2 (hd a)<|M2 (.fza 0 7 3 [3,6] q3) (j4 rt rt rt ti) (bT (aY 0) (Ub (xs:=List.map aK u2.kids) (ys:=Z a) (n:=n2) sA)<|aX gH u2.kids)<|Kf 1<|bq<|ay [iV u2.act,iV u2.item,iV u2.n,iV u2.kind,aw u2.label,aW<|u2.head.map aQ,aW<|u2.words.map aQ,aW q3]
theorem Tb {l m:List TUnit} {i:Nat} (h:i<l.length):gD (l++m) i=gD l i:=by
  grind [gD]
theorem sR {l m:List TUnit} {i n:Nat} {x:TUnit} (h:l.length=n) (hi:i<n):((l++m).set i x).take n=l.set i x:=by
  simp_all
theorem Ry {l m:List TUnit} {n:Nat} (h:l.length=n):(l++m).take n=l:=by simp_all
theorem Km {l:List TUnit} {i:Nat} (h:i<l.length):l.drop i=gD l i::l.drop (i+1):=by
  grind [List.drop_eq_getElem_cons, gD]
theorem Wr {p:PId} {f:TUnit→TUnit} {l:List TUnit} {i:Nat} (h:iT p f l i (l.drop i)) (hi:l.length≤i):eY p f l=l:=by
  grind [List.drop_eq_nil_of_le, iT.done]
theorem Wo {p:PId} {f:TUnit→TUnit} {l:List TUnit} {i:Nat} (h:iT p f l i (l.drop i)) (hi:i<l.length) (hw:cW p (gD l i)=false):iT p f l (i+1) (l.drop (i+1)):=by
  grind [Km, iT.skip]
theorem Wp {p:PId} {f:TUnit→TUnit} {l:List TUnit} {i:Nat} (h:iT p f l i (l.drop i)) (hi:i<l.length) (hw:cW p (gD l i)=true):eY p f l=l.set i (dQ p f (gD l i)):=by
  grind [Km, iT.hit]
/-- The unit is another one without kids. -/
theorem Xy (g:Nat) (bs:List AV) (p:PId) (u:TUnit) (hA:aq [eU u,aV p, .func (.func g) [] bs]=0) (hA2:(AV.func (.func g) [] bs).top=0) (hp:(ae u.act p.a && (ae u.item p.i && ae u.n p.n))=false) (h0:u.kids.length=0) (hl0:ar 0 (Int.ofNat u.kids.length)=false):kP 138 [eU u,aV p, .func (.func g) [] bs] (eU u):=by
  have hc:=Cw u.kids (by omega)
  let q:= [aZ 8 false 0 [ay [iV u.act,iV u.item,iV u.n,iV u.kind,aw u.label,aW (u.head.map aQ),aW (u.words.map aQ),aW (u.kids.map aK)]],aZ 3 false 0 [ay [iV p.a,iV p.i,iV p.n]],aZ 8 false 0 [ay [iV 0,iV 0,iV 0,iV 0,aw [],af,af,af]]];let q1:= [bJ (bW g) [] bs,bK 0 0 0 0,bK 1 0 0 0,bK 2 0 0 0,aW (u.kids.map aK),aW (u.kids.map aK),nV u.kids.length,iV 0];exact bo (ht:=oA) Tryz.func138<|Kv 5 (kS ((Tryz.prog).underlying 27) u.act u.item u.n p.a p.i p.n<|aa q)<|Mh hp<|Kp 1 hc<|Kl 2 27 (ln aK u.kids)<|Mg 0<|Wc [2,3,4,6,7,26,27,28] (q1,q) True 0 ti fun _ _=>Kh 0 hl0<|Kf 4<|bq<|ay [iV u.act,iV u.item,iV u.n,iV u.kind,aw u.label,aW<|u.head.map aQ,aW<|u.words.map aQ,aW<|u.kids.map aK]
/-- The unit is another: what is done below. -/
theorem Xv (g:Nat) (bs:List AV) (p:PId) (f:TUnit→TUnit) (u:TUnit) (hA:aq [eU u,aV p, .func (.func g) [] bs]=0) (hA2:(AV.func (.func g) [] bs).top=0) (hp:(ae u.act p.a && (ae u.item p.i && ae u.n p.n))=false) (hne:u.kids≠ []) (hn:u.kids.length≤2 ^ 20)
    (hf : ∀ k,k∈u.kids→kP 48 [eU k,aV p] (.tuple [eU (eF p k), .bool (cW p k)]))
    (ih : ∀ k,k∈u.kids→kP 138 [eU k,aV p, .func (.func g) [] bs] (eU (dQ p f k))):kP 138 [eU u,aV p, .func (.func g) [] bs] (eU (mf u (eY p f u.kids))):=by
  have rr0 : ∀ b',(h:(List.map aK (mf u (eY p f u.kids)).kids)=b':=by first | rfl | (rw [Wp hx0.2 (by (first | omega | (simp only [oN] at *;omega))) (by rw [← q0 (by (first | omega | (simp only [oN] at *;omega)))];assumption),q0 (by (first | omega | (simp only [oN] at *;omega)))];exact congrArg _ (sR rfl (by (first | omega | (simp only [oN] at *;omega)))).symm) | (rw [Wr hx0.2 (by (first | omega | (simp only [oN] at *;omega)))];exact congrArg _ (Ry rfl).symm))→(List.map aK (mf u (eY p f u.kids)).kids)=b':=(fun _ h=>h);exact bo (ht:=oA) Tryz.func138<|Kv 5 (kS ((Tryz.prog).underlying 27) u.act u.item u.n p.a p.i p.n<|aa [aZ 8 false 0 [ay [iV u.act,iV u.item,iV u.n,iV u.kind,aw u.label,aW<|u.head.map aQ,aW<|u.words.map aQ,aW<|u.kids.map aK]],aZ 3 false 0 [ay [iV p.a,iV p.i,iV p.n]],aZ 8 false 0 [ay [iV 0,iV 0,iV 0,iV 0,aw [],af,af,af]]])<|Mh hp<|Mg 1<|Mq (Dr u.kids hne hn (aZ 8 false 0 [ay [iV u.act,iV u.item,iV u.n,iV u.kind,aw u.label,aW<|u.head.map aQ,aW<|u.words.map aQ,aW<|u.kids.map aK]]) (aZ 3 false 0 [ay [iV p.a,iV p.i,iV p.n]])<|aZ 8 false 0 [ay [iV 0,iV 0,iV 0,iV 0,aw [],af,af,af]]) fun a _=>Mg 3<|YE (0:Nat) [2,3,4,6,7,26,27,28] (fun b=>([bJ (bW g) [] bs,bK 0 0 0 0,bK 1 0 0 0,bK 2 0 0 0,aD 3 0 0 u.kids.length<|some<|u.kids.length+a,aD 3 0 0 u.kids.length<|some<|u.kids.length+a,nV u.kids.length,nV b],[aZ 8 false 0 [ay [iV u.act,iV u.item,iV u.n,iV u.kind,aw u.label,aW<|u.head.map aQ,aW<|u.words.map aQ,aW<|u.kids.map aK]],aZ 3 false 0 [ay [iV p.a,iV p.i,iV p.n]],aZ 8 false 0 [ay [iV 0,iV 0,iV 0,iV 0,aw [],af,af,af]],aZ 8 false 0<|(u.kids++List.replicate a bw).map aK])) (fun a=>a≤u.kids.length∧iT p f u.kids a (u.kids.drop a)) (fun a=>u.kids.length - a) (by simp_all [iT.start]) fun b hx0 c=>have hx0:b≤u.kids.length∧iT p f u.kids b (u.kids.drop b):=hx0;have q0:b<u.kids.length→gD (u.kids++List.replicate a bw) b=gD u.kids b:=fun h=>Tb h;Ka 0 (Int.ofNat b) (Int.ofNat u.kids.length) (fun _ _=>K1 0 .rix (et (aY 0) (sA:b<u.kids.length))<|Mr (et (aY 0)<|qr aK (g:=Go.Ev.eU) aI (gR:b<(u.kids++List.replicate a bw).length))<|Kp 4 (hf (gD (u.kids++List.replicate a bw) b)<|by grind [iw])<|Kb 6 (cW p<|gD (u.kids++List.replicate a bw) b) (fun _=>Kp 4 (ih (gD (u.kids++List.replicate a bw) b)<|by grind [iw])<|M1 .rix (et (aY 0) (sA:b<u.kids.length))<|M1 (.rst (ay [iV (gD (u.kids++List.replicate a bw) b).act,iV (gD (u.kids++List.replicate a bw) b).item,iV (gD (u.kids++List.replicate a bw) b).n,iV (gD (u.kids++List.replicate a bw) b).kind,aw (gD (u.kids++List.replicate a bw) b).label,aW<|List.map aQ (gD (u.kids++List.replicate a bw) b).head,aW<|List.map aQ (gD (u.kids++List.replicate a bw) b).words,aW<|List.map aK (gD (u.kids++List.replicate a bw) b).kids])<|((u.kids++List.replicate a bw).set b<|dQ p f<|gD (u.kids++List.replicate a bw) b).map aK) (bT (aY 0) (qr aK (g:=Go.Ev.eU) aI (gR:b<(u.kids++List.replicate a bw).length))<|CF (f:=aK) (g:=Go.Ev.eU) aI (l:=u.kids++List.replicate a bw) (i:=b) (w:=dQ p f<|gD (u.kids++List.replicate a bw) b))<|Mg 0<|M2 (.fsl 3 [3,6] 48<|(((u.kids++List.replicate a bw).set b<|dQ p f<|gD (u.kids++List.replicate a bw) b).take u.kids.length).map aK) (j4 rt rt rt ti) (bT (aY 0) (Bv (f:=aK) (l:=(u.kids++List.replicate a bw).set b<|dQ p f<|gD (u.kids++List.replicate a bw) b) (n:=u.kids.length))<|aX gH<|((u.kids++List.replicate a bw).set b<|dQ p f<|gD (u.kids++List.replicate a bw) b).take u.kids.length)<|Ml 48 (fK ((((u.kids++List.replicate a bw).set b<|dQ p f<|gD (u.kids++List.replicate a bw) b).take u.kids.length).map aK) (nM (some<|u.kids.length+a)<|some u.kids.length)<|aX gH<|((u.kids++List.replicate a bw).set b<|dQ p f<|gD (u.kids++List.replicate a bw) b).take u.kids.length)<|Kf 3 (aO (.cons (bq _)<|.cons (bq _)<|.cons (bq _)<|.cons (bq _)<|.cons (bq _)<|.cons (bq _)<|.cons (bq _)<|.cons (cJ<|rr0<|(((u.kids++List.replicate a bw).set b<|dQ p f<|gD (u.kids++List.replicate a bw) b).take u.kids.length).map aK) .nil)<|by kernel_rfl:Le _ (AV.agg [iV u.act,iV u.item,iV u.n,iV u.kind,AV.str u.label,AV.ls (u.head.map aQ),AV.ls (u.words.map aQ),AV.ls ((((u.kids++List.replicate a bw).set b (dQ p f (gD (u.kids++List.replicate a bw) b))).take u.kids.length).map aK)]))) fun _=>Kl 0 47 (gP b)<|Mg 0<|M2 (.frl 4 [3,4,6,7,26,27,28] [2]) (HY (N1 (sz:=8) (op:=false) (ep:=0) (n:=4)<|aX gH<|u.kids++List.replicate a bw) rt rt rt ti) (et (oA:(AV.func (Fn.func g) [] bs).top≤4) ti)<|Mf<|c (b+1) (by grind [Wo]) gR) fun _ _=>Mg 0<|M2 (.fsl 3 [3,6] 48<|((u.kids++List.replicate a bw).take u.kids.length).map aK) (j4 rt rt rt ti) (bT (aY 0) (Bv (f:=aK) (l:=u.kids++List.replicate a bw) (n:=u.kids.length))<|aX gH<|(u.kids++List.replicate a bw).take u.kids.length)<|Ml 48 (fK (((u.kids++List.replicate a bw).take u.kids.length).map aK) (nM (some<|u.kids.length+a)<|some u.kids.length)<|aX gH<|(u.kids++List.replicate a bw).take u.kids.length)<|Kf 3 (aO (.cons (bq _)<|.cons (bq _)<|.cons (bq _)<|.cons (bq _)<|.cons (bq _)<|.cons (bq _)<|.cons (bq _)<|.cons (cJ<|rr0<|((u.kids++List.replicate a bw).take u.kids.length).map aK) .nil)<|by kernel_rfl:Le _ (AV.agg [iV u.act,iV u.item,iV u.n,iV u.kind,AV.str u.label,AV.ls (u.head.map aQ),AV.ls (u.words.map aQ),AV.ls (((u.kids++List.replicate a bw).take u.kids.length).map aK)]))
theorem gL {g:Nat} {bs:List AV} {p:PId} (hb:aq bs=0) (x:TUnit):aq [eU x,aV p, .func (.func g) [] bs]=0:=by
  have h1:(eU x).top=0:=by rw [← aI];exact gH x
  have h2:(AV.func (.func g) [] bs).top=0:=by simp only [AV.top,aq,hb];rfl
  exact jF.2 fun y hy=>by
    simp only [fj,List.mem_nil_iff,or_false] at hy
    rcases hy with rfl | rfl | rfl
    · omega
    · exact Ip p
    omega
/-- with: the first unit of the number is changed, wherever it stands. -/
theorem oU (g:Nat) (bs:List AV) (p:PId) (f:TUnit→TUnit) (hb:aq bs=0) : ∀ (u:TUnit),nU u≤2 ^ 19→(∀ x,x∈be u→x.head.length<2 ^ 30∧x.words.length<2 ^ 30)→
    (∀ v,v∈be u→fP p v=true→kP 138 [eU v,aV p, .func (.func g) [] bs] (eU (f v)))→kP 138 [eU u,aV p, .func (.func g) [] bs] (eU (dQ p f u)):=by
  refine TUnit.ind fun u ih hn ht hit=>?_
  have hA:=gL (g:=g) (bs:=bs) (p:=p) hb
  cases hi:fP p u with
  | true=>grind [ut, dX]
  | false=>
    have hkl:=ba u
    rw [oq hi]
    by_cases h0:u.kids = []
    · have e:mf u (eY p f u.kids)=u:=by rw [h0,rC];cases u;simp only [TUnit.kids] at h0;subst h0;rfl
      rw [e]
      exact Xy g bs p u (hA u) (by simp only [AV.top,aq,hb];rfl) hi (by simp_all) (by rw [h0];rfl)
    · exact Xv g bs p f u (hA u) (by simp only [AV.top,aq,hb];rfl) hi h0 (by omega) (fun k hk=>QK p k (by have:=g9 hk;omega) fun x hx=>ht x (bg hk hx))
        fun k hk=>ih k hk (by have:=g9 hk;omega) (fun x hx=>ht x (bg hk hx)) fun v hv=>hit v (bg hk hv)
theorem AY {bs:List AV} (rs:List Nat) (h0:fg rs 0=0) (hb:aq bs=0):lw (fg rs) (.ptr 0 0 0 0::bs) = .ptr 0 0 0 0::bs:=by
  grind [lw, Ev.ren, eH]
theorem zH {g:Nat} {bs:List AV} {u u2:TUnit} {n n2 c:Nat} {X X2:List AV} {A B:AObj} (hb:aq bs=0) (hX:aq X=0) (hX2:aq X2=0) (h:kD g (.ptr 0 0 0 0::bs) (aa [dm u (.slice 1 0 0 n (some c)),dn X]) (.tuple []) (aa [dm u2 (.slice 1 0 0 n2 (some c)),dn X2])) :
    kD g (.ptr 0 0 0 0::bs) (aa [dm u (.slice 3 0 0 n (some c)),A,B,dn X]) (.tuple []) (aa [dm u2 (.slice 3 0 0 n2 (some c)),A,B,dn X2]):=
  o8 iG [0,3] h (AY _ rfl hb) rfl rfl ⟨⟨rfl,uo (by kernel_rfl)⟩,⟨rfl,by show aq X≤2;omega⟩,trivial⟩ ⟨⟨rfl,uo (by kernel_rfl)⟩,⟨rfl,by show aq X2≤2;omega⟩,trivial⟩
    (by show Nat.mx _ (aq bs)≤2;rw [hb];exact uo (by kernel_rfl)) (bE _) ⟨by kernel_rfl,by rw [uO hX];kernel_rfl,trivial⟩ ⟨by kernel_rfl,by kernel_rfl,trivial⟩
    (by show _=AHeap.put (AHeap.put _ _ _) _ (jI _ (.row 8 false 0 X2));rw [uO hX2];kernel_rfl)
theorem Cq {g:Nat} {bs:List AV} {u u2:TUnit} {n c:Nat} {X Y:List AV} {A B:AObj} (hb:aq bs=0) (hX:aq X=0) (h:kD g (.ptr 0 0 0 0::bs) (aa [dm u (.slice 1 0 0 n (some c)),dn X]) (.tuple []) (aa [dm u2 (.ls Y),dn X])) :
    kD g (.ptr 0 0 0 0::bs) (aa [dm u (.slice 3 0 0 n (some c)),A,B,dn X]) (.tuple []) (aa [dm u2 (.ls Y),A,B,dn X]):=
  o8 iG [0,3] h (AY _ rfl hb) rfl rfl ⟨⟨rfl,uo (by kernel_rfl)⟩,⟨rfl,by show aq X≤2;omega⟩,trivial⟩ ⟨⟨rfl,uo (by kernel_rfl)⟩,⟨rfl,by show aq X≤2;omega⟩,trivial⟩
    (by show Nat.mx _ (aq bs)≤2;rw [hb];exact uo (by kernel_rfl)) (bE _) ⟨by kernel_rfl,by rw [uO hX];kernel_rfl,trivial⟩ ⟨by kernel_rfl,by kernel_rfl,trivial⟩
    (by show _=AHeap.put (AHeap.put _ _ _) _ (jI _ (.row 8 false 0 X));rw [uO hX];kernel_rfl)
theorem jt {g:Nat} {bs:List AV} {u u2:TUnit} {A B:AObj} {K K2:AV} (hb:aq bs=0) (h1:aq [.agg [iV u.act,iV u.item,iV u.n,iV u.kind, .str u.label, .ls (u.head.map aQ), .ls (u.words.map aQ),K]]=0) (h2:aq [.agg [iV u2.act,iV u2.item,iV u2.n,iV u2.kind, .str u2.label, .ls (u2.head.map aQ), .ls (u2.words.map aQ),K2]]=0) (h:kD g (.ptr 0 0 0 0::bs) (aa [dm u K]) (.tuple []) (aa [dm u2 K2])) :
    kD g (.ptr 0 0 0 0::bs) (aa [dm u K,A,B]) (.tuple []) (aa [dm u2 K2,A,B]):=
  fX iG 0 h1 h2 h (AY _ rfl hb) rfl rfl (by simp only [aq,AV.top,hb];rfl) rfl (by kernel_rfl) (by kernel_rfl)
/-- The unit is found; it has kids; a kid more is laid into its row, or into a new one. -/
theorem KZ (g:Nat) (bs:List AV) (p:PId) (u u2:TUnit) (n2:Nat) (Z:Nat→List AV) (hA:aq [eU u,aV p, .func (.func g) [] bs]=0) (hp:(ae u.act p.a && (ae u.item p.i && ae u.n p.n))=true) (hl:u.kids.length≤2 ^ 20) (hne:u.kids≠ []) (hn2:u2.kids.length=n2)
    (hdA : ∀ k,By (Nat.beq k 0) true→kD g (.ptr 0 0 0 0::bs) (aa [dm u (.slice 3 0 0 u.kids.length (some (u.kids.length+k))),uT p,zO,dn ((u.kids++List.replicate k bw).map aK)]) (.tuple []) (aa [dm u2 (.ls (u2.kids.map aK)),uT p,zO,dn ((u.kids++List.replicate k bw).map aK)]))
    (hdB : ∀ k,By (Nat.beq k 0) false→kD g (.ptr 0 0 0 0::bs) (aa [dm u (.slice 3 0 0 u.kids.length (some (u.kids.length+k))),uT p,zO,dn ((u.kids++List.replicate k bw).map aK)]) (.tuple []) (aa [dm u2 (.slice 3 0 0 n2 (some (u.kids.length+k))),uT p,zO,dn (u2.kids.map aK++Z k)])):kP 138 [eU u,aV p, .func (.func g) [] bs] (eU u2):=by
  let q:=ay [iV u2.act,iV u2.item,iV u2.n,iV u2.kind,aw u2.label,aW (u2.head.map aQ),aW (u2.words.map aQ),aW (u2.kids.map aK)];let q1:= [ay [iV u.act,iV u.item,iV u.n,iV u.kind,aw u.label,aW (u.head.map aQ),aW (u.words.map aQ),aW (u.kids.map aK)]];let q2:= [iV p.a,iV p.i,iV p.n];let q3:= [ay [iV 0,iV 0,iV 0,iV 0,aw [],af,af,af]];exact bo (ht:=oA) Tryz.func138<|Kv 5 (kS ((Tryz.prog).underlying 27) u.act u.item u.n p.a p.i p.n<|aa [aZ 8 false 0 q1,aZ 3 false 0 [ay q2],aZ 8 false 0 q3])<|Mt hp<|Mg 1<|Mq (Dr u.kids hne hl (aZ 8 false 0 q1) (aZ 3 false 0 [ay q2])<|aZ 8 false 0 q3) fun a _=>Ks 2 (a.beq 0) (fun b=>Me (hdA a b)<|Kf 1<|bq q) fun b=>Me (hdB a b)<|M2 (.fza 0 7 3 [3,6]<|u2.kids.map aK) (j4 rt rt rt ti) (bT (aY 0) (Ub (xs:=List.map aK u2.kids) (ys:=Z a) (n:=n2) sA)<|aX gH u2.kids)<|Kf 1<|bq q
/-- The unit is found; it has no kids; it gets one. -/
theorem KX (g:Nat) (bs:List AV) (p:PId) (u u2:TUnit) (hA:aq [eU u,aV p, .func (.func g) [] bs]=0) (hp:(ae u.act p.a && (ae u.item p.i && ae u.n p.n))=true) (h0:u.kids = [])
    (hdN:kD g (.ptr 0 0 0 0::bs) (aa [dm u .nils,uT p,zO]) (.tuple []) (aa [dm u2 (.ls (u2.kids.map aK)),uT p,zO]))
    (hdP:kD g (.ptr 0 0 0 0::bs) (aa [dm u (.ps [] true),uT p,zO]) (.tuple []) (aa [dm u2 (.ls (u2.kids.map aK)),uT p,zO])):kP 138 [eU u,aV p, .func (.func g) [] bs] (eU u2):=by
  obtain ⟨a,i,n,k,l,h,w,ks⟩:=u
  simp only [TUnit.kids] at h0
  subst h0
  let q:=ay [iV u2.act,iV u2.item,iV u2.n,iV u2.kind,aw u2.label,aW (u2.head.map aQ),aW (u2.words.map aQ),aW (u2.kids.map aK)];let q1:= [iV p.a,iV p.i,iV p.n];exact bo (ht:=oA) Tryz.func138<|Kv 5 (kS ((Tryz.prog).underlying 27) (TUnit.mk a i n k l h w []).act (TUnit.mk a i n k l h w []).item (TUnit.mk a i n k l h w []).n p.a p.i p.n<|aa [aZ 8 false 0 [ay [iV (TUnit.mk a i n k l h w []).act,iV (TUnit.mk a i n k l h w []).item,iV (TUnit.mk a i n k l h w []).n,iV (TUnit.mk a i n k l h w []).kind,aw l,aW<|List.map aQ (TUnit.mk a i n k l h w []).head,aW<|List.map aQ (TUnit.mk a i n k l h w []).words,aW []]],aZ 3 false 0 [ay q1],aZ 8 false 0 [ay [iV 0,iV 0,iV 0,iV 0,aw [],af,af,af]]])<|Mt hp<|Mg 1<|Mz 17 (fun (_:([]:List AV) = [])=>Mp GG<|Ke 2 hdN<|Kf 1<|bq q)<|Mp GF<|Ke 2 hdP<|Kf 1<|bq q
theorem jE {a b:List AV} (h1:aq a=0) (h2:aq b=0):aq (a++b)=0:=jF.2 fun x hx=>by
  rcases kB.1 hx with h | h
  · exact jF.1 h1 x h
  · exact jF.1 h2 x h
theorem QW (l:List TUnit):dq 8 (l.map aK)=true:=gk (fun u=>by cases u;rfl) l
theorem Th (x:TUnit):dq 8 [eU x]=true:=by kernel_rfl
theorem MI (x:TUnit):(eU x).top=0:=by rw [← aI];exact gH x
theorem sF {i:Nat} {x:TUnit} {l:List AV} (h:aq l=0):aq (gx i (eU x) l)=0:=jF.2 fun y hy=>by
  unfold gx at hy
  rcases kB.1 hy with h1 | h1
  · exact jF.1 h y (su h1)
  · rcases fj.1 h1 with rfl | h1
    · exact MI x
    · exact jF.1 h y (Nn h1)
theorem J7 (i:Nat) (x:TUnit) (l:List TUnit):(ww i x l).map aK=gx i (eU x) (l.map aK):=by
  unfold ww gx
  rw [pQ,eW,List.map_take,List.map_drop,aI]
theorem KB (i:Nat) (l:List TUnit):(l.eraseIdx i).map aK=(l.map aK).eraseIdx i:=by
  grind [List.eraseIdx_eq_take_drop_succ, List.map_take, List.map_drop]
theorem BS {i:Nat} {x:TUnit} {l:List TUnit} (h:i≤l.length):(ww i x l).length=l.length+1:=by
  grind [ww]
theorem Fe (l:List TUnit) (k:Nat):(l++List.replicate k bw).map aK=l.map aK++List.replicate k (aK bw):=by simp_all
theorem lD (k:Nat):aq (List.replicate k (aK bw))=0:=by rw [← List.map_replicate];exact aX gH _
/-- A kid is taken out. -/
theorem NG (p:PId) (i:Nat) (u:TUnit) (hn:nU u≤2 ^ 19) (ht : ∀ x,x∈be u→x.head.length<2 ^ 30∧x.words.length<2 ^ 30) (hv : ∀ v,v∈be u→fP p v=true→i<v.kids.length) :
    aP Tryz.prog G 138 [eU u,aV p, .func (.func 236) [] [.pptr [.int .i64 (.ofNat i)] 0 0]] (eU (dQ p (iQ i) u)):=by
  refine oU _ _ p (iQ i) rfl u hn ht fun v hm hid=>?_
  have hi:=hv v hm hid
  have hkl:=ba v
  have hvu:=dD hm
  have hl:v.kids.length≤2 ^ 20:=by omega
  refine Tj _ _ p v (iQ i v) (v.kids.length - 1) (fun k=>zU::List.replicate k (aK bw)) (gL rfl v) hid hl (fun e=>by grind) (by show (v.kids.eraseIdx i).length=_;grind) fun k=>?_
  have h:=Qt (v.kids.map aK) (List.replicate k (aK bw)) v.kids.length i hi (bI _) hl (QW _) (jE (aX gH _) (lD k))
  rw [pm] at h
  have hT:aq ((v.kids.map aK).eraseIdx i++(zU::List.replicate k (aK bw)))=0:=jE (by rw [← KB];exact aX gH _) (by show Nat.mx zU.top (aq _)=0;rw [lD];rfl)
  rw [Fe]
  show aG _ _ _ _ _ fun v1 h1=>v1 = .tuple []∧h1=aa [dm v (.slice 3 0 0 (v.kids.length - 1) (some (v.kids.length+k))),uT p,zO,dn ((v.kids.eraseIdx i).map aK++_)]
  rw [KB]
  refine zH rfl (jE (aX gH _) (lD k)) hT (Wn v v.kids.length _ i _ _ (jE (aX gH _) (lD k)) hT hi hl ?_)
  exact fX iG 1 (jE (aX gH _) (lD k)) hT h rfl rfl (by simp_all) (by kernel_rfl) (by kernel_rfl) (by kernel_rfl) (by kernel_rfl)
theorem VW (x:TUnit) (t:Bool) (off len c:Nat) (X:List AV):kD 234 [.ps [eU x] t, .slice 0 0 off len (some c)] (aa [dn X]) (.bool false) (aa [dn X]):=
  AB (tS:=29) (tR:=4) (e:=31) (n:=8) Tryz.func234 (by kernel_rfl) (by kernel_rfl) (by kernel_rfl) (by kernel_rfl) (by simp_all) (by kernel_rfl) (kX _ _) (by kernel_rfl:(aa [dn X]).get 0=some (.row 8 false 0 X))
/-- A kid laid into a row that has room. -/
theorem Fm (L:List AV) (x:TUnit) (z:AV) (Z:List AV) (n k i:Nat) (hi:i≤n) (hn:L.length=n) (hs:n<2 ^ 20) (hk:Z.length=k) (hf:dq 8 L=true) (hT:aq (L++z::Z)=0):kD 140 [.slice 0 0 0 n (some (n+(k+1))),nV i, .ps [eU x] true] (aa [dn (L++z::Z)]) (.slice 0 0 0 (n+1) (some (n+(k+1)))) (aa [dn (gx i (eU x) L++Z)]):=by
  rcases fJ i n with h | h
  · grind [Pn, Th, VW]
  · obtain rfl:i=n:=by omega
    exact Pp L Z (eU x) z true i k hn hs hk (Th x)
theorem Ft (L:List AV) (x:TUnit) (n i:Nat) (hi:i≤n) (hn:L.length=n) (hs:n<2 ^ 20) (hf:dq 8 L=true) (hT:aq L=0):kD 140 [.slice 0 0 0 n (some n),nV i, .ps [eU x] true] (aa [dn L]) (.ls (gx i (eU x) L)) (aa [dn L]):=by
  rcases fJ i n with h | h
  · refine Pm L (eU x) true n i h hn hs (Th x) hf hT (jF.2 fun y hy=>?_) (sF hT)
    rcases kB.1 hy with h1 | h1
    · exact jF.1 hT y (su h1)
    · rcases fj.1 h1 with rfl | h1
      · exact MI x
      · rw [(List.mem_replicate.1 h1).2];rfl
  · grind [Po, Th, sF]
/-- A kid is laid in. -/
theorem NE (p:PId) (i:Nat) (x u:TUnit) (hn:nU u≤2 ^ 19) (ht : ∀ x,x∈be u→x.head.length<2 ^ 30∧x.words.length<2 ^ 30) (hv : ∀ v,v∈be u→fP p v=true→i≤v.kids.length) :
    aP Tryz.prog G 138 [eU u,aV p, .func (.func 139) [] [.pptr [.int .i64 (.ofNat i)] 0 0, .pptr [eU x] 0 0]] (eU (dQ p (dI i x) u)):=by
  have hb:aq [.pptr [.int .i64 (.ofNat i)] 0 0, .pptr [eU x] 0 0]=0:=by kernel_rfl
  refine oU _ _ p (dI i x) hb u hn ht fun v hm hid=>?_
  have hi:=hv v hm hid
  have hkl:=ba v
  have hvu:=dD hm
  have hl:v.kids.length<2 ^ 20:=by omega
  have hK:=aX gH v.kids
  by_cases h0:v.kids = []
  · rw [h0] at hi
    obtain rfl:i=0:=by simp_all
    have e:(dI 0 x v).kids = [x]:=by show ww 0 x v.kids = [x];rw [h0];rfl
    have e2:(dI 0 x v).kids.map aK = [eU x]:=by rw [e,eW,aI];rfl
    refine KX _ _ p v (dI 0 x v) (gL hb v) hid h0 ?_ ?_
    · rw [e2];exact jt (u2:=dI 0 x v) hb (by kernel_rfl) (by kernel_rfl) (Vs v x [eU x] (Fp x true))
    · rw [e2];exact jt (u2:=dI 0 x v) hb (by kernel_rfl) (by kernel_rfl) (Vr v x [eU x] (Fo x true))
  · have e2:(dI i x v).kids.map aK=gx i (eU x) (v.kids.map aK):=J7 i x v.kids
    refine KZ _ _ p v (dI i x v) (v.kids.length+1) (fun k=>List.replicate (k - 1) (aK bw)) (gL hb v) hid (by omega) h0 (BS hi) (fun k hk=>?_) fun k hk=>?_
    · obtain rfl:k=0:=pX hk
      rw [e2,Fe,List.replicate_zero,eX]
      refine Cq (u2:=dI i x v) hb hK (Vt v x v.kids.length _ i _ _ hK ?_)
      exact fX iG 1 hK hK (Ft (v.kids.map aK) x v.kids.length i hi (bI _) hl (QW _) hK) rfl rfl (by simp_all) (by kernel_rfl) (by kernel_rfl) (by kernel_rfl) (by kernel_rfl)
    · obtain ⟨j,rfl⟩ : ∃ j,k=j+1:=⟨k - 1,by grind [Nat.ne_of_beq_eq_false]⟩
      rw [e2,Fe,show j+1 - 1=j from rfl,List.replicate_succ]
      have hT:aq (v.kids.map aK++aK bw::List.replicate j (aK bw))=0:=by rw [← List.replicate_succ];grind [jE, lD]
      have hT2:aq (gx i (eU x) (v.kids.map aK)++List.replicate j (aK bw))=0:=jE (sF hK) (lD _)
      refine zH (u2:=dI i x v) hb hT hT2 (Vu v x v.kids.length _ i _ _ hT hT2 ?_)
      exact fX iG 1 hT hT2 (Fm (v.kids.map aK) x (aK bw) (List.replicate j (aK bw)) v.kids.length j i hi (bI _) hl (pm ..) (QW _) hT) rfl rfl (by simp_all) (by kernel_rfl) (by kernel_rfl) (by kernel_rfl) (by kernel_rfl)
/-- A kid is laid in. -/
theorem NC (p:PId) (i:Nat) (x u:TUnit) (hn:nU u≤2 ^ 19) (ht : ∀ x,x∈be u→x.head.length<2 ^ 30∧x.words.length<2 ^ 30) (hv : ∀ v,v∈be u→fP p v=true→i≤v.kids.length) :
    aP Tryz.prog G 138 [eU u,aV p, .func (.func 150) [] [.pptr [.int .i64 (.ofNat i)] 0 0, .pptr [eU x] 0 0]] (eU (dQ p (dI i x) u)):=by
  have hb:aq [.pptr [.int .i64 (.ofNat i)] 0 0, .pptr [eU x] 0 0]=0:=by kernel_rfl
  refine oU _ _ p (dI i x) hb u hn ht fun v hm hid=>?_
  have hi:=hv v hm hid
  have hkl:=ba v
  have hvu:=dD hm
  have hl:v.kids.length<2 ^ 20:=by omega
  have hK:=aX gH v.kids
  by_cases h0:v.kids = []
  · rw [h0] at hi
    obtain rfl:i=0:=by simp_all
    have e:(dI 0 x v).kids = [x]:=by show ww 0 x v.kids = [x];rw [h0];rfl
    have e2:(dI 0 x v).kids.map aK = [eU x]:=by rw [e,eW,aI];rfl
    refine KX _ _ p v (dI 0 x v) (gL hb v) hid h0 ?_ ?_
    · rw [e2];exact jt (u2:=dI 0 x v) hb (by kernel_rfl) (by kernel_rfl) (Vy v x [eU x] (Fp x true))
    · rw [e2];exact jt (u2:=dI 0 x v) hb (by kernel_rfl) (by kernel_rfl) (Vv v x [eU x] (Fo x true))
  · have e2:(dI i x v).kids.map aK=gx i (eU x) (v.kids.map aK):=J7 i x v.kids
    refine KZ _ _ p v (dI i x v) (v.kids.length+1) (fun k=>List.replicate (k - 1) (aK bw)) (gL hb v) hid (by omega) h0 (BS hi) (fun k hk=>?_) fun k hk=>?_
    · obtain rfl:k=0:=pX hk
      rw [e2,Fe,List.replicate_zero,eX]
      refine Cq (u2:=dI i x v) hb hK (Va v x v.kids.length _ i _ _ hK ?_)
      exact fX iG 1 hK hK (Ft (v.kids.map aK) x v.kids.length i hi (bI _) hl (QW _) hK) rfl rfl (by simp_all) (by kernel_rfl) (by kernel_rfl) (by kernel_rfl) (by kernel_rfl)
    · obtain ⟨j,rfl⟩ : ∃ j,k=j+1:=⟨k - 1,by grind [Nat.ne_of_beq_eq_false]⟩
      rw [e2,Fe,show j+1 - 1=j from rfl,List.replicate_succ]
      have hT:aq (v.kids.map aK++aK bw::List.replicate j (aK bw))=0:=by rw [← List.replicate_succ];grind [jE, lD]
      have hT2:aq (gx i (eU x) (v.kids.map aK)++List.replicate j (aK bw))=0:=jE (sF hK) (lD _)
      refine zH (u2:=dI i x v) hb hT hT2 (Vb v x v.kids.length _ i _ _ hT hT2 ?_)
      exact fX iG 1 hT hT2 (Fm (v.kids.map aK) x (aK bw) (List.replicate j (aK bw)) v.kids.length j i hi (bI _) hl (pm ..) (QW _) hT) rfl rfl (by simp_all) (by kernel_rfl) (by kernel_rfl) (by kernel_rfl) (by kernel_rfl)
theorem Nu (p:PId) (l:List PWord) (u:TUnit) (hn:nU u≤2 ^ 19) (ht : ∀ x,x∈be u→x.head.length<2 ^ 30∧x.words.length<2 ^ 30) :
    kP 138 [eU u,aV p, .func (.func 143) [] [.pptr [.ls (l.map aQ)] 0 0]] (eU (dQ p (lr l) u)):=by
  have hb:aq [.pptr [.ls (l.map aQ)] 0 0]=0:=by kernel_rfl
  refine oU _ _ p (lr l) hb u hn ht fun v hm hid=>?_
  have hkl:=ba v
  have hvu:=dD hm
  exact xp _ _ p v ((lr l) v) (gL hb v) hid (by omega) (jt hb (by kernel_rfl) (by kernel_rfl) (Wl v l))
theorem NB (p:PId) (l:List PWord) (u:TUnit) (hn:nU u≤2 ^ 19) (ht : ∀ x,x∈be u→x.head.length<2 ^ 30∧x.words.length<2 ^ 30) :
    kP 138 [eU u,aV p, .func (.func 145) [] [.pptr [.ls (l.map aQ)] 0 0]] (eU (dQ p (lr l) u)):=by
  have hb:aq [.pptr [.ls (l.map aQ)] 0 0]=0:=by kernel_rfl
  refine oU _ _ p (lr l) hb u hn ht fun v hm hid=>?_
  have hkl:=ba v
  have hvu:=dD hm
  exact xp _ _ p v ((lr l) v) (gL hb v) hid (by omega) (jt hb (by kernel_rfl) (by kernel_rfl) (WH v l))
theorem NF (p:PId) (l:List PWord) (u:TUnit) (hn:nU u≤2 ^ 19) (ht : ∀ x,x∈be u→x.head.length<2 ^ 30∧x.words.length<2 ^ 30) :
    kP 138 [eU u,aV p, .func (.func 147) [] [.pptr [.ls (l.map aQ)] 0 0]] (eU (dQ p (zw l) u)):=by
  have hb:aq [.pptr [.ls (l.map aQ)] 0 0]=0:=by kernel_rfl
  refine oU _ _ p (zw l) hb u hn ht fun v hm hid=>?_
  have hkl:=ba v
  have hvu:=dD hm
  exact xp _ _ p v ((zw l) v) (gL hb v) hid (by omega) (jt hb (by kernel_rfl) (by kernel_rfl) (Xi v l))
theorem NA (p:PId) (d:PDeed) (u:TUnit) (hn:nU u≤2 ^ 19) (ht : ∀ x,x∈be u→x.head.length<2 ^ 30∧x.words.length<2 ^ 30) :
    kP 138 [eU u,aV p, .func (.func 149) [] [.pptr [az d] 0 0]] (eU (dQ p (qC d.it.label) u)):=by
  have hb:aq [.pptr [az d] 0 0]=0:=by kernel_rfl
  refine oU _ _ p (qC d.it.label) hb u hn ht fun v hm hid=>?_
  have hkl:=ba v
  have hvu:=dD hm
  exact xp _ _ p v ((qC d.it.label) v) (gL hb v) hid (by omega) (jt hb (by kernel_rfl) (by kernel_rfl) (WF v d))
end Go.Proofs.YtempcdhknnjebaaGreatDoor
