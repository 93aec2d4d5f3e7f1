/- Functions walked: what each of them answers, for the law of steps: part 2. Conditions: those that each theorem names. -/
import Derived.Test.YtempcdhknnjebaaGreatDoorH1
namespace Go.Proofs.YtempcdhknnjebaaGreatDoor
open Go Go.Ev
theorem kG (u:TUnit) (s:PStep):kP 260 [eU u,az s] (.bool (bh s u)):=by
  have rr0 b' (h:(bh s u)=b':=by (simp only [bh,aP,aS,ax,bS, *];first | done | rfl)):=h;exact bg Tryz.func260<|Kb 8 (ab u.kind s.kind) (fun a=>Kt 0 a<|Kt 0 a<|Kt 0 a<|Kt 0 a<|Ku 0 a<|Kf 0<|b9<|rr0<|dR u.label s.label) fun a=>Mh a<|Mh a<|Mh a<|Mh a<|My a<|Ky 0<|rr0 false
noncomputable abbrev jc (p:List PStep):AObj:= .row 1 false 0 [.ls (p.map az)]
noncomputable abbrev DF (ep n:Nat):AObj:= .row 1 false 0 [.slice 2 ep 0 n none]
noncomputable abbrev Au (ep:Nat) (l:List TUnit):AObj:= .row 8 true ep (l.map aV)
noncomputable abbrev LH:AObj:= .row 1 false 0 [.nils]
theorem B9 (s:PStep) (rs:List PStep) (u:TUnit) (h:By (bh s u) false):kD 259 [eU u, .ptr 0 0 0 0, .ptr 1 0 0 0] (aa [jc (s::rs),LH]) (.tuple []) (aa [jc (s::rs),LH]):=by
  have h':bh s u=false:=h
  exact fk Tryz.func259 fun a=>Kp 4 (kG u s)<|Mh h'<|M1 (.frz 2 []) (cH rt rt ti)<|Mf a
theorem Ij (s:PStep) (rs:List PStep) (u:TUnit) (h:By (bh s u) true):kD 259 [eU u, .ptr 0 0 0 0, .ptr 1 0 0 0] (aa [jc (s::rs),LH]) (.tuple []) (aa [jc (s::rs),DF 0 1,Au 0 [u]]):=by
  have h':bh s u=true:=h
  exact Na Tryz.func259<|Kp 4 (kG u s)<|Mt h'<|Mg 7<|M0 (.ren [0,1,3,2] [] [])<|M1 (.frz 3 []) (kq rt rt rt ti)<|Mf<|et (aU<|cK []) (by (simp only [Au,ee,vg,aH];rfl):(aa [AObj.row 1 false 0 [AV.ls ((s::rs).map az)],AObj.row 1 false 0 [AV.slice 2 0 0 1 none],AObj.row 8 true 0 [AV.agg [iV u.act,iV u.item,iV u.n,iV u.kind,AV.str u.label,AV.ls (u.head.map aQ),AV.ls (u.words.map aQ),AV.ls (u.kids.map aV)]]])=(aa [jc (s::rs),DF 0 1,Au 0 [u]]))
theorem MZ (s:PStep) (rs:List PStep) (u:TUnit) (ep n:Nat) (l:List TUnit) (h:By (bh s u) false):kD 259 [eU u, .ptr 0 0 0 0, .ptr 1 0 0 0] (aa [jc (s::rs),DF ep n,Au ep l]) (.tuple []) (aa [jc (s::rs),DF ep n,Au ep l]):=by
  have h':bh s u=false:=h
  exact fk Tryz.func259 fun a=>Kp 4 (kG u s)<|Mh h'<|M1 (.frz 3 []) (kq (tR 8 true ep 3<|aX gM l) rt rt ti)<|Mf a
theorem MX (s:PStep) (rs:List PStep) (u:TUnit) (ep n:Nat) (l:List TUnit) (h:By (bh s u) true) (hn:n=l.length) (hl:l.length<2 ^ 30):kD 259 [eU u, .ptr 0 0 0 0, .ptr 1 0 0 0] (aa [jc (s::rs),DF ep n,Au ep l]) (.tuple []) (aa [jc (s::rs),DF (ep+1) (n+1),Au (ep+1) (l++ [u])]):=by
  have h':bh s u=true:=h
  let q:= [iV 0,iV 0,iV 0,iV 0,aj [],ak,ak,ak];let q1:=List.map aV l++ [aw q];exact fk Tryz.func259 fun a=>Kp 4 (kG u s)<|Mt h'<|Mg 3<|Mw (.apx q1<|.rix<|.rst (aw q) ((l++ [u]).map aV)<|.go 0<|.frz 3 [] .fin)<|VT rt (iJ (tR 8 true ep 4<|aX gM l) rt) (et (m8 _ _:([aw q]:List AV)≠ []) rt) (et (cH (aU ep) (sA:n=(l.map aV).length) (by (refine aE (m:=2 ^ 31) ?_ ?_ ?_ <;> (try simp only [lC,lN]) <;> omega):small (n+([AV.agg [iV 0,iV 0,iV 0,iV 0,AV.str [],AV.nils,AV.nils,AV.nils]]).length) 120=true))<|aU q1) (et (aU<|ep+1) (oA:n<n+1)) rt (iJ (tR 8 true (ep+1) 4 (by exact UD _ rfl:aq q1=0)) rt) (cH (aU<|ep+1) (O1 (f:=aV) (l:=l) (z:=aw q) (oA:n=(l).length))<|OJ (f:=aV) (g:=Go.Ev.eU) aH (l:=l) (z:=aw q) (w:=u) (oA:n=(l).length)) (kq (tR 8 true (ep+1) 3<|aX gM<|l++ [u]) rt rt ti) a
theorem Gl (s:PStep) (rs:List PStep) : ∀ (u:TUnit),∀ (ep n:Nat) (l:List TUnit),n=l.length→l.length+nU u<2 ^ 30→kC 258 [eU u, .func (.func 259) [] [.ptr 0 0 0 0, .ptr 1 0 0 0]] (aa [jc (s::rs),DF ep n,Au ep l])
    (fun v h=>∃ y:Nat × Nat × List TUnit,(y.2.1=y.2.2.length∧y.2.2=l++lQ s u)∧v = .tuple []∧h=aa [jc (s::rs),DF y.1 y.2.1,Au y.1 y.2.2]):=by
  refine TUnit.ind fun u ih ep n l hn hl=>?_
  have hq:=i9 u
  have hkl:=bw u
  have hp:=ym s u
  rcases Bool.eq_false_or_eq_true (bh s u) with hc | hc
  · rw [hc] at hp
    exact pI Tryz.func258 fun a=>K1 2 (.frz 3 [1,2,6,7]) (kq (tR 8 true ep 3<|aX gM l) rt rt ti)<|Me (MX s rs u ep n l hc hn oA)<|Kl 2 11 (ln aV u.kids)<|Mg 0<|UJ aV u.kids (ep+1) (n+1) (l++ [u]) [1,10,11,12] (fun a _ b c d=>([bZ (bQ 259) [] [bJ 0 0 0 0,bJ 1 0 0 0],aW<|u.kids.map aV,nV u.kids.length,nV a],[aZ 1 false 0 [aW<|(s::rs).map az],aZ 1 false 0 [aG 2 b 0 c none],aZ 8 true b<|d.map aV])) (fun a _ b c=>b=c.length∧c++dV s a=l++ [u]++dV s u.kids∧c.length+eQ a<2 ^ 30) gR (fun _ _ b c d _ _ _ e _=>Kh 0 e<|Mf<|a (b,c,d)<|by grind [mo]) fun a _ b c d e f g i j k m _ o _=>have o:=(o).trans<|congrArg some<|aH g;have :=cP (J:=fun a b=>b.2.1=b.2.2.length∧b.2.2++dV s a=l++ [u]++dV s u.kids∧b.2.2.length+eQ a<2 ^ 30) (a:=(b,c,d)) k f;have e:=aM e k;have f:d.length+nU g<2 ^ 30:=(by grind [ba]);Kt 0 m<|Mx o<|K1 4 (.frz 3 [1,10,11,12,16,17]) (kq (tR 8 true b 3<|aX gM d) rt rt ti)<|Mq (ih g e b c d oA f) fun b _=>Kl 0 19 (dB a)<|Kf 0<|j b.1 b.2.1 b.2.2<|by grind [ba, ge, mY]
  · rw [hc] at hp
    exact pI Tryz.func258 fun a=>K1 2 (.frz 3 [1,2,6,7]) (kq (tR 8 true ep 3<|aX gM l) rt rt ti)<|Me (MZ s rs u ep n l hc)<|Kl 2 11 (ln aV u.kids)<|Mg 0<|UJ aV u.kids ep n l [1,10,11,12] (fun a _ b c d=>([bZ (bQ 259) [] [bJ 0 0 0 0,bJ 1 0 0 0],aW<|u.kids.map aV,nV u.kids.length,nV a],[aZ 1 false 0 [aW<|(s::rs).map az],aZ 1 false 0 [aG 2 b 0 c none],aZ 8 true b<|d.map aV])) (fun a _ b c=>b=c.length∧c++dV s a=l++dV s u.kids∧c.length+eQ a<2 ^ 30) gR (fun _ _ b c d _ _ _ e _=>Kh 0 e<|Mf<|a (b,c,d)<|by grind [mo]) fun a _ b c d e f g i j k m _ o _=>have o:=(o).trans<|congrArg some<|aH g;have :=cP (J:=fun a b=>b.2.1=b.2.2.length∧b.2.2++dV s a=l++dV s u.kids∧b.2.2.length+eQ a<2 ^ 30) (a:=(b,c,d)) k f;have e:=aM e k;have f:d.length+nU g<2 ^ 30:=(by grind [ba]);Kt 0 m<|Mx o<|K1 4 (.frz 3 [1,10,11,12,16,17]) (kq (tR 8 true b 3<|aX gM d) rt rt ti)<|Mq (ih g e b c d oA f) fun b _=>Kl 0 19 (dB a)<|Kf 0<|j b.1 b.2.1 b.2.2<|by grind [ba, ge, mY]
theorem Gm (s:PStep) (rs:List PStep) : ∀ (u:TUnit),nU u≤2 ^ 20→By (lQ s u).isEmpty true→kD 258 [eU u, .func (.func 259) [] [.ptr 0 0 0 0, .ptr 1 0 0 0]] (aa [jc (s::rs),LH]) (.tuple []) (aa [jc (s::rs),LH]):=by
  refine TUnit.ind fun u ih hn he=>?_
  have hkl:=bw u
  have hp:=ym s u
  have he':=List.isEmpty_iff.1 (show (lQ s u).isEmpty=true from he)
  rw [he'] at hp
  rcases Bool.eq_false_or_eq_true (bh s u) with hc | hc
  · grind
  · rw [hc] at hp
    have hp:dV s u.kids = []:=hp.symm
    exact fk Tryz.func258 fun a=>K1 2 (.frz 2 [1,2,6,7]) (cH rt rt ti)<|Me (B9 s rs u hc)<|Kl 2 11 (ln aV u.kids)<|Mg 0<|rB aV u.kids [1,10,11,12] (fun a _=>([bZ (bQ 259) [] [bJ 0 0 0 0,bJ 1 0 0 0],aW<|u.kids.map aV,nV u.kids.length,nV a],[aZ 1 false 0 [aW<|(s::rs).map az],aZ 1 false 0 [ak]])) (fun a=>dV s a= []) oA (fun _ _ _ _ _ b _=>Kh 0 b<|Mf a) fun a _ b _ c d e f g _ h i=>have h:=h.trans<|congrArg some<|aH c;have j:=aM b f;have b:=bI (sn<|hJ<|aM b f) hn;have f:(lQ s c).isEmpty=true:=(by rw [ge] at i;rw [(List.append_eq_nil_iff.1 i).1];rfl);Kt 0 g<|Mx h<|K1 4 (.frz 2 [1,10,11,12,16,17]) (cH rt rt ti)<|Me (ih c j b f)<|Kl 0 19 (dB a)<|Kf 0<|e<|by grind [ge]
theorem Qc (s:PStep) (rs:List PStep) : ∀ (u:TUnit),nU u≤2 ^ 20→By (lQ s u).isEmpty false→kC 258 [eU u, .func (.func 259) [] [.ptr 0 0 0 0, .ptr 1 0 0 0]] (aa [jc (s::rs),LH])
    (fun v h=>∃ y:Nat × Nat × List TUnit,(y.2.1=y.2.2.length∧y.2.2=lQ s u)∧v = .tuple []∧h=aa [jc (s::rs),DF y.1 y.2.1,Au y.1 y.2.2]):=by
  refine TUnit.ind fun u ih hn he=>?_
  have hq:=i9 u
  have hkl:=bw u
  have hp:=ym s u
  rcases Bool.eq_false_or_eq_true (bh s u) with hc | hc
  · rw [hc] at hp
    exact pI Tryz.func258 fun a=>K1 2 (.frz 2 [1,2,6,7]) (cH rt rt ti)<|Me (Ij s rs u hc)<|Kl 2 11 (ln aV u.kids)<|Mg 0<|UJ aV u.kids (0:Nat) (1:Nat) ([u]:List TUnit) [1,10,11,12] (fun a _ b c d=>([bZ (bQ 259) [] [bJ 0 0 0 0,bJ 1 0 0 0],aW<|u.kids.map aV,nV u.kids.length,nV a],[aZ 1 false 0 [aW<|(s::rs).map az],aZ 1 false 0 [aG 2 b 0 c none],aZ 8 true b<|d.map aV])) (fun a _ b c=>b=c.length∧c++dV s a= [u]++dV s u.kids∧c.length+eQ a<2 ^ 30) gR (fun _ _ b c d _ _ _ e _=>Kh 0 e<|Mf<|a (b,c,d)<|by grind [mo]) fun a _ b c d e f g i j k l _ m _=>have m:=(m).trans<|congrArg some<|aH g;have :=cP (J:=fun a b=>b.2.1=b.2.2.length∧b.2.2++dV s a= [u]++dV s u.kids∧b.2.2.length+eQ a<2 ^ 30) (a:=(b,c,d)) k f;have :=aM e k;have e:d.length+nU g<2 ^ 30:=(by grind [ba]);Kt 0 l<|Mx m<|K1 4 (.frz 3 [1,10,11,12,16,17]) (kq (tR 8 true b 3<|aX gM d) rt rt ti)<|Mq (Gl s rs g b c d oA e) fun b _=>Kl 0 19 (dB a)<|Kf 0<|j b.1 b.2.1 b.2.2<|by grind [ba, ge, mY]
  · rw [hc] at hp
    have hne:dV s u.kids≠ []:=fun e=>by
      simp_all
    exact pI Tryz.func258 fun a=>K1 2 (.frz 2 [1,2,6,7]) (cH rt rt ti)<|Me (B9 s rs u hc)<|Kl 2 11 (ln aV u.kids)<|Mg 0<|ll Nat Nat (List TUnit) aV u.kids [1,10,11,12] (fun a _=>([bZ (bQ 259) [] [bJ 0 0 0 0,bJ 1 0 0 0],aW<|u.kids.map aV,nV u.kids.length,nV a],[aZ 1 false 0 [aW<|(s::rs).map az],aZ 1 false 0 [ak]])) (fun a _ b c d=>([bZ (bQ 259) [] [bJ 0 0 0 0,bJ 1 0 0 0],aW<|u.kids.map aV,nV u.kids.length,nV a],[aZ 1 false 0 [aW<|(s::rs).map az],aZ 1 false 0 [aG 2 b 0 c none],aZ 8 true b<|d.map aV])) (fun a=>a≠[]∧dV s a=dV s u.kids) (fun a _ b c=>b=c.length∧c++dV s a=dV s u.kids∧c.length+eQ a<2 ^ 30) (by (exact ⟨Js rfl hne,rfl⟩)) (fun _ _ _ _ _ _ _=>Mw .abs (sA:False)) (fun a _ b c d f g i j k _ l _=>have l:=(l).trans<|congrArg some<|aH d;have :=cP (J:=fun a _=>a≠[]∧dV s a=dV s u.kids) (a:=()) j c;have c:=aM b j;have m:=bI (sn<|hJ<|aM b j) hn;have :nU d+eQ f≤2 ^ 20:=(by have z:=oB b j;omega);Kt 0 k<|Mx l<|K1 4 (.frz 2 [1,10,11,12,16,17]) (cH rt rt ti)<|Ms (lQ s d).isEmpty (fun b=>Me (Gm s rs d m b)<|Kl 0 19 (dB a)<|Kf 0<|g<|by (have e:dV s f=dV s u.kids:=(by grind [ge]);exact ⟨Js e hne,e⟩)) fun b=>Mq (ih d c m b) fun b _=>Kl 0 19 (dB a)<|Kf 0<|i b.1 b.2.1 b.2.2<|by grind [ge, mY]) (fun _ _ b c d _ _ _ f g=>Kh 0 f<|Mf<|a (b,c,d)<|by (refine ⟨g.1,?_⟩;have:=g.2.1;rw [mo,ed] at this;simp_all)) fun a _ b c d f g i j _ k l m _ n _=>have n:=(n).trans<|congrArg some<|aH i;have :=cP (J:=fun a b=>b.2.1=b.2.2.length∧b.2.2++dV s a=dV s u.kids∧b.2.2.length+eQ a<2 ^ 30) (a:=(b,c,d)) l g;have :=aM f l;have :=bI (sn<|hJ<|aM f l) hn;have :nU i+eQ j≤2 ^ 20:=(by have z:=oB f l;omega);Kt 0 m<|Mx n<|K1 4 (.frz 3 [1,10,11,12,16,17]) (kq (tR 8 true b 3<|aX gM d) rt rt ti)<|Mq (Gl s rs i b c d oA<|by grind [ba]) fun b _=>Kl 0 19 (dB a)<|Kf 0<|k b.1 b.2.1 b.2.2<|by grind [ge, mY]
theorem Tk (u:TUnit) (hb:kf []=true):kP 182 [eU u, .ls (([]:List PStep).map az)] (.ls ((dO u []).map aV)):=by
  have hv:=uv [] (by simp) (fun s h=>by grind)
  rw [F4 hb]
  have rr0 b' (h:(List.map aV [u])=b':=by (rw [ee,aH];rfl)):=h;let q:= [aw [iV u.act,iV u.item,iV u.n,iV u.kind,aj u.label,aW (u.head.map aQ),aW (u.words.map aQ),aW (u.kids.map aV)]];exact bg Tryz.func182<|Kp 3 hv<|Kf 10 (Le.lsp (rr0 q)<|by rfl:Le _ (AV.ps q true))
def F7 (u:TUnit) (s:PStep) (rs:List PStep) (z1000:List TUnit):Prop:=dO u (s::rs)=gq rs z1000∧eQ z1000≤2 ^ 22
noncomputable def F6 (u:TUnit) (s:PStep) (rs:List PStep) (z1000:List TUnit):List AV × List AObj:=([AV.ptr 0 0 0 0,AV.ptr 1 0 0 0], [AObj.row 1 false 0 [AV.ls ((s::rs).map az)],AObj.row 1 false 0 [AV.ls (z1000.map aV)]])
theorem P3 (u:TUnit) (s:PStep) (rs:List PStep) (hn:nU u≤2 ^ 11) (hl:(s::rs).length<2 ^ 40) (hs : ∀ x,x∈s::rs→x.label.length≤2 ^ 39):kP 182 [eU u, .ls ((s::rs).map az)] (.ls ((dO u (s::rs)).map aV)):=by
  have hv:=uv (s::rs) hl hs
  have hk:=G7 s
  have hpb:=Fx s u fun x hx=>dG hx
  have hpm:nU u * nU u≤2 ^ 11 * 2 ^ 11:=Nat.mul_le_mul hn hn
  have hd:((s::rs).drop 1).length=rs.length:=rfl
  have rr0 b' (h:((dO u (s::rs)).map aV)=b':=by first | rfl | (rw [Ix ‹_›];rfl) | (rw [hj0.1,Hi])):=h;exact bg Tryz.func182<|Kp 3 hv<|Kn 0 (kf<|s::rs) (fun _=>Kf 0 (Le.lsn<|rr0 []:Le _ (ak))) fun _=>Mg 0<|Mj (List TUnit) [3,5] (F6 u s rs) (F7 u s rs) (fun a=>Kl 1 21 (ln az<|s::rs)<|Kp 5 hk<|Kb 0 (ab s.kind 0 && dR s.label []) (fun _=>Kl 1 31 (Le.lsp (t:=true) (Eq.symm<|SD (f:=aV) (g:=Go.Ev.eU) (ws:=[u]) aH) (aU 0:aq ([aw [iV u.act,iV u.item,iV u.n,iV u.kind,aj u.label,aW (u.head.map aQ),aW (u.words.map aQ),aW (u.kids.map aV)]])=0))<|Mg 0<|M0 (.ren [1,2,0] [] [3,5])<|M1 (.frz 2 [3,5]) (cH rt rt ti)<|Mf<|a [u] (by exact ⟨F5 (by omega) (by assumption),by grind [ba, l8]⟩:dO u (s::rs)=gq rs [u]∧eQ [u]≤2 ^ 22)) fun _=>Mg 1<|M0 (.ren [1,2,0] [] [3,5,16,17])<|M1 (.frz 2 [3,5,16,17]) (cH rt rt ti)<|Ms (lQ s u).isEmpty (fun b=>Me (Gm s rs u oA b)<|M1 (.obw 1<|aW []) (VZ bo rfl rfl)<|Mf<|a [] (by exact ⟨by rw [wz (by omega) (by assumption),List.isEmpty_iff.1 b],by grind⟩:dO u (s::rs)=gq rs []∧eQ []≤2 ^ 22)) fun b=>Mq (Qc s rs u oA b) fun b c=>M2 (.fzo 1 2 [3,5]<|b.2.2.map aV) (cH rt rt ti) (cH (aU b.1) (tA aV b.2.2 b.2.1 (oA:(b.2.2).length=b.2.1))<|aX gM b.2.2)<|Mf<|a b.2.2 (by exact ⟨by rw [wz (by omega) (by assumption),c.2],by grind⟩:dO u (s::rs)=gq rs b.2.2∧eQ b.2.2≤2 ^ 22)) fun a b=>have :dO u (s::rs)=gq rs a∧eQ a≤2 ^ 22:=b;K1 0 (.slp<|((s::rs).drop 1).map az) (cH (hM 2 az (s::rs) fun _=>rfl) (et (sA:1≤((s::rs).map az).length) (oA:((s::rs).map az).length≤((s::rs).map az).length))<|WT (f:=az) (l:=s::rs) (k:=1))<|Kl 0 34 (ln az<|List.drop 1<|s::rs)<|Mg 0<|M0 (.ren [1,0] [] [5,33,34,35])<|M1 (.frz 1 [5,33,34,35]) (et rt ti)<|Ng az (List.drop 1<|s::rs) a [5,33,34,35] (fun a _ b=>([bJ 0 0 0 0,aW<|((s::rs).drop 1).map az,nV ((s::rs).drop 1).length,nV a],[aZ 1 false 0 [aW<|b.map aV]])) (fun a b=>dO u (s::rs)=gq a b∧eQ b≤2 ^ 22) sA (fun _ _ a _ _ _ b hj0=>Kh 0 b<|Kf 1<|cj<|rr0<|a.map aV) fun a _ b _ _ c d e _ f _ g hj0=>have :b.length≤eQ b:=xd _;Kt 0 f<|Mx g<|Kl 5 40 (ln aV b)<|Mg 0<|ll Nat Nat (List TUnit) aV b [5,7,8,33,34,35,39,40,41] (fun d _=>([bJ 0 0 0 0,bJ 1 0 0 0,ak,aW<|((s::rs).drop 1).map az,nV ((s::rs).drop 1).length,nV a,aW<|b.map aV,nV b.length,nV d],[aZ 1 false 0 [aW<|b.map aV],aZ 2 false 0 [aw [iV c.kind,aj c.label]]])) (fun d _ e f g=>([bJ 0 0 0 0,bJ 1 0 0 0,aG 2 e 0 f none,aW<|((s::rs).drop 1).map az,nV ((s::rs).drop 1).length,nV a,aW<|b.map aV,nV b.length,nV d],[aZ 1 false 0 [aW<|b.map aV],aZ 2 false 0 [aw [iV c.kind,aj c.label]],aZ 8 true e<|g.map aV])) (fun a=>cq c a=cq c b) (fun a _ d e=>d=e.length∧e++cq c a=cq c b∧e.length+eQ a<2 ^ 30) (by rfl) (fun _ _ _ _ _ b c=>Kh 0 b<|Kl 0 61 bo<|Kl 1 62 (dB a)<|K1 0 (.frz 1 [5,33,34,35]) (et rt ti)<|Mf<|e []<|by exact fA hj0 c) (fun d _ e f g i j k l n _ o _=>have p:=(o).trans<|congrArg some<|aH g;have :=cP (J:=fun a _=>cq c a=cq c b) (a:=()) l f;have :nU g+eQ i≤eQ b:=oB e l;have :g.kids.length<nU g:=bw g;have :nU g=1+eQ g.kids:=i9 g;Kt 0 n<|Mx p<|Kl 5 47 (ln aV g.kids)<|K1 0 (.frz 2 [5,7,8,33,34,35,39,40,41,46,47,48]) (cH rt rt ti)<|ll Nat Nat (List TUnit) aV g.kids [5,7,8,33,34,35,39,40,41,46,47,48] (fun e _=>([bJ 0 0 0 0,bJ 1 0 0 0,ak,aW<|((s::rs).drop 1).map az,nV ((s::rs).drop 1).length,nV a,aW<|b.map aV,nV b.length,nV d,aW<|g.kids.map aV,nV g.kids.length,nV e],[aZ 1 false 0 [aW<|b.map aV],aZ 2 false 0 [aw [iV c.kind,aj c.label]]])) (fun e _ f i j=>([bJ 0 0 0 0,bJ 1 0 0 0,aG 2 f 0 i none,aW<|((s::rs).drop 1).map az,nV ((s::rs).drop 1).length,nV a,aW<|b.map aV,nV b.length,nV d,aW<|g.kids.map aV,nV g.kids.length,nV e],[aZ 1 false 0 [aW<|b.map aV],aZ 2 false 0 [aw [iV c.kind,aj c.label]],aZ 8 true f<|j.map aV])) (fun a=>List.filter (bh c) a++cq c i=cq c b) (fun a _ d e=>d=e.length∧e++(List.filter (bh c) a++cq c i)=cq c b∧e.length+(eQ a+eQ i)<2 ^ 30) (by simp_all [gA]) (fun _ _ _ _ _ a _=>Kh 0 a<|Kl 0 60 (dB d)<|Kf 0<|j sA) (fun a _ d e f j k l n p _ o _=>have o:=(o).trans<|congrArg some<|aH f;have :=cP (J:=fun a _=>List.filter (bh c) a++cq c i=cq c b) (a:=()) n e;have :nU f+eQ j≤eQ g.kids:=oB d n;Kt 0 p<|Mx o<|Kp 4 (kG f c)<|Mb (bh c f) (fun _=>K1 3 (.obj 3<|aZ 8 true 0<|List.map aV [f]) (congrArg (aZ 8 true 0)<|SD (f:=aV) (g:=Go.Ev.eU) (ws:=[f]) aH)<|Kl 1 59 (dB a)<|K1 0 (.ren [0,1,3,2] [3] [5,7,8,33,34,35,39,40,41,46,47,48]) (tS 8 true 0<|aX gM [f])<|M1 (.frz 3 [5,7,8,33,34,35,39,40,41,46,47,48]) (kq (tR 8 true 0 3<|aX gM [f]) rt rt ti)<|Mf<|l 0 1 [f] gR) fun _=>Kl 0 59 (dB a)<|K1 0 (.frz 2 [5,7,8,33,34,35,39,40,41,46,47,48]) (cH rt rt ti)<|Mf<|k sA) (fun _ _ a e f _ _ _ g _=>Kh 0 g<|Kl 0 60 (dB d)<|Kf 0<|k a e f gR) fun a _ d e f j k l n _ p q r _ o _=>have o:=(o).trans<|congrArg some<|aH l;have k:=cP (J:=fun a d=>d.2.1=d.2.2.length∧d.2.2++(List.filter (bh c) a++cq c i)=cq c b∧d.2.2.length+(eQ a+eQ i)<2 ^ 30) (a:=(d,e,f)) q k;have :nU l+eQ n≤eQ g.kids:=oB j q;Kt 0 r<|Mx o<|Kp 4 (kG l c)<|Mb (bh c l) (fun _=>K1 2 .app (cH (aU d) (sA:e=(f.map aV).length) (by (refine aE (m:=2 ^ 31) ?_ ?_ ?_ <;> omega):small (e+1) 120=true))<|M1 (.obj 2<|aZ 8 true (d+1)<|(f++ [l]).map aV) (congrArg (aZ 8 true<|d+1)<|xf (f:=aV) (g:=Go.Ev.eU) (l:=f) (ws:=[l]) aH)<|Kl 1 59 (dB a)<|K1 0 (.frz 3 [5,7,8,33,34,35,39,40,41,46,47,48]) (kq (tR 8 true (d+1) 3<|aX gM<|f++ [l]) rt rt ti)<|Mf<|p (d+1) (e+1) (f++ [l])<|by exact YB k (by omega)) fun _=>Kl 0 59 (dB a)<|K1 0 (.frz 3 [5,7,8,33,34,35,39,40,41,46,47,48]) (kq (tR 8 true d 3<|aX gM f) rt rt ti)<|Mf<|p d e f<|by exact YC k (by omega)) (fun _ _ b c f _ _ _ g i=>let j:=List.map aV f;Kh 0 g<|Mg 0<|M2 (.fsl 2 [5,33,34,35] 61 j) (cH rt rt ti) (cH (aU b) (tA aV f c (oA:(f).length=c))<|aX gM f)<|Ml 61 (fg j false<|aX gM f)<|Kl 1 62 (dB a)<|K1 0 (.frz 1 [5,33,34,35]) (et rt ti)<|Mf<|e f<|by exact fB hj0 i.2.1) fun d _ e f g i j k l _ n o p _ q _=>have r:=(q).trans<|congrArg some<|aH k;have j:=cP (J:=fun a d=>d.2.1=d.2.2.length∧d.2.2++cq c a=cq c b∧d.2.2.length+eQ a<2 ^ 30) (a:=(e,f,g)) o j;have :nU k+eQ l≤eQ b:=oB i o;have :k.kids.length<nU k:=bw k;have :nU k=1+eQ k.kids:=i9 k;Kt 0 p<|Mx r<|Kl 5 47 (ln aV k.kids)<|K1 0 (.frz 3 [5,7,8,33,34,35,39,40,41,46,47,48]) (kq (tR 8 true e 3<|aX gM g) rt rt ti)<|UJ aV k.kids e f g [5,7,8,33,34,35,39,40,41,46,47,48] (fun e _ f g i=>([bJ 0 0 0 0,bJ 1 0 0 0,aG 2 f 0 g none,aW<|((s::rs).drop 1).map az,nV ((s::rs).drop 1).length,nV a,aW<|b.map aV,nV b.length,nV d,aW<|k.kids.map aV,nV k.kids.length,nV e],[aZ 1 false 0 [aW<|b.map aV],aZ 2 false 0 [aw [iV c.kind,aj c.label]],aZ 8 true f<|i.map aV])) (fun a _ d e=>d=e.length∧e++(List.filter (bh c) a++cq c l)=cq c b∧e.length+(eQ a+eQ l)<2 ^ 30) (by (exact gB j)) (fun _ _ a e f _ _ _ g _=>Kh 0 g<|Kl 0 60 (dB d)<|Kf 0<|n a e f gR) fun a _ d e f g i j n o p r _ q _=>have q:=(q).trans<|congrArg some<|aH j;have i:=cP (J:=fun a d=>d.2.1=d.2.2.length∧d.2.2++(List.filter (bh c) a++cq c l)=cq c b∧d.2.2.length+(eQ a+eQ l)<2 ^ 30) (a:=(d,e,f)) p i;have :nU j+eQ n≤eQ k.kids:=oB g p;Kt 0 r<|Mx q<|Kp 4 (kG j c)<|Mb (bh c j) (fun _=>K1 2 .app (cH (aU d) (sA:e=(f.map aV).length) (by (refine aE (m:=2 ^ 31) ?_ ?_ ?_ <;> omega):small (e+1) 120=true))<|M1 (.obj 2<|aZ 8 true (d+1)<|(f++ [j]).map aV) (congrArg (aZ 8 true<|d+1)<|xf (f:=aV) (g:=Go.Ev.eU) (l:=f) (ws:=[j]) aH)<|Kl 1 59 (dB a)<|K1 0 (.frz 3 [5,7,8,33,34,35,39,40,41,46,47,48]) (kq (tR 8 true (d+1) 3<|aX gM<|f++ [j]) rt rt ti)<|Mf<|o (d+1) (e+1) (f++ [j])<|by exact YB i (by omega)) fun _=>Kl 0 59 (dB a)<|K1 0 (.frz 3 [5,7,8,33,34,35,39,40,41,46,47,48]) (kq (tR 8 true d 3<|aX gM f) rt rt ti)<|Mf<|o d e f<|by exact YC i (by omega)
theorem Tj (u:TUnit) (p:List PStep) (hn:nU u≤2 ^ 11) (hl:p.length<2 ^ 40) (hs : ∀ x,x∈p→x.label.length≤2 ^ 39):kP 182 [eU u, .ls (p.map az)] (.ls ((dO u p).map aV)):=by
  cases p with
  | nil=>exact Tk u rfl
  | cons s rs=>grind [P3]
theorem MU (u:TUnit) (p:List PStep) (L:List TUnit) (hf:kP 182 [eU u, .ls (p.map az)] (.ls (L.map aV))) (hL:L.length≤2 ^ 22):kP 85 [eU u, .ls (p.map az)] (.ls ((L.map bY).map aY)):=by
  have rr0 b' (h:((L.map bY).map aY)=b':=by first | rfl | (rw [← hj0];rfl) | (rw [← hj0.2.2.1];simp)):=h;exact bg Tryz.func85<|Kp 4 hf<|Kl 0 11 (ln aV L)<|K1 0 (.frz 0 [5,10,11,12]) ti<|ll Nat Nat (List PId) aV L [5,10,11,12] (fun a _=>([ak,aW<|L.map aV,nV L.length,nV a],[])) (fun a _ b c d=>([aG 0 b 0 c none,aW<|L.map aV,nV L.length,nV a],[aZ 3 true b<|d.map aY])) (fun a=>a=L) (fun a _ b c=>b=c.length∧(0:Nat)<c.length∧c++List.map bY a=List.map bY L∧c.length+a.length=L.length) (by rfl) (fun _ _ _ _ _ a hj0=>Kh 0 a<|Kf 1 (Le.lsn<|rr0 []:Le _ (ak))) (fun a _ _ b c d _ e f g _ i _=>have i:=(i).trans<|congrArg some<|aH c;have hj0:=cP (J:=fun a _=>a=L) (a:=()) f b;Kt 0 g<|Mx i<|Kl 9 21 (jY a)<|Mg 0<|M0 (.ren [1,0] [] [5,10,11,12])<|M1 (.frz 1 [5,10,11,12]) (et rt ti)<|Mf<|e 0 1 [PId.mk c.act c.item c.n]<|by (refine ⟨rfl,by simp,?_,?_⟩ <;> (rw [← hj0]) <;> (first | rfl | grind))) (fun _ _ a b c _ _ _ d hj0=>Kh 0 d<|Mg 1<|M2 (.fsl 0 [] 4<|c.map aY) ti (cH (aU a) (tA aY c b (oA:(c).length=b))<|aX Ip c)<|Ml 4 (fg (c.map aY) false<|aX Ip c)<|Mf<|cj<|rr0<|c.map aY) fun a _ b c d _ e f g _ i j k _ l _=>have l:=(l).trans<|congrArg some<|aH f;have hj0:=cP (J:=fun a b=>b.2.1=b.2.2.length∧(0:Nat)<b.2.2.length∧b.2.2++List.map bY a=List.map bY L∧b.2.2.length+a.length=L.length) (a:=(b,c,d)) j e;Kt 0 k<|Mx l<|K1 6 .app (cH (aU b) (sA:c=(d.map aY).length) (by (refine aE (m:=2 ^ 25) ?_ ?_ ?_ <;> omega):small (c+1) 24=true))<|M1 (.obj 0<|aZ 3 true (b+1)<|(d++ [PId.mk f.act f.item f.n]).map aY) (congrArg (aZ 3 true<|b+1)<|dr (f:=aY) (l:=d) (ws:=[PId.mk f.act f.item f.n]))<|Kl 1 21 (jY a)<|K1 0 (.frz 1 [5,10,11,12]) (et (tR 3 true (b+1) 1<|aX Ip<|d++ [PId.mk f.act f.item f.n]) ti)<|Mf<|i (b+1) (c+1) (d++ [PId.mk f.act f.item f.n])<|by (refine ⟨by simp_all,by simp,?_,?_⟩ <;> first | (rw [← hj0.2.2.1,ee,pF];rfl) | (rw [← hj0.2.2.1];simp;done) | grind)
theorem MJ (u:TUnit) (p:List PStep) (hf:kP 85 [eU u, .ls (p.map az)] (.ls (([]:List PId).map aY))):kP 47 [eU u, .ls (p.map az)] (.tuple [aY bF,iV 7]):=by
  exact bg Tryz.func47<|Kp 4 hf<|Kf 8<|bV<|cK [aw [iV 0,iV 0,iV 0],iV 7]
theorem MY (u x:TUnit) (p:List PStep) (hf:kP 85 [eU u, .ls (p.map az)] (.ls ([bY x].map aY))):kP 47 [eU u, .ls (p.map az)] (.tuple [aY (bY x),iV 0]):=by
  exact bg Tryz.func47<|Kp 4 hf<|Kf 13<|bV<|cK [aw [iV (bY x).a,iV (bY x).i,iV (bY x).n],iV 0]
theorem MK (u:TUnit) (p:List PStep) (a b:PId) (r:List PId) (hf:kP 85 [eU u, .ls (p.map az)] (.ls ((a::b::r).map aY))):kP 47 [eU u, .ls (p.map az)] (.tuple [aY bF,iV 8]):=by
  have q1:ab (Int.ofNat (r.length+1+1)) 0=false:=rfl
  have q2:ab (Int.ofNat (r.length+1+1)) 1=false:=rfl
  exact bg Tryz.func47<|Kp 4 hf<|Kl 2 11 (ln aY<|a::b::r)<|Kf 8<|bV<|cK [aw [iV 0,iV 0,iV 0],iV 8]
/-- The way of an address, whatever it finds. -/
theorem MW (u:TUnit) (p:List PStep) (hf:kP 182 [eU u, .ls (p.map az)] (.ls ((dO u p).map aV))) (hn:nU u≤2 ^ 11):kP 47 [eU u, .ls (p.map az)] (.tuple [aY (aA u p).1,iV (aA u p).2]):=by
  have ha:=MU u p (dO u p) hf (Iz p hn)
  cases e:dO u p with
  | nil=>grind [GW, MJ]
  | cons x r=>
    cases r with
    | nil=>grind [GX, MY]
    | cons y r=>grind [GZ, MK]
noncomputable abbrev zU:AV:= .agg [iV 0,iV 0,iV 0,iV 0, .str [], .nils, .nils, .nils]
noncomputable abbrev du (xs:List AV):AObj:= .row 8 false 0 xs
theorem Ts {L Z:List AV} {n i:Nat} (hn:L.length=n) (hi:i<n):((L++Z).drop (i+1)).take (n - (i+1))=L.drop (i+1):=by
  grind
theorem Tt {L Z:List AV} {n i:Nat} (hn:L.length=n) (hi:i<n):bp (L++Z) (0+i) (L.drop (i+1))=L.eraseIdx i++(L.drop (n - 1)++Z):=by
  unfold bp
  grind
theorem DB {L Z:List AV} {z:AV} {n i:Nat} (hn:L.length=n) (hi:i<n):bp (L.eraseIdx i++(L.drop (n - 1)++Z)) (n - 1) (List.replicate 1 z)=L.eraseIdx i++(z::Z):=by
  unfold bp
  have h1:(L.eraseIdx i).length=n - 1:=by grind
  have h2:(L.drop (n - 1)).length=1:=by grind
  grind
theorem Xk {a b:Nat} (h:a≠b):ab (Int.ofNat a) (Int.ofNat b)=false:=by
  grind [o8]
theorem Qm (L Z:List AV) (n k i:Nat) (hi:i+1<n) (hn:L.length=n) (hs:n≤2 ^ 20) (hf:dm 8 L=true) (hZ:Z.length=k) (hT:aq (L++Z)=0):kD 237 [.slice 0 0 0 n (some (n+k)),nV i,nV (i+1)] (aa [du (L++Z)]) (.slice 0 0 0 (n - 1) (some (n+k))) (aa [du (L.eraseIdx i++(zU::Z))]):=by
  have hq:ab (Int.ofNat i) (Int.ofNat (i+1))=false:=Xk (by omega)
  let q:=AHeap.mk 1000000 (bm (aa [aZ 8 false 0 (L++Z)]) ([0]) Tr.nil);let q1:=aa [aZ 8 false 0 (L.eraseIdx i++(L.drop (n - 1)++Z))];let q2:=aa [aZ 8 false 0 (L++Z)];let q3:=(some (aG 0 0 0 n (some (n+k))));let q4:=aG 0 0 (i+1) (n - (i+1)) (some (n+k - (i+1)));let q5:=(some (nV (i+1)));let q6:=(some (nV i));let q7:=(some (nV n));let q8:=AHeap.mk 1 (bm q2 ([0,0]) Tr.nil);let q9:=aG 0 0 0 (n - 1) (some (n+k));let q10:=aG 0 0 (n - 1) 1 (some (k+1));let q11:=aG 0 0 0 i (some (n+k));exact fk Tryz.func237 fun a=>Ko 5 (by exact CN (xs:=L++Z) (l:=i) (h:=i+1) (m:=n) (by kernel_rfl) (by rfl) (by rfl) (by rfl) (by omega) (by omega) (by omega) (by omega) (by omega) (by omega) (by omega):bq q2 (dJ (8) q2 q3 q6 q5 q7)=some (ARes.val (AV.slice 0 0 i 1 (some (n - i))) q2))<|Kh 2 hq<|Kv 4 (by exact g9 (xs:=L++Z) (l:=0) (h:=i) (by kernel_rfl) (by rfl) (by rfl) (by omega) (by omega) (by omega) (by omega) (by omega) (by omega):bq (q) (dJ (8) (q) q3 (none) q6 (none))=some (ARes.val q11 q))<|Kv 1 (by exact g9 (xs:=L++Z) (l:=i+1) (h:=n) (by kernel_rfl) (by rfl) (by rfl) (by omega) (by omega) (by omega) (by omega) (by omega) (by omega):bq (q) (dJ (8) (q) q3 q5 (none) (none))=some (ARes.val q4 q))<|Md rt (iJ (tR 8 false 0 1 (oA:aq (L++Z)=0))<|iJ (tR 8 false 0 1 (oA:aq (L++Z)=0)) rt) (by exact KT (new:=L.drop (i+1)) rfl (yq rfl (Ts hn (by omega))) (qS hf) (fun e=>by have:=congrArg List.length e;grind) (by grind) (by grind) (aE (m:=2 ^ 20) (by grind) (by omega) (by omega)) (by grind) (Tt hn (by omega)):fY (dj (8) (120) (q8) ((some q11)) ((some q4)))=some (ARes.val q9 (AHeap.put q8 0 (AObj.row 8 false 0 (L.eraseIdx i++(L.drop (n - 1)++Z))))))<|Ko 4 (by exact g9 (xs:=L.eraseIdx i++(L.drop (n - 1)++Z)) (l:=n - 1) (h:=n) (by kernel_rfl) (by rfl) (by rfl) (by omega) (by omega) (by omega) (by omega) (by omega) (by omega):bq q1 (dJ (8) q1 ((some q9)) ((some (nV (n - 1)))) q7 (none))=some (ARes.val q10 q1))<|Mo (by exact DC rfl (by kernel_rfl) (DB hn (by omega)):fY (vv (8) (AV.agg [iV 0,iV 0,iV 0,iV 0,AV.str [],AV.nils,AV.nils,AV.nils]) q1 ((some q10)))=some (ARes.val (AV.tuple []) (aa [AObj.row 8 false 0 (L.eraseIdx i++zU::Z)])))<|Kf 1 a
theorem Ql (L Z:List AV) (k i:Nat) (hn:L.length=i+1) (hs:i<2 ^ 20) (hk:0<k) (hZ:Z.length=k) (hT:aq (L++Z)=0):kD 237 [.slice 0 0 0 (i+1) (some (i+1+k)),nV i,nV (i+1)] (aa [du (L++Z)]) (.slice 0 0 0 i (some (i+1+k))) (aa [du (L.eraseIdx i++(zU::Z))]):=by
  have hq:ab (Int.ofNat i) (Int.ofNat (i+1))=false:=Xk (by omega)
  have hr:L.eraseIdx i++(L.drop (i+1 - 1)++Z)=L++Z:=by
    rw [Nh,AP (by omega),ed,← pF,show i+1 - 1=i from rfl,I3]
  have hc:bp (L++Z) i (List.replicate 1 zU)=L.eraseIdx i++(zU::Z):=by
    have h:=DB (z:=zU) (Z:=Z) hn (show i<i+1 by omega)
    grind
  let q:=aa [aZ 8 false 0 (L++Z)];let q1:=AHeap.mk 1000000 (bm q ([0]) Tr.nil);let q2:=(some (nV (i+1)));let q3:=aG 0 0 0 i (some (i+1+k));let q4:=(some (aG 0 0 0 (i+1) (some (i+1+k))));let q5:=(some (nV i));let q6:=AHeap.mk 1 (bm q ([0,0]) Tr.nil);let q7:=aG 0 0 (i+1) 0 (some k);let q8:=aG 0 0 i 1 (some (k+1));exact fk Tryz.func237 fun a=>Ko 5 (by exact CN (xs:=L++Z) (l:=i) (h:=i+1) (m:=i+1) (by kernel_rfl) (by rfl) (by rfl) (by rfl) (by omega) (by omega) (by omega) (by omega) (by omega) (by omega) (by omega):bq q (dJ (8) q q4 q5 q2 q2)=some (ARes.val (AV.slice 0 0 i 1 (some 1)) q))<|Kh 2 hq<|Kv 4 (by exact g9 (xs:=L++Z) (l:=0) (h:=i) (by kernel_rfl) (by rfl) (by rfl) (by omega) (by omega) (by omega) (by omega) (by omega) (by omega):bq (q1) (dJ (8) (q1) q4 (none) q5 (none))=some (ARes.val q3 q1))<|Kv 1 (by exact g9 (xs:=L++Z) (l:=i+1) (h:=i+1) (by kernel_rfl) (by rfl) (by rfl) (by omega) (by omega) (by omega) (by omega) (by omega) (by omega):bq (q1) (dJ (8) (q1) q4 q2 (none) (none))=some (ARes.val q7 q1))<|Md rt (iJ (tR 8 false 0 1 (oA:aq (L++Z)=0))<|iJ (tR 8 false 0 1 (oA:aq (L++Z)=0)) rt) (by exact RQ (yq rfl List.take_zero):fY (dj (8) (120) (q6) ((some q3)) ((some q7)))=some (ARes.val q3 q6))<|Ko 4 (by exact g9 (xs:=L++Z) (l:=i) (h:=i+1) (by kernel_rfl) (by rfl) (by rfl) (by omega) (by omega) (by omega) (by omega) (by omega) (by omega):bq q (dJ (8) q ((some q3)) q5 q2 (none))=some (ARes.val q8 q))<|Mo (by exact DC rfl (by kernel_rfl) hc:fY (vv (8) (AV.agg [iV 0,iV 0,iV 0,iV 0,AV.str [],AV.nils,AV.nils,AV.nils]) q ((some q8)))=some (ARes.val (AV.tuple []) (aa [AObj.row 8 false 0 (L.eraseIdx i++zU::Z)])))<|Kf 1 a
theorem Qi (L:List AV) (i:Nat) (hn:L.length=i+1) (hs:i<2 ^ 20) (hT:aq L=0):kD 237 [.slice 0 0 0 (i+1) (some (i+1)),nV i,nV (i+1)] (aa [du L]) (.slice 0 0 0 i (some (i+1))) (aa [du (L.eraseIdx i++ [zU])]):=by
  have hq:ab (Int.ofNat i) (Int.ofNat (i+1))=false:=Xk (by omega)
  have hr:L.eraseIdx i++(L.drop (i+1 - 1)++ [])=L:=by
    rw [Nh,AP (by omega),ed,ed,show i+1 - 1=i from rfl,I3]
  have hc:bp L i (List.replicate 1 zU)=L.eraseIdx i++ [zU]:=by
    have h:=DB (z:=zU) (Z:= []) hn (show i<i+1 by omega)
    grind
  let q:=aa [aZ 8 false 0 L];let q1:=AHeap.mk 1000000 (bm q ([0]) Tr.nil);let q2:=(some (nV (i+1)));let q3:=aG 0 0 0 i (some (i+1));let q4:=(some (aG 0 0 0 (i+1) (some (i+1))));let q5:=(some (nV i));let q6:=aG 0 0 i 1 (some 1);let q7:=AHeap.mk 1 (bm q ([0,0]) Tr.nil);let q8:=aG 0 0 0 0 (some 0);exact fk Tryz.func237 fun a=>Ko 5 (by exact CN (xs:=L) (l:=i) (h:=i+1) (m:=i+1) (by kernel_rfl) (by rfl) (by rfl) (by rfl) (by omega) (by omega) (by omega) (by omega) (by omega) (by omega) (by omega):bq q (dJ (8) q q4 q5 q2 q2)=some (ARes.val q6 q))<|Kh 2 hq<|Kv 4 (by exact g9 (xs:=L) (l:=0) (h:=i) (by kernel_rfl) (by rfl) (by rfl) (by omega) (by omega) (by omega) (by omega) (by omega) (by omega):bq (q1) (dJ (8) (q1) q4 (none) q5 (none))=some (ARes.val q3 q1))<|Kv 1 (by exact Ja (xs:=L) (l:=i+1) (h:=i+1) (by kernel_rfl) (by rfl) (by rfl) (by rfl) rfl:bq (q1) (dJ (8) (q1) q4 q2 (none) (none))=some (ARes.val q8 q1))<|Md rt (iJ (tR 8 false 0 1 (oA:aq (L)=0))<|iJ (tR 8 false 0 1 (oA:aq (L)=0)) rt) (by exact RQ (yq rfl List.take_zero):fY (dj (8) (120) (q7) ((some q3)) ((some q8)))=some (ARes.val q3 q7))<|Ko 4 (by exact g9 (xs:=L) (l:=i) (h:=i+1) (by kernel_rfl) (by rfl) (by rfl) (by omega) (by omega) (by omega) (by omega) (by omega) (by omega):bq q (dJ (8) q ((some q3)) q5 q2 (none))=some (ARes.val q6 q))<|Mo (by exact DC rfl (by kernel_rfl) hc:fY (vv (8) (AV.agg [iV 0,iV 0,iV 0,iV 0,AV.str [],AV.nils,AV.nils,AV.nils]) q ((some q6)))=some (ARes.val (AV.tuple []) (aa [AObj.row 8 false 0 (L.eraseIdx i++ [zU])])))<|Kf 1 a
theorem Qh (L Z:List AV) (n i:Nat) (hi:i<n) (hn:L.length=n) (hs:n≤2 ^ 20) (hf:dm 8 L=true) (hT:aq (L++Z)=0):kD 237 [.slice 0 0 0 n (some (n+Z.length)),nV i,nV (i+1)] (aa [du (L++Z)]) (.slice 0 0 0 (n - 1) (some (n+Z.length))) (aa [du (L.eraseIdx i++(zU::Z))]):=by
  rcases fV (i+1) n with h | h
  · exact Qm L Z n _ i h hn hs hf rfl hT
  · obtain rfl:n=i+1:=by omega
    cases Z with
    | nil=>rw [ed];rw [ed] at hT;exact Qi L i hn (by omega) hT
    | cons z r=>exact Ql L (z::r) _ i hn (by omega) (xB _) rfl hT
/-- A list with an element more at a place. -/
def gj (i:Nat) (x:AV) (l:List AV):List AV:=l.take i++(x::l.drop i)
theorem zq {i:Nat} {x:AV} {l:List AV} (h:i≤l.length):(gj i x l).length=l.length+1:=by
  grind [gj]
theorem FD {x:AV} {l:List AV} {n:Nat} (h:l.length=n):gj n x l=l++ [x]:=by
  grind [gj]
theorem Xs (n:Nat):ab (Int.ofNat n) (Int.ofNat n)=true:=aP _
theorem Yh {a b:Nat} (h:a<b):ar (Int.ofNat a) (Int.ofNat b)=true:=nJ (by simp_all)
theorem Yi {a b:Nat} (h:b≤a):ar (Int.ofNat a) (Int.ofNat b)=false:=lL (by simp_all)
theorem Tl {L Z:List AV} {x z:AV} {n:Nat} (h:L.length=n):bp (L++z::Z) (0+n) [x]=gj n x L++Z:=by
  unfold bp
  rw [FD h,gJ,← h,List.take_left,show (L++z::Z).drop (L.length + [x].length)=Z by rw [← A5,List.drop_left];rfl]
theorem Sl {L Z:List AV} {z:AV} {n i:Nat} (h:L.length=n) (hi:i<n):bp (L++z::Z) (i+1) (L.drop i)=L.take (i+1)++(L.drop i++Z):=by
  unfold bp
  rw [List.take_append_of_le_length (by omega),pF,xD,show i+1+(L.length - i)=L.length+1 by omega,← A5,List.drop_left];rfl
theorem PQ {L Z:List AV} {x:AV} {n i:Nat} (h:L.length=n) (hi:i<n):bp (L.take (i+1)++(L.drop i++Z)) i [x]=gj i x L++Z:=by
  unfold bp gj
  grind
theorem Sa {L:List AV} {z x:AV} {n i:Nat} (h:L.length=n) (hi:i<n):bp (L.take i++List.replicate (n+1 - i) z) i [x]=L.take i++(x::List.replicate (n - i) z):=by
  unfold bp
  have h1:(L.take i).length=i:=by grind
  have e:n+1 - i=(n - i)+1:=by omega
  rw [List.take_append_of_le_length (by omega),xE (by omega),← A5]
  simp_all
theorem O8 {L:List AV} {z x:AV} {n i:Nat} (h:L.length=n) (hi:i<n):bp (L.take i++(x::List.replicate (n - i) z)) (i+1) (L.drop i)=gj i x L:=by
  unfold bp gj
  have h1:(L.take i).length=i:=by grind
  have h2:(L.take i++(x::List.replicate (n - i) z)).length=n+1:=by grind
  have e:(L.take i++(x::List.replicate (n - i) z)).drop (i+1+(L.drop i).length) = []:=AP (by grind)
  grind
theorem Pg (L Z:List AV) (x z:AV) (t:Bool) (n k:Nat) (hn:L.length=n) (hs:n<2 ^ 20) (hk:Z.length=k) (hx:dm 8 [x]=true):kD 140 [.slice 0 0 0 n (some (n+(k+1))),nV n, .ps [x] t] (aa [du (L++z::Z)]) (.slice 0 0 0 (n+1) (some (n+(k+1)))) (aa [du (gj n x L++Z)]):=by
  have hq:=Xs n
  let q:=aa [aZ 8 false 0 (L++z::Z)];exact fk Tryz.func140 fun a=>Ko 2 (by exact g9 (xs:=L++z::Z) (l:=n) (h:=n) (by kernel_rfl) (by rfl) (by rfl) (by omega) (by omega) (by omega) (by omega) (by omega) (by omega):bq q (dJ (8) q ((some (AV.slice 0 0 0 n (some (n+(k+1)))))) ((some (nV n))) (none) (none))=some (ARes.val (AV.slice 0 0 n 0 (some (k+1))) q))<|Kt 11 hq<|Ko 1 (by exact KT (new:= [x]) rfl (by rfl) hx (m8 _ _) (by simp_all) (by simp_all) (aE (m:=2 ^ 20) (by grind) (by omega) (by omega)) rfl (Tl hn):fY (dj (8) (120) (aa [AObj.row 8 false 0 (L++z::Z)]) ((some (AV.slice 0 0 0 n (some (n+(k+1)))))) ((some (AV.ps [x] t))))=some (ARes.val (AV.slice 0 0 0 (n+1) (some (n+(k+1)))) (aa [AObj.row 8 false 0 (gj n x L++Z)])))<|Kf 0 a
theorem Pe (L:List AV) (x:AV) (t:Bool) (n:Nat) (hn:L.length=n) (hs:n<2 ^ 20) (hx:dm 8 [x]=true) (hT:aq L=0) (hI:aq (gj n x L)=0):kD 140 [.slice 0 0 0 n (some n),nV n, .ps [x] t] (aa [du L]) (.ls (gj n x L)) (aa [du L]):=by
  have hq:=Xs n
  have hIl:(gj n x L).length=n+1:=(zq (by omega)).trans (by omega)
  let q:=aa [aZ 8 false 0 L];exact fk Tryz.func140 fun a=>Ko 2 (by exact Ja (xs:=L) (l:=n) (h:=n) (by kernel_rfl) (by rfl) (by rfl) (by rfl) rfl:bq q (dJ (8) q ((some (AV.slice 0 0 0 n (some n)))) ((some (nV n))) (none) (none))=some (ARes.val (AV.slice 0 0 0 0 (some 0)) q))<|Kt 11 hq<|Ko 1 (by exact T4 (new:= [x]) rfl (by rfl) hx (m8 _ _) (by simp_all) (aE (m:=2 ^ 20) (by grind) (by omega) (by omega)) (by grind [FD]) ((zq (by omega)).trans (by omega)):fY (dj (8) (120) (aa [AObj.row 8 false 0 L]) ((some (AV.slice 0 0 0 n (some n)))) ((some (AV.ps [x] t))))=some (ARes.val (AV.slice 1 0 0 (n+1) none) (aa [AObj.row 8 false 0 L,AObj.row 8 true 0 (gj n x L)])))<|Mg 0<|M2 (.fsl 1 [] 6<|gj n x L) (et (tR 8 false 0 1 (oA:aq (L)=0)) ti) (cH (aU 0) (Uq (oA:(gj n x L).length=n+1)) (oA:aq (gj n x L)=0))<|Ml 6 (fg (gj n x L) false (oA:aq (gj n x L)=0))<|Mf a
theorem Pd (L Z:List AV) (x z:AV) (t:Bool) (n k i:Nat) (hi:i<n) (hn:L.length=n) (hs:n<2 ^ 20) (hk:Z.length=k) (hx:dm 8 [x]=true) (hf:dm 8 L=true) (hT:aq (L++z::Z)=0) (hov:kD 234 [.ps [x] t, .slice 0 0 (i+1) (n - i) (some (n+(k+1) - (i+1)))] (aa [du (L++z::Z)]) (.bool false) (aa [du (L++z::Z)])):kD 140 [.slice 0 0 0 n (some (n+(k+1))),nV i, .ps [x] t] (aa [du (L++z::Z)]) (.slice 0 0 0 (n+1) (some (n+(k+1)))) (aa [du (gj i x L++Z)]):=by
  have hq:ab (Int.ofNat i) (Int.ofNat n)=false:=Xk (by omega)
  have hl:ar (Int.ofNat (n+(k+1))) (Int.ofNat (n+1))=false:=Yi (by omega)
  let q:=aa [aZ 8 false 0 (L++z::Z)];let q1:=aa [aZ 8 false 0 (L.take (i+1)++(L.drop i++Z))];let q2:=AHeap.mk 1000000 (bm q ([0]) Tr.nil);let q3:=aG 0 0 0 (n+1) (some (n+(k+1)));let q4:=aG 0 0 i (n+1 - i) (some (n+(k+1) - i));let q5:=(some (nV i));let q6:=aG 0 0 (i+1) (n - i) (some (n+(k+1) - (i+1)));let q7:=(some (nV (i+1)));let q8:=(some (aG 0 0 0 n (some (n+(k+1)))));exact fk Tryz.func140 fun a=>Ko 2 (by exact g9 (xs:=L++z::Z) (l:=i) (h:=n) (by kernel_rfl) (by rfl) (by rfl) (by omega) (by omega) (by omega) (by omega) (by omega) (by omega):bq q (dJ (8) q q8 q5 (none) (none))=some (ARes.val (AV.slice 0 0 i (n - i) (some (n+(k+1) - i))) q))<|Kh 11 hq<|Kl 2 28 (jY n)<|Kh 2 hl<|Kl 3 59 (jY n)<|Mo (by exact g9 (xs:=L++z::Z) (l:=0) (h:=n+1) (by kernel_rfl) (by rfl) (by rfl) (by omega) (by omega) (by omega) (by omega) (by omega) (by omega):bq q (dJ (8) q q8 (none) ((some (nV (n+1)))) (none))=some (ARes.val q3 q))<|Kl 5 65 (jY i)<|Mo (by exact g9 (xs:=L++z::Z) (l:=i+1) (h:=n+1) (by kernel_rfl) (by rfl) (by rfl) (by omega) (by omega) (by omega) (by omega) (by omega) (by omega):bq q (dJ (8) q ((some q3)) q7 (none) (none))=some (ARes.val q6 q))<|Me hov<|Mg 4<|Ma (jY i)<|Mv (by exact g9 (xs:=L++z::Z) (l:=i+1) (h:=n+1) (by kernel_rfl) (by rfl) (by rfl) (by omega) (by omega) (by omega) (by omega) (by omega) (by omega):bq (q2) (dJ (8) (q2) ((some q3)) q7 (none) (none))=some (ARes.val q6 q2))<|Kv 1 (by exact g9 (xs:=L++z::Z) (l:=i) (h:=n+1) (by kernel_rfl) (by rfl) (by rfl) (by omega) (by omega) (by omega) (by omega) (by omega) (by omega):bq (q2) (dJ (8) (q2) ((some q3)) q5 (none) (none))=some (ARes.val q4 q2))<|Md rt (iJ (tR 8 false 0 1 (oA:aq (L++z::Z)=0))<|iJ (tR 8 false 0 1 (oA:aq (L++z::Z)=0)) rt) (by exact KH (zs:=((L++z::Z).drop i).take (n+1 - i)) rfl (yq rfl rfl) (by grind [qS]) (by grind) (by grind [Sl]):fY (uZ (8) ((AHeap.mk 1 (bm (aa [AObj.row 8 false 0 (L++z::Z)]) ([0,0]) Tr.nil))) ((some (AV.slice 0 0 (i+1) (n - i) (some (n+(k+1) - (i+1)))))) ((some (AV.slice 0 0 i (n+1 - i) (some (n+(k+1) - i))))))=some (ARes.val (nV (n - i)) (AHeap.put (AHeap.mk 1 (bm (aa [AObj.row 8 false 0 (L++z::Z)]) ([0,0]) Tr.nil)) 0 (AObj.row 8 false 0 (L.take (i+1)++(L.drop i++Z))))))<|Ko 1 (by exact g9 (xs:=L.take (i+1)++(L.drop i++Z)) (l:=i) (h:=n+1) (by kernel_rfl) (by rfl) (by rfl) (by omega) (by omega) (by omega) (by omega) (by omega) (by omega):bq q1 (dJ (8) q1 ((some q3)) q5 (none) (none))=some (ARes.val q4 q1))<|Ko 0 (by exact KH (zs:= [x]) rfl (by rfl) (qR hx) (by grind) (by grind [List.take_of_length_le, PQ]):fY (uZ (8) q1 ((some q4)) ((some (AV.ps [x] t))))=some (ARes.val (iV 1) (aa [AObj.row 8 false 0 (gj i x L++Z)])))<|Kf 1 a
theorem Pc (L:List AV) (x:AV) (t:Bool) (n i:Nat) (hi:i<n) (hn:L.length=n) (hs:n<2 ^ 20) (hx:dm 8 [x]=true) (hf:dm 8 L=true) (hT:aq L=0) (hT2:aq (L.take i++(x::List.replicate (n - i) zU))=0) (hI:aq (gj i x L)=0):kD 140 [.slice 0 0 0 n (some n),nV i, .ps [x] t] (aa [du L]) (.ls (gj i x L)) (aa [du L]):=by
  have hq:ab (Int.ofNat i) (Int.ofNat n)=false:=Xk (by omega)
  have hl:ar (Int.ofNat n) (Int.ofNat (n+1))=true:=Yh (by omega)
  have hIl:(gj i x L).length=n+1:=(zq (by omega)).trans (by omega)
  let q:=aa [aZ 8 false 0 L,aZ 8 true 0 (L.take i++x::List.replicate (n - i) zU)];let q1:=aa [aZ 8 false 0 L,aZ 8 true 0 (L.take i++List.replicate (n+1 - i) zU)];let q2:=aa [aZ 8 false 0 L];let q3:=(some (nV i));let q4:=AHeap.mk 1000000 (bm q ([0]) Tr.nil);let q5:=aG 0 0 i (n - i) (some (n - i));let q6:=(some (aG 0 0 0 n (some n)));let q7:=AHeap.mk 2 (bm q ([1,0]) Tr.nil);let q8:=aG 1 0 i (n+1 - i) none;let q9:=aG 1 0 0 (n+1) none;let q10:=aG 0 0 0 i (some n);exact fk Tryz.func140 fun a=>Ko 2 (by exact g9 (xs:=L) (l:=i) (h:=n) (by kernel_rfl) (by rfl) (by rfl) (by omega) (by omega) (by omega) (by omega) (by omega) (by omega):bq q2 (dJ (8) q2 q6 q3 (none) (none))=some (ARes.val q5 q2))<|Kh 11 hq<|Kl 2 28 (jY n)<|Kt 2 hl<|Ko 1 (by exact g9 (xs:=L) (l:=0) (h:=i) (by kernel_rfl) (by rfl) (by rfl) (by omega) (by omega) (by omega) (by omega) (by omega) (by omega):bq q2 (dJ (8) q2 q6 (none) q3 (none))=some (ARes.val q10 q2))<|Kl 2 37 (jY n)<|Ko 0 (by (show bq _ (some (AV.int .i64 (IntKind.i64.wrap (Int.ofNat (n+1) - Int.ofNat i))))=_;rw [show (Int.ofNat (n+1) - Int.ofNat i)=Int.ofNat (n+1 - i) by grind,xX (by simp_all) (by grind)];rfl):bq (aa [AObj.row 8 false 0 L]) (Ro (pi BinOp.sub (Tryz.prog.underlying 3) (cG Tryz.prog 3) (cM Tryz.prog 3) (dM Tryz.prog 10 3 0)) ((some (nV (n+1)))) ((some (nV i))))=some (ARes.val (nV (n+1 - i)) (aa [AObj.row 8 false 0 L])))<|Mo (by exact Sh rfl (by omega) (by omega) (by kernel_rfl) (aE (m:=2 ^ 21) (by omega) (by omega) (by omega)) (aE (m:=2 ^ 21) (by omega) (by omega) (by omega)) (by simp_all) (by grind):fY (BM (8) (120) (AV.agg [iV 0,iV 0,iV 0,iV 0,AV.str [],AV.nils,AV.nils,AV.nils]) q2 ((some q10)) ((some (nV (n+1 - i)))))=some (ARes.val q9 q1))<|Ko 2 (by exact CM (xs:=L.take i++List.replicate (n+1 - i) zU) (l:=i) (h:=n+1) (by kernel_rfl) (by rfl) (by rfl) (by omega) (by grind) (by omega) (by omega):bq q1 (dJ (8) q1 ((some q9)) q3 (none) (none))=some (ARes.val q8 q1))<|Ko 0 (by exact KH (zs:= [x]) rfl (by rfl) (qR hx) (by grind) (by grind [List.take_of_length_le, Sa]):fY (uZ (8) q1 ((some q8)) ((some (AV.ps [x] t))))=some (ARes.val (iV 1) q))<|Mg 2<|Ma (jY i)<|Mv (by exact CM (xs:=L.take i++(x::List.replicate (n - i) zU)) (l:=i+1) (h:=n+1) (by kernel_rfl) (by rfl) (by rfl) (by omega) (by grind) (by omega) (by omega):bq ((AHeap.mk 1000000 (bm (aa [AObj.row 8 false 0 L,AObj.row 8 true 0 (L.take i++x::List.replicate (n - i) zU)]) ([1]) Tr.nil))) (dJ (8) ((AHeap.mk 1000000 (bm (aa [AObj.row 8 false 0 L,AObj.row 8 true 0 (L.take i++x::List.replicate (n - i) zU)]) ([1]) Tr.nil))) ((some (AV.slice 1 0 0 (n+1) none))) ((some (nV (i+1)))) (none) (none))=some (ARes.val (AV.slice 1 0 (i+1) (n - i) none) (AHeap.mk 1000000 (bm (aa [AObj.row 8 false 0 L,AObj.row 8 true 0 (L.take i++x::List.replicate (n - i) zU)]) ([1]) Tr.nil))))<|Kv 1 (by exact g9 (xs:=L) (l:=i) (h:=n) (by kernel_rfl) (by rfl) (by rfl) (by omega) (by omega) (by omega) (by omega) (by omega) (by omega):bq (q4) (dJ (8) (q4) q6 q3 (none) (none))=some (ARes.val q5 q4))<|Md rt (iJ (tR 8 true 0 2 (oA:aq (L.take i++x::List.replicate (n - i) zU)=0))<|iJ (tR 8 false 0 2 (oA:aq (L)=0)) rt) (by exact KH (zs:=L.drop i) rfl (yq rfl (xE (by simp_all))) (qR (qS hf)) (by simp_all) (by grind [List.length_drop, O8]):fY (uZ (8) (q7) ((some (AV.slice 1 0 (i+1) (n - i) none))) ((some q5)))=some (ARes.val (nV (n - i)) (AHeap.put q7 1 (AObj.row 8 true 0 (gj i x L)))))<|Mg 1<|M2 (.fsl 1 [] 6<|gj i x L) (et (tR 8 false 0 1 (oA:aq (L)=0)) ti) (cH (aU 0) (Uq (oA:(gj i x L).length=n+1)) (oA:aq (gj i x L)=0))<|Ml 6 (fg (gj i x L) false (oA:aq (gj i x L)=0))<|Mf a
theorem FB (x:TUnit) (t:Bool):kP 140 [.nils,iV 0, .ps [eU x] t] (.ls [eU x]):=by
  have hx:dm 8 [eU x]=true:=by kernel_rfl
  have hIl : [eU x].length=1:=rfl
  have hI:aq [eU x]=0:=by kernel_rfl
  let q:= [aw [iV x.act,iV x.item,iV x.n,iV x.kind,aj x.label,aW (x.head.map aQ),aW (x.words.map aQ),aW (x.kids.map aV)]];exact bg Tryz.func140<|Ko 18 (by (simp only [dj,gY,kz,kW,gH,hx];rfl):fY (dj (8) (120) (aa []) ((some (AV.nils))) ((some (AV.ps [AV.agg [iV x.act,iV x.item,iV x.n,iV x.kind,AV.str x.label,AV.ls (x.head.map aQ),AV.ls (x.words.map aQ),AV.ls (x.kids.map aV)]] t))))=some (ARes.val (AV.slice 0 0 0 1 none) (aa [AObj.row 8 true 0 [eU x]])))<|K1 0 (.frz 0 [6]) ti<|Mf (fg q _<|by rfl:Le _ (AV.ps q false))
theorem FA (x:TUnit) (t:Bool):kP 140 [.ps [] true,iV 0, .ps [eU x] t] (.ls [eU x]):=by
  have hx:dm 8 [eU x]=true:=by kernel_rfl
  have hIl : [eU x].length=1:=rfl
  have hI:aq [eU x]=0:=by kernel_rfl
  let q:= [aw [iV x.act,iV x.item,iV x.n,iV x.kind,aj x.label,aW (x.head.map aQ),aW (x.words.map aQ),aW (x.kids.map aV)]];exact bg Tryz.func140<|Ko 18 (by (simp only [dj,gY,kz,kW,gH,hx];rfl):fY (dj (8) (120) (aa []) ((some (AV.ps [] true))) ((some (AV.ps [AV.agg [iV x.act,iV x.item,iV x.n,iV x.kind,AV.str x.label,AV.ls (x.head.map aQ),AV.ls (x.words.map aQ),AV.ls (x.kids.map aV)]] t))))=some (ARes.val (AV.slice 0 0 0 1 none) (aa [AObj.row 8 true 0 [eU x]])))<|K1 0 (.frz 0 [6]) ti<|Mf (fg q _<|by rfl:Le _ (AV.ps q false))
noncomputable def JY:TypeInfo:=(Tryz.prog.info? 31).getD default
theorem NI:Tryz.prog.info? 31=some JY:=by kernel_rfl
/-- A unit of zero values says no more than the zero value. -/
theorem Wm:Le (aV bj) zU:=aL (.cons (Le.refl _) (.cons (Le.refl _) (.cons (Le.refl _) (.cons (Le.refl _) (.cons (Le.refl _) (.cons Le.nils (.cons Le.nils (.cons Le.nils .nil)))))))) rfl
theorem Hd:JY.size=8:=by kernel_rfl
theorem El:JY.bytes=120:=by kernel_rfl
theorem Xp (l:List TUnit):dm 8 (l.map aV)=true:=gk (fun u=>by cases u;rfl) l
/-- A copy of units: a row of its own, which holds zero values behind them. -/
theorem DD (xs:List TUnit) (hne:xs≠ []) (hl:xs.length≤2 ^ 20) (a b c:AObj):kC 233 [.ls (xs.map aV)] (aa [a,b,c])
    (fun v h=>∃ k:Nat,True∧v = .slice 3 0 0 xs.length (some (xs.length+k))∧h=aa [a,b,c,du ((xs++List.replicate k bj).map aV)]):=by
  simp only [pu,List.map_replicate]
  have hn:xs.map aV≠ []:=fun h=>hne (List.map_eq_nil_iff.1 h)
  have hf:=Xp xs
  have hsm:small (xs.map aV).length 120=true:=by grind [aE]
  have hlen:xs.length=(xs.map aV).length:=(b8 ..).symm
  rw [hlen]
  generalize xs.map aV=L at hn hf hsm
  refine aC.enter 2 (fn:=Tryz.f233) Tryz.func233 (by kernel_rfl) rfl ⟨by kernel_rfl,by kernel_rfl⟩ ?_
  refine ah.seq (ah.mono (Dv py iN (ev 40) (s':=⟨dS 8 [(0, .ls L),(2, .nils)],aa [a,b,c]⟩) (.go 0 .fin) (by kernel_rfl)) ?_)
  rintro _ _ ⟨rfl,rfl⟩
  refine ah.seq (ah.seq (ah.mono (xy iN (ev 40) (Ψ:=fun s=>s=⟨dS 8 [(0, .ls L),(2, .nils),(3, .ps L false),(4, .bool false)],aa [a,b,c]⟩) (.go 0 (.nz 3 .abs (.go 0 .fin)))
    (W:=(L = []→False)∧(⟨dS 8 [(0, .ls L),(2, .nils),(3, .ps L false),(4, .bool false)],aa [a,b,c]⟩:St)=⟨dS 8 [(0, .ls L),(2, .nils),(3, .ps L false),(4, .bool false)],aa [a,b,c]⟩) ⟨hn,rfl⟩ (by kernel_rfl)) ?_))
  rintro _ _ ⟨rfl,rfl⟩
  refine ah.cond (t:=false) (by kernel_rfl) (fun h=>by grind) fun _=>ah.skip ?_
  refine ah.seq (ah.region ?_)
  show cJ _ _ _ _ [_,_,_,_] _ _
  refine cJ.one (s':=⟨dS 8 [(0, .ls L),(2, .nils),(3, .ps L false),(4, .bool false),(5, .ps [] true)],aa [a,b,c]⟩) (ev 40) (by kernel_rfl) ?_
  refine cJ.one (s':=⟨dS 8 [(0, .ls L),(2, .nils),(3, .ps L false),(4, .bool false),(5, .ps [] true),(6, .ls L)],aa [a,b,c]⟩) (ev 40) (by kernel_rfl) ?_
  refine rq (I:=fun _=>True) (r:=fun k:Nat=> .slice 3 0 0 L.length (some (L.length+k))) (H:=fun k=>aa [a,b,c, .row 8 false 0 (L++List.replicate k (aV bj))]) (by kernel_rfl)
    (fun pl M a w g1 g2 g3=>uq (z:=aV bj) (z0:=zU) (xs:=L) (t:=29) (tx:=29) (e:=31) (i:=JY) Hd El (by kernel_rfl) ⟨31,by kernel_rfl⟩ NI (by kernel_rfl) Wm (by kernel_rfl) (by kernel_rfl) hn hf (by kernel_rfl) hsm (by omega) pl M a w g1 g2 g3) fun k _=>?_
  refine ⟨dS 8 [(0, .ls L),(2, .nils),(3, .ps L false),(4, .bool false),(5, .ps [] true),(6, .ls L),(7, .slice 3 0 0 L.length (some (L.length+k)))],by kernel_rfl,?_⟩
  refine cJ.one (s':=⟨dS 8 [(0, .ls L),(2, .slice 3 0 0 L.length (some (L.length+k))),(3, .ps L false),(4, .bool false),(5, .ps [] true),(6, .ls L),(7, .slice 3 0 0 L.length (some (L.length+k)))],aa [a,b,c, .row 8 false 0 (L++List.replicate k (aV bj))]⟩) (ev 40) (by kernel_rfl) (cJ.nil (ah.ret ⟨fun id h=>(by grind), .slice 3 0 0 L.length (some (L.length+k)),by kernel_rfl,k,trivial,by kernel_rfl,by kernel_rfl⟩))
/-- The unit that a closure changes: its kids are 'K'. -/
noncomputable abbrev dt (u:TUnit) (K:AV):AObj:= .row 8 false 0 [.agg [iV u.act,iV u.item,iV u.n,iV u.kind, .str u.label, .ls (u.head.map aQ), .ls (u.words.map aQ),K]]
theorem Wp (u:TUnit) (n c i:Nat) (R R':List AV) (hT:aq R=0) (hT2:aq R'=0) (hi:i<n) (hs:n≤2 ^ 20) (hD:kD 237 [.slice 1 0 0 n (some c),nV i,nV (i+1)] (aa [dt u (.slice 1 0 0 n (some c)),du R]) (.slice 1 0 0 (n - 1) (some c)) (aa [dt u (.slice 1 0 0 n (some c)),du R'])) :
    kD 236 [.ptr 0 0 0 0, .pptr [nV i] 0 0] (aa [dt u (.slice 1 0 0 n (some c)),du R]) (.tuple []) (aa [dt u (.slice 1 0 0 (n - 1) (some c)),du R']):=by
  exact fk Tryz.func236 fun a=>Mg 6<|Ma (jY i)<|M3 (.efx false (aG 1 0 0 (n - 1)<|some c)<|aa [aZ 8 false 0 [aw [iV u.act,iV u.item,iV u.n,iV u.kind,aj u.label,aW<|u.head.map aQ,aW<|u.words.map aQ,aG 1 0 0 n<|some c]],aZ 8 false 0 R']) (cH (tR 8 false 0 2 (oA:aq (R)=0)) rt ti) ti hD<|Kf 2 a
theorem Vm (u x:TUnit) (n c i:Nat) (R R':List AV) (hT:aq R=0) (hT2:aq R'=0) (hD:kD 140 [.slice 1 0 0 n (some c),nV i, .ps [eU x] true] (aa [dt u (.slice 1 0 0 n (some c)),du R]) (.slice 1 0 0 (n+1) (some c)) (aa [dt u (.slice 1 0 0 n (some c)),du R'])) :
    kD 139 [.ptr 0 0 0 0, .pptr [nV i] 0 0, .pptr [eU x] 0 0] (aa [dt u (.slice 1 0 0 n (some c)),du R]) (.tuple []) (aa [dt u (.slice 1 0 0 (n+1) (some c)),du R']):=by
  exact fk Tryz.func139 fun a=>Mg 7<|M3 (.efx false (aG 1 0 0 (n+1)<|some c)<|aa [aZ 8 false 0 [aw [iV u.act,iV u.item,iV u.n,iV u.kind,aj u.label,aW<|u.head.map aQ,aW<|u.words.map aQ,aG 1 0 0 n<|some c]],aZ 8 false 0 R']) (cH (tR 8 false 0 2 (oA:aq (R)=0)) rt ti) ti hD<|Kf 2 a
theorem Vl (u x:TUnit) (n c i:Nat) (R Y:List AV) (hT:aq R=0) (hD:kD 140 [.slice 1 0 0 n (some c),nV i, .ps [eU x] true] (aa [dt u (.slice 1 0 0 n (some c)),du R]) (.ls Y) (aa [dt u (.slice 1 0 0 n (some c)),du R])) :
    kD 139 [.ptr 0 0 0 0, .pptr [nV i] 0 0, .pptr [eU x] 0 0] (aa [dt u (.slice 1 0 0 n (some c)),du R]) (.tuple []) (aa [dt u (.ls Y),du R]):=by
  let q:= [aw [iV u.act,iV u.item,iV u.n,iV u.kind,aj u.label,aW (u.head.map aQ),aW (u.words.map aQ),aG 1 0 0 n (some c)]];exact fk Tryz.func139 fun a=>Mg 7<|M3 (.efx true (aW Y)<|aa [aZ 8 false 0 q,aZ 8 false 0 R]) (cH (tR 8 false 0 2 (oA:aq (R)=0)) rt ti) (cH (aU<|some<|aZ 8 false 0 R) (aU<|some<|aZ 8 false 0 q) ti) hD<|Kf 2 a
theorem Vi (u x:TUnit) (Y:List AV) (hD:kP 140 [.nils,iV 0, .ps [eU x] true] (.ls Y)) :
    kD 139 [.ptr 0 0 0 0, .pptr [iV 0] 0 0, .pptr [eU x] 0 0] (aa [dt u .nils]) (.tuple []) (aa [dt u (.ls Y)]):=by
  exact fk Tryz.func139 fun a=>Kp 7 hD<|Kf 2 a
theorem Vh (u x:TUnit) (Y:List AV) (hD:kP 140 [(.ps [] true),iV 0, .ps [eU x] true] (.ls Y)) :
    kD 139 [.ptr 0 0 0 0, .pptr [iV 0] 0 0, .pptr [eU x] 0 0] (aa [dt u (.ps [] true)]) (.tuple []) (aa [dt u (.ls Y)]):=by
  exact fk Tryz.func139 fun a=>Kp 7 hD<|Kf 2 a
theorem Vx (u x:TUnit) (n c i:Nat) (R R':List AV) (hT:aq R=0) (hT2:aq R'=0) (hD:kD 140 [.slice 1 0 0 n (some c),nV i, .ps [eU x] true] (aa [dt u (.slice 1 0 0 n (some c)),du R]) (.slice 1 0 0 (n+1) (some c)) (aa [dt u (.slice 1 0 0 n (some c)),du R'])) :
    kD 150 [.ptr 0 0 0 0, .pptr [nV i] 0 0, .pptr [eU x] 0 0] (aa [dt u (.slice 1 0 0 n (some c)),du R]) (.tuple []) (aa [dt u (.slice 1 0 0 (n+1) (some c)),du R']):=by
  exact fk Tryz.func150 fun a=>Mg 7<|M3 (.efx false (aG 1 0 0 (n+1)<|some c)<|aa [aZ 8 false 0 [aw [iV u.act,iV u.item,iV u.n,iV u.kind,aj u.label,aW<|u.head.map aQ,aW<|u.words.map aQ,aG 1 0 0 n<|some c]],aZ 8 false 0 R']) (cH (tR 8 false 0 2 (oA:aq (R)=0)) rt ti) ti hD<|Kf 2 a
theorem Vz (u x:TUnit) (n c i:Nat) (R Y:List AV) (hT:aq R=0) (hD:kD 140 [.slice 1 0 0 n (some c),nV i, .ps [eU x] true] (aa [dt u (.slice 1 0 0 n (some c)),du R]) (.ls Y) (aa [dt u (.slice 1 0 0 n (some c)),du R])) :
    kD 150 [.ptr 0 0 0 0, .pptr [nV i] 0 0, .pptr [eU x] 0 0] (aa [dt u (.slice 1 0 0 n (some c)),du R]) (.tuple []) (aa [dt u (.ls Y),du R]):=by
  let q:= [aw [iV u.act,iV u.item,iV u.n,iV u.kind,aj u.label,aW (u.head.map aQ),aW (u.words.map aQ),aG 1 0 0 n (some c)]];exact fk Tryz.func150 fun a=>Mg 7<|M3 (.efx true (aW Y)<|aa [aZ 8 false 0 q,aZ 8 false 0 R]) (cH (tR 8 false 0 2 (oA:aq (R)=0)) rt ti) (cH (aU<|some<|aZ 8 false 0 R) (aU<|some<|aZ 8 false 0 q) ti) hD<|Kf 2 a
theorem Vq (u x:TUnit) (Y:List AV) (hD:kP 140 [.nils,iV 0, .ps [eU x] true] (.ls Y)) :
    kD 150 [.ptr 0 0 0 0, .pptr [iV 0] 0 0, .pptr [eU x] 0 0] (aa [dt u .nils]) (.tuple []) (aa [dt u (.ls Y)]):=by
  exact fk Tryz.func150 fun a=>Kp 7 hD<|Kf 2 a
theorem VU (u x:TUnit) (Y:List AV) (hD:kP 140 [(.ps [] true),iV 0, .ps [eU x] true] (.ls Y)) :
    kD 150 [.ptr 0 0 0 0, .pptr [iV 0] 0 0, .pptr [eU x] 0 0] (aa [dt u (.ps [] true)]) (.tuple []) (aa [dt u (.ls Y)]):=by
  exact fk Tryz.func150 fun a=>Kp 7 hD<|Kf 2 a
theorem Wn (u:TUnit) (l:List PWord):kD 143 [.ptr 0 0 0 0, .pptr [.ls (l.map aQ)] 0 0] (aa [dt u (.ls (u.kids.map aV))]) (.tuple []) (aa [dt (lO l u) (.ls (u.kids.map aV))]):=by
  exact fk Tryz.func143 fun a=>Kf 4 a
theorem XQ (u:TUnit) (l:List PWord):kD 145 [.ptr 0 0 0 0, .pptr [.ls (l.map aQ)] 0 0] (aa [dt u (.ls (u.kids.map aV))]) (.tuple []) (aa [dt (lO l u) (.ls (u.kids.map aV))]):=by
  exact fk Tryz.func145 fun a=>Kf 4 a
theorem Xl (u:TUnit) (l:List PWord):kD 147 [.ptr 0 0 0 0, .pptr [.ls (l.map aQ)] 0 0] (aa [dt u (.ls (u.kids.map aV))]) (.tuple []) (aa [dt (zj l u) (.ls (u.kids.map aV))]):=by
  exact fk Tryz.func147 fun a=>Kf 4 a
theorem W8 (u:TUnit) (d:PDeed):kD 149 [.ptr 0 0 0 0, .pptr [aJ d] 0 0] (aa [dt u (.ls (u.kids.map aV))]) (.tuple []) (aa [dt (qN d.it.label u) (.ls (u.kids.map aV))]):=by
  exact fk Tryz.func149 fun a=>Kf 6 a
noncomputable abbrev uI (p:PId):AObj:= .row 3 false 0 [aY p]
noncomputable abbrev zO:AObj:= .row 8 false 0 [zU]
theorem GE:kP 233 [.nils] .nils:=by
  exact wk Tryz.func233 (.go 4 .fin)<|bV ak
theorem GD:kP 233 [.ps [] false] (.ps [] true):=by
  exact wk Tryz.func233 (.go 7 .fin)<|bV<|kO [] true
theorem QA (w:TUnit) (r:List TUnit) (hl:r.length<2 ^ 20):kP 233 [.ls ((w::r).map aV)] (.ls ((w::r).map aV)):=by
  let q:=List.map aV (w::r);exact bg Tryz.func233<|Mg 1<|Mz 3 (fun (a:((w::r).map aV:List AV) = [])=>Mw .abs<|m8 _ _ a)<|Mg 3<|M2 .apl (et (sA:List.map aV (w::r)≠ [])<|gk (sz:=8) (f:=aV) (fun _=>by (rw [aH];rfl))<|w::r) (by (refine aE (m:=2 ^ 21) ?_ ?_ ?_ <;> first | omega | grind):small ((w::r).map aV).length 120=true)<|Mg 0<|M2 (.fsl 0 [] 2 q) ti (cH (aU 0) (tA aV (w::r) q.length (sA:(w::r).length=((w::r).map aV).length))<|aX gM<|w::r)<|Ml 2 (fg q false<|aX gM<|w::r)<|Mf<|bV<|aW q
theorem Ca (l:List TUnit) (hl:l.length≤2 ^ 20):kP 233 [.ls (l.map aV)] (.ls (l.map aV)):=by
  cases l with
  | nil=>exact aN.ls0 (GE.less Le.nils) (GD.lessB (u:= .ls []) (by kernel_rfl))
  | cons w r=>grind [QA]
/-- The unit is found; its kids stay what they are. -/
theorem xh (g:Nat) (bs:List AV) (p:PId) (u u2:TUnit) (hA:aq [eU u,aY p, .func (.func g) [] bs]=0) (hp:(ab u.act p.a && (ab u.item p.i && ab u.n p.n))=true) (hl:u.kids.length≤2 ^ 20) (hd:kD g (.ptr 0 0 0 0::bs) (aa [dt u (.ls (u.kids.map aV)),uI p,zO]) (.tuple []) (aa [dt u2 (.ls (u2.kids.map aV)),uI p,zO])):kP 138 [eU u,aY p, .func (.func g) [] bs] (eU u2):=by
  have hc:=Ca u.kids hl
  let q:= [iV p.a,iV p.i,iV p.n];exact bg (ht:=oA) Tryz.func138<|Kv 5 (lY ((Tryz.prog).underlying 27) u.act u.item u.n p.a p.i p.n<|aa [aZ 8 false 0 [aw [iV u.act,iV u.item,iV u.n,iV u.kind,aj u.label,aW<|u.head.map aQ,aW<|u.words.map aQ,aW<|u.kids.map aV]],aZ 3 false 0 [aw q],aZ 8 false 0 [aw [iV 0,iV 0,iV 0,iV 0,aj [],ak,ak,ak]]])<|Mt hp<|Kp 1 hc<|Ke 2 hd<|Kf 1<|bV<|aw [iV u2.act,iV u2.item,iV u2.n,iV u2.kind,aj u2.label,aW<|u2.head.map aQ,aW<|u2.words.map aQ,aW<|u2.kids.map aV]
/-- The unit is found; it has kids; in its own row something is done. -/
theorem S9 (g:Nat) (bs:List AV) (p:PId) (u u2:TUnit) (n2:Nat) (Z:Nat→List AV) (hA:aq [eU u,aY p, .func (.func g) [] bs]=0) (hp:(ab u.act p.a && (ab u.item p.i && ab u.n p.n))=true) (hl:u.kids.length≤2 ^ 20) (hne:u.kids≠ []) (hn2:u2.kids.length=n2) (hd : ∀ k,kD g (.ptr 0 0 0 0::bs) (aa [dt u (.slice 3 0 0 u.kids.length (some (u.kids.length+k))),uI p,zO,du ((u.kids++List.replicate k bj).map aV)]) (.tuple []) (aa [dt u2 (.slice 3 0 0 n2 (some (u.kids.length+k))),uI p,zO,du (u2.kids.map aV++Z k)])):kP 138 [eU u,aY p, .func (.func g) [] bs] (eU u2):=by
  let q:= [aw [iV u.act,iV u.item,iV u.n,iV u.kind,aj u.label,aW (u.head.map aQ),aW (u.words.map aQ),aW (u.kids.map aV)]];let q1:= [iV p.a,iV p.i,iV p.n];let q2:= [aw [iV 0,iV 0,iV 0,iV 0,aj [],ak,ak,ak]];let q3:=List.map aV u2.kids;exact bg (ht:=oA) Tryz.func138<|Kv 5 (lY ((Tryz.prog).underlying 27) u.act u.item u.n p.a p.i p.n<|aa [aZ 8 false 0 q,aZ 3 false 0 [aw q1],aZ 8 false 0 q2])<|Mt hp<|Mg 1<|Mq (DD u.kids hne hl (aZ 8 false 0 q) (aZ 3 false 0 [aw q1])<|aZ 8 false 0 q2) fun a _=>Ke 2 (hd a)<|M2 (.fza 0 7 3 [3,6] q3) (kq rt rt rt ti) (cH (aU 0) (Jz (xs:=List.map aV u2.kids) (ys:=Z a) (n:=n2) sA)<|aX gM u2.kids)<|Kf 1<|bV<|aw [iV u2.act,iV u2.item,iV u2.n,iV u2.kind,aj u2.label,aW<|u2.head.map aQ,aW<|u2.words.map aQ,aW q3]
theorem TU {l m:List TUnit} {i:Nat} (h:i<l.length):gD (l++m) i=gD l i:=by
  grind [gD]
theorem sP {l m:List TUnit} {i n:Nat} {x:TUnit} (h:l.length=n) (hi:i<n):((l++m).set i x).take n=l.set i x:=by
  simp_all
theorem RY {l m:List TUnit} {n:Nat} (h:l.length=n):(l++m).take n=l:=by simp_all
theorem Km {l:List TUnit} {i:Nat} (h:i<l.length):l.drop i=gD l i::l.drop (i+1):=by
  grind [List.drop_eq_getElem_cons, gD]
theorem Wu {p:PId} {f:TUnit→TUnit} {l:List TUnit} {i:Nat} (h:jX p f l i (l.drop i)) (hi:l.length≤i):ej p f l=l:=by
  grind [List.drop_eq_nil_of_le, jX.done]
theorem Wr {p:PId} {f:TUnit→TUnit} {l:List TUnit} {i:Nat} (h:jX p f l i (l.drop i)) (hi:i<l.length) (hw:cX p (gD l i)=false):jX p f l (i+1) (l.drop (i+1)):=by
  grind [Km, jX.skip]
theorem Ws {p:PId} {f:TUnit→TUnit} {l:List TUnit} {i:Nat} (h:jX p f l i (l.drop i)) (hi:i<l.length) (hw:cX p (gD l i)=true):ej p f l=l.set i (dW p f (gD l i)):=by
  grind [Km, jX.hit]
/-- The unit is another one without kids. -/
theorem Xa (g:Nat) (bs:List AV) (p:PId) (u:TUnit) (hA:aq [eU u,aY p, .func (.func g) [] bs]=0) (hA2:(AV.func (.func g) [] bs).top=0) (hp:(ab u.act p.a && (ab u.item p.i && ab u.n p.n))=false) (h0:u.kids.length=0) (hl0:ar 0 (Int.ofNat u.kids.length)=false):kP 138 [eU u,aY p, .func (.func g) [] bs] (eU u):=by
  have hc:=Ca u.kids (by omega)
  let q:= [aZ 8 false 0 [aw [iV u.act,iV u.item,iV u.n,iV u.kind,aj u.label,aW (u.head.map aQ),aW (u.words.map aQ),aW (u.kids.map aV)]],aZ 3 false 0 [aw [iV p.a,iV p.i,iV p.n]],aZ 8 false 0 [aw [iV 0,iV 0,iV 0,iV 0,aj [],ak,ak,ak]]];let q1:= [bZ (bQ g) [] bs,bJ 0 0 0 0,bJ 1 0 0 0,bJ 2 0 0 0,aW (u.kids.map aV),aW (u.kids.map aV),nV u.kids.length,iV 0];exact bg (ht:=oA) Tryz.func138<|Kv 5 (lY ((Tryz.prog).underlying 27) u.act u.item u.n p.a p.i p.n<|aa q)<|Mh hp<|Kp 1 hc<|Kl 2 27 (ln aV u.kids)<|Mg 0<|X4 [2,3,4,6,7,26,27,28] (q1,q) True 0 ti fun _ _=>Kh 0 hl0<|Kf 4<|bV<|aw [iV u.act,iV u.item,iV u.n,iV u.kind,aj u.label,aW<|u.head.map aQ,aW<|u.words.map aQ,aW<|u.kids.map aV]
/-- The unit is another: what is done below. -/
theorem Xy (g:Nat) (bs:List AV) (p:PId) (f:TUnit→TUnit) (u:TUnit) (hA:aq [eU u,aY p, .func (.func g) [] bs]=0) (hA2:(AV.func (.func g) [] bs).top=0) (hp:(ab u.act p.a && (ab u.item p.i && ab u.n p.n))=false) (hne:u.kids≠ []) (hn:u.kids.length≤2 ^ 20)
    (hf : ∀ k,k∈u.kids→kP 48 [eU k,aY p] (.tuple [eU (eH p k), .bool (cX p k)]))
    (ih : ∀ k,k∈u.kids→kP 138 [eU k,aY p, .func (.func g) [] bs] (eU (dW p f k))):kP 138 [eU u,aY p, .func (.func g) [] bs] (eU (mA u (ej p f u.kids))):=by
  have rr0 : ∀ b',(h:(List.map aV (mA u (ej p f u.kids)).kids)=b':=by first | rfl | (rw [Ws hx0.2 (by (first | omega | (simp only [oN] at *;omega))) (by rw [← q0 (by (first | omega | (simp only [oN] at *;omega)))];assumption),q0 (by (first | omega | (simp only [oN] at *;omega)))];exact congrArg _ (sP rfl (by (first | omega | (simp only [oN] at *;omega)))).symm) | (rw [Wu hx0.2 (by (first | omega | (simp only [oN] at *;omega)))];exact congrArg _ (RY rfl).symm))→(List.map aV (mA u (ej p f u.kids)).kids)=b':=(fun _ h=>h);exact bg (ht:=oA) Tryz.func138<|Kv 5 (lY ((Tryz.prog).underlying 27) u.act u.item u.n p.a p.i p.n<|aa [aZ 8 false 0 [aw [iV u.act,iV u.item,iV u.n,iV u.kind,aj u.label,aW<|u.head.map aQ,aW<|u.words.map aQ,aW<|u.kids.map aV]],aZ 3 false 0 [aw [iV p.a,iV p.i,iV p.n]],aZ 8 false 0 [aw [iV 0,iV 0,iV 0,iV 0,aj [],ak,ak,ak]]])<|Mh hp<|Mg 1<|Mq (DD u.kids hne hn (aZ 8 false 0 [aw [iV u.act,iV u.item,iV u.n,iV u.kind,aj u.label,aW<|u.head.map aQ,aW<|u.words.map aQ,aW<|u.kids.map aV]]) (aZ 3 false 0 [aw [iV p.a,iV p.i,iV p.n]])<|aZ 8 false 0 [aw [iV 0,iV 0,iV 0,iV 0,aj [],ak,ak,ak]]) fun a _=>Mg 3<|X3 (0:Nat) [2,3,4,6,7,26,27,28] (fun b=>([bZ (bQ g) [] bs,bJ 0 0 0 0,bJ 1 0 0 0,bJ 2 0 0 0,aG 3 0 0 u.kids.length<|some<|u.kids.length+a,aG 3 0 0 u.kids.length<|some<|u.kids.length+a,nV u.kids.length,nV b],[aZ 8 false 0 [aw [iV u.act,iV u.item,iV u.n,iV u.kind,aj u.label,aW<|u.head.map aQ,aW<|u.words.map aQ,aW<|u.kids.map aV]],aZ 3 false 0 [aw [iV p.a,iV p.i,iV p.n]],aZ 8 false 0 [aw [iV 0,iV 0,iV 0,iV 0,aj [],ak,ak,ak]],aZ 8 false 0<|(u.kids++List.replicate a bj).map aV])) (fun a=>a≤u.kids.length∧jX p f u.kids a (u.kids.drop a)) (fun a=>u.kids.length - a) (by simp_all [jX.start]) fun b hx0 c=>have hx0:b≤u.kids.length∧jX p f u.kids b (u.kids.drop b):=hx0;have q0:b<u.kids.length→gD (u.kids++List.replicate a bj) b=gD u.kids b:=fun h=>TU h;Ka 0 (Int.ofNat b) (Int.ofNat u.kids.length) (fun _ _=>K1 0 .rix (et (aU 0) (sA:b<u.kids.length))<|Mr (et (aU 0)<|qF aV (g:=Go.Ev.eU) aH (gR:b<(u.kids++List.replicate a bj).length))<|Kp 4 (hf (gD (u.kids++List.replicate a bj) b)<|by grind [iQ])<|Kb 6 (cX p<|gD (u.kids++List.replicate a bj) b) (fun _=>Kp 4 (ih (gD (u.kids++List.replicate a bj) b)<|by grind [iQ])<|M1 .rix (et (aU 0) (sA:b<u.kids.length))<|M1 (.rst (aw [iV (gD (u.kids++List.replicate a bj) b).act,iV (gD (u.kids++List.replicate a bj) b).item,iV (gD (u.kids++List.replicate a bj) b).n,iV (gD (u.kids++List.replicate a bj) b).kind,aj (gD (u.kids++List.replicate a bj) b).label,aW<|List.map aQ (gD (u.kids++List.replicate a bj) b).head,aW<|List.map aQ (gD (u.kids++List.replicate a bj) b).words,aW<|List.map aV (gD (u.kids++List.replicate a bj) b).kids])<|((u.kids++List.replicate a bj).set b<|dW p f<|gD (u.kids++List.replicate a bj) b).map aV) (cH (aU 0) (qF aV (g:=Go.Ev.eU) aH (gR:b<(u.kids++List.replicate a bj).length))<|CO (f:=aV) (g:=Go.Ev.eU) aH (l:=u.kids++List.replicate a bj) (i:=b) (w:=dW p f<|gD (u.kids++List.replicate a bj) b))<|Mg 0<|M2 (.fsl 3 [3,6] 48<|(((u.kids++List.replicate a bj).set b<|dW p f<|gD (u.kids++List.replicate a bj) b).take u.kids.length).map aV) (kq rt rt rt ti) (cH (aU 0) (Bv (f:=aV) (l:=(u.kids++List.replicate a bj).set b<|dW p f<|gD (u.kids++List.replicate a bj) b) (n:=u.kids.length))<|aX gM<|((u.kids++List.replicate a bj).set b<|dW p f<|gD (u.kids++List.replicate a bj) b).take u.kids.length)<|Ml 48 (fg ((((u.kids++List.replicate a bj).set b<|dW p f<|gD (u.kids++List.replicate a bj) b).take u.kids.length).map aV) (n5 (some<|u.kids.length+a)<|some u.kids.length)<|aX gM<|((u.kids++List.replicate a bj).set b<|dW p f<|gD (u.kids++List.replicate a bj) b).take u.kids.length)<|Kf 3 (aL (.cons (bV _)<|.cons (bV _)<|.cons (bV _)<|.cons (bV _)<|.cons (bV _)<|.cons (bV _)<|.cons (bV _)<|.cons (cj<|rr0<|(((u.kids++List.replicate a bj).set b<|dW p f<|gD (u.kids++List.replicate a bj) b).take u.kids.length).map aV) .nil)<|by kernel_rfl:Le _ (AV.agg [iV u.act,iV u.item,iV u.n,iV u.kind,AV.str u.label,AV.ls (u.head.map aQ),AV.ls (u.words.map aQ),AV.ls ((((u.kids++List.replicate a bj).set b (dW p f (gD (u.kids++List.replicate a bj) b))).take u.kids.length).map aV)]))) fun _=>Kl 0 47 (jY b)<|Mg 0<|M2 (.frl 4 [3,4,6,7,26,27,28] [2]) (HK (NR (sz:=8) (op:=false) (ep:=0) (n:=4)<|aX gM<|u.kids++List.replicate a bj) rt rt rt ti) (et (oA:(AV.func (Fn.func g) [] bs).top≤4) ti)<|Mf<|c (b+1) (by grind [Wr]) gR) fun _ _=>Mg 0<|M2 (.fsl 3 [3,6] 48<|((u.kids++List.replicate a bj).take u.kids.length).map aV) (kq rt rt rt ti) (cH (aU 0) (Bv (f:=aV) (l:=u.kids++List.replicate a bj) (n:=u.kids.length))<|aX gM<|(u.kids++List.replicate a bj).take u.kids.length)<|Ml 48 (fg (((u.kids++List.replicate a bj).take u.kids.length).map aV) (n5 (some<|u.kids.length+a)<|some u.kids.length)<|aX gM<|(u.kids++List.replicate a bj).take u.kids.length)<|Kf 3 (aL (.cons (bV _)<|.cons (bV _)<|.cons (bV _)<|.cons (bV _)<|.cons (bV _)<|.cons (bV _)<|.cons (bV _)<|.cons (cj<|rr0<|((u.kids++List.replicate a bj).take u.kids.length).map aV) .nil)<|by kernel_rfl:Le _ (AV.agg [iV u.act,iV u.item,iV u.n,iV u.kind,AV.str u.label,AV.ls (u.head.map aQ),AV.ls (u.words.map aQ),AV.ls (((u.kids++List.replicate a bj).take u.kids.length).map aV)]))
theorem gO {g:Nat} {bs:List AV} {p:PId} (hb:aq bs=0) (x:TUnit):aq [eU x,aY p, .func (.func g) [] bs]=0:=by
  have h1:(eU x).top=0:=by rw [← aH];exact gM x
  have h2:(AV.func (.func g) [] bs).top=0:=by simp only [AV.top,aq,hb];rfl
  exact jM.2 fun y hy=>by
    simp only [fz,List.mem_nil_iff,or_false] at hy
    rcases hy with rfl | rfl | rfl
    · omega
    · exact Ip p
    omega
/-- with: the first unit of the number is changed, wherever it stands. -/
theorem oc (g:Nat) (bs:List AV) (p:PId) (f:TUnit→TUnit) (hb:aq bs=0) : ∀ (u:TUnit),nU u≤2 ^ 19→(∀ x,x∈bc u→x.head.length<2 ^ 30∧x.words.length<2 ^ 30)→
    (∀ v,v∈bc u→fT p v=true→kP 138 [eU v,aY p, .func (.func g) [] bs] (eU (f v)))→kP 138 [eU u,aY p, .func (.func g) [] bs] (eU (dW p f u)):=by
  refine TUnit.ind fun u ih hn ht hit=>?_
  have hA:=gO (g:=g) (bs:=bs) (p:=p) hb
  cases hi:fT p u with
  | true=>grind [ud, dK]
  | false=>
    have hkl:=bw u
    rw [od hi]
    by_cases h0:u.kids = []
    · have e:mA u (ej p f u.kids)=u:=by rw [h0,rE];cases u;simp only [TUnit.kids] at h0;subst h0;rfl
      rw [e]
      exact Xa g bs p u (hA u) (by simp only [AV.top,aq,hb];rfl) hi (by simp_all) (by rw [h0];rfl)
    · exact Xy g bs p f u (hA u) (by simp only [AV.top,aq,hb];rfl) hi h0 (by omega) (fun k hk=>QQ p k (by have:=hJ hk;omega) fun x hx=>ht x (bf hk hx))
        fun k hk=>ih k hk (by have:=hJ hk;omega) (fun x hx=>ht x (bf hk hx)) fun v hv=>hit v (bf hk hv)
theorem AY {bs:List AV} (rs:List Nat) (h0:fm rs 0=0) (hb:aq bs=0):lr (fm rs) (.ptr 0 0 0 0::bs) = .ptr 0 0 0 0::bs:=by
  grind [lr, Ev.ren, eL]
theorem zG {g:Nat} {bs:List AV} {u u2:TUnit} {n n2 c:Nat} {X X2:List AV} {A B:AObj} (hb:aq bs=0) (hX:aq X=0) (hX2:aq X2=0) (h:kD g (.ptr 0 0 0 0::bs) (aa [dt u (.slice 1 0 0 n (some c)),du X]) (.tuple []) (aa [dt u2 (.slice 1 0 0 n2 (some c)),du X2])) :
    kD g (.ptr 0 0 0 0::bs) (aa [dt u (.slice 3 0 0 n (some c)),A,B,du X]) (.tuple []) (aa [dt u2 (.slice 3 0 0 n2 (some c)),A,B,du X2]):=
  pY iN [0,3] h (AY _ rfl hb) rfl rfl ⟨⟨rfl,ub (by kernel_rfl)⟩,⟨rfl,by show aq X≤2;omega⟩,trivial⟩ ⟨⟨rfl,ub (by kernel_rfl)⟩,⟨rfl,by show aq X2≤2;omega⟩,trivial⟩
    (by show Nat.mx _ (aq bs)≤2;rw [hb];exact ub (by kernel_rfl)) (bE _) ⟨by kernel_rfl,by rw [uE hX];kernel_rfl,trivial⟩ ⟨by kernel_rfl,by kernel_rfl,trivial⟩
    (by show _=AHeap.put (AHeap.put _ _ _) _ (jS _ (.row 8 false 0 X2));rw [uE hX2];kernel_rfl)
theorem Cj {g:Nat} {bs:List AV} {u u2:TUnit} {n c:Nat} {X Y:List AV} {A B:AObj} (hb:aq bs=0) (hX:aq X=0) (h:kD g (.ptr 0 0 0 0::bs) (aa [dt u (.slice 1 0 0 n (some c)),du X]) (.tuple []) (aa [dt u2 (.ls Y),du X])) :
    kD g (.ptr 0 0 0 0::bs) (aa [dt u (.slice 3 0 0 n (some c)),A,B,du X]) (.tuple []) (aa [dt u2 (.ls Y),A,B,du X]):=
  pY iN [0,3] h (AY _ rfl hb) rfl rfl ⟨⟨rfl,ub (by kernel_rfl)⟩,⟨rfl,by show aq X≤2;omega⟩,trivial⟩ ⟨⟨rfl,ub (by kernel_rfl)⟩,⟨rfl,by show aq X≤2;omega⟩,trivial⟩
    (by show Nat.mx _ (aq bs)≤2;rw [hb];exact ub (by kernel_rfl)) (bE _) ⟨by kernel_rfl,by rw [uE hX];kernel_rfl,trivial⟩ ⟨by kernel_rfl,by kernel_rfl,trivial⟩
    (by show _=AHeap.put (AHeap.put _ _ _) _ (jS _ (.row 8 false 0 X));rw [uE hX];kernel_rfl)
theorem jG {g:Nat} {bs:List AV} {u u2:TUnit} {A B:AObj} {K K2:AV} (hb:aq bs=0) (h1:aq [.agg [iV u.act,iV u.item,iV u.n,iV u.kind, .str u.label, .ls (u.head.map aQ), .ls (u.words.map aQ),K]]=0) (h2:aq [.agg [iV u2.act,iV u2.item,iV u2.n,iV u2.kind, .str u2.label, .ls (u2.head.map aQ), .ls (u2.words.map aQ),K2]]=0) (h:kD g (.ptr 0 0 0 0::bs) (aa [dt u K]) (.tuple []) (aa [dt u2 K2])) :
    kD g (.ptr 0 0 0 0::bs) (aa [dt u K,A,B]) (.tuple []) (aa [dt u2 K2,A,B]):=
  fJ iN 0 h1 h2 h (AY _ rfl hb) rfl rfl (by simp only [aq,AV.top,hb];rfl) rfl (by kernel_rfl) (by kernel_rfl)
/-- The unit is found; it has kids; a kid more is laid into its row, or into a new one. -/
theorem KX (g:Nat) (bs:List AV) (p:PId) (u u2:TUnit) (n2:Nat) (Z:Nat→List AV) (hA:aq [eU u,aY p, .func (.func g) [] bs]=0) (hp:(ab u.act p.a && (ab u.item p.i && ab u.n p.n))=true) (hl:u.kids.length≤2 ^ 20) (hne:u.kids≠ []) (hn2:u2.kids.length=n2)
    (hdA : ∀ k,By (Nat.beq k 0) true→kD g (.ptr 0 0 0 0::bs) (aa [dt u (.slice 3 0 0 u.kids.length (some (u.kids.length+k))),uI p,zO,du ((u.kids++List.replicate k bj).map aV)]) (.tuple []) (aa [dt u2 (.ls (u2.kids.map aV)),uI p,zO,du ((u.kids++List.replicate k bj).map aV)]))
    (hdB : ∀ k,By (Nat.beq k 0) false→kD g (.ptr 0 0 0 0::bs) (aa [dt u (.slice 3 0 0 u.kids.length (some (u.kids.length+k))),uI p,zO,du ((u.kids++List.replicate k bj).map aV)]) (.tuple []) (aa [dt u2 (.slice 3 0 0 n2 (some (u.kids.length+k))),uI p,zO,du (u2.kids.map aV++Z k)])):kP 138 [eU u,aY p, .func (.func g) [] bs] (eU u2):=by
  let q:=aw [iV u2.act,iV u2.item,iV u2.n,iV u2.kind,aj u2.label,aW (u2.head.map aQ),aW (u2.words.map aQ),aW (u2.kids.map aV)];let q1:= [aw [iV u.act,iV u.item,iV u.n,iV u.kind,aj u.label,aW (u.head.map aQ),aW (u.words.map aQ),aW (u.kids.map aV)]];let q2:= [iV p.a,iV p.i,iV p.n];let q3:= [aw [iV 0,iV 0,iV 0,iV 0,aj [],ak,ak,ak]];exact bg (ht:=oA) Tryz.func138<|Kv 5 (lY ((Tryz.prog).underlying 27) u.act u.item u.n p.a p.i p.n<|aa [aZ 8 false 0 q1,aZ 3 false 0 [aw q2],aZ 8 false 0 q3])<|Mt hp<|Mg 1<|Mq (DD u.kids hne hl (aZ 8 false 0 q1) (aZ 3 false 0 [aw q2])<|aZ 8 false 0 q3) fun a _=>Ks 2 (a.beq 0) (fun b=>Me (hdA a b)<|Kf 1<|bV q) fun b=>Me (hdB a b)<|M2 (.fza 0 7 3 [3,6]<|u2.kids.map aV) (kq rt rt rt ti) (cH (aU 0) (Jz (xs:=List.map aV u2.kids) (ys:=Z a) (n:=n2) sA)<|aX gM u2.kids)<|Kf 1<|bV q
/-- The unit is found; it has no kids; it gets one. -/
theorem KW (g:Nat) (bs:List AV) (p:PId) (u u2:TUnit) (hA:aq [eU u,aY p, .func (.func g) [] bs]=0) (hp:(ab u.act p.a && (ab u.item p.i && ab u.n p.n))=true) (h0:u.kids = [])
    (hdN:kD g (.ptr 0 0 0 0::bs) (aa [dt u .nils,uI p,zO]) (.tuple []) (aa [dt u2 (.ls (u2.kids.map aV)),uI p,zO]))
    (hdP:kD g (.ptr 0 0 0 0::bs) (aa [dt u (.ps [] true),uI p,zO]) (.tuple []) (aa [dt u2 (.ls (u2.kids.map aV)),uI p,zO])):kP 138 [eU u,aY p, .func (.func g) [] bs] (eU u2):=by
  obtain ⟨a,i,n,k,l,h,w,ks⟩:=u
  simp only [TUnit.kids] at h0
  subst h0
  let q:=aw [iV u2.act,iV u2.item,iV u2.n,iV u2.kind,aj u2.label,aW (u2.head.map aQ),aW (u2.words.map aQ),aW (u2.kids.map aV)];let q1:= [iV p.a,iV p.i,iV p.n];exact bg (ht:=oA) Tryz.func138<|Kv 5 (lY ((Tryz.prog).underlying 27) (TUnit.mk a i n k l h w []).act (TUnit.mk a i n k l h w []).item (TUnit.mk a i n k l h w []).n p.a p.i p.n<|aa [aZ 8 false 0 [aw [iV (TUnit.mk a i n k l h w []).act,iV (TUnit.mk a i n k l h w []).item,iV (TUnit.mk a i n k l h w []).n,iV (TUnit.mk a i n k l h w []).kind,aj l,aW<|List.map aQ (TUnit.mk a i n k l h w []).head,aW<|List.map aQ (TUnit.mk a i n k l h w []).words,aW []]],aZ 3 false 0 [aw q1],aZ 8 false 0 [aw [iV 0,iV 0,iV 0,iV 0,aj [],ak,ak,ak]]])<|Mt hp<|Mg 1<|Mz 17 (fun (_:([]:List AV) = [])=>Mp GE<|Ke 2 hdN<|Kf 1<|bV q)<|Mp GD<|Ke 2 hdP<|Kf 1<|bV q
theorem jL {a b:List AV} (h1:aq a=0) (h2:aq b=0):aq (a++b)=0:=jM.2 fun x hx=>by
  rcases kj.1 hx with h | h
  · exact jM.1 h1 x h
  · exact jM.1 h2 x h
theorem P8 (l:List TUnit):dm 8 (l.map aV)=true:=gk (fun u=>by cases u;rfl) l
theorem Tw (x:TUnit):dm 8 [eU x]=true:=by kernel_rfl
theorem MG (x:TUnit):(eU x).top=0:=by rw [← aH];exact gM x
theorem sF {i:Nat} {x:TUnit} {l:List AV} (h:aq l=0):aq (gj i (eU x) l)=0:=jM.2 fun y hy=>by
  unfold gj at hy
  rcases kj.1 hy with h1 | h1
  · exact jM.1 h y (pG h1)
  · rcases fz.1 h1 with rfl | h1
    · exact MG x
    · exact jM.1 h y (Ni h1)
theorem J9 (i:Nat) (x:TUnit) (l:List TUnit):(wV i x l).map aV=gj i (eU x) (l.map aV):=by
  unfold wV gj
  rw [pu,ee,List.map_take,List.map_drop,aH]
theorem KB (i:Nat) (l:List TUnit):(l.eraseIdx i).map aV=(l.map aV).eraseIdx i:=by
  grind [List.eraseIdx_eq_take_drop_succ, List.map_take, List.map_drop]
theorem BT {i:Nat} {x:TUnit} {l:List TUnit} (h:i≤l.length):(wV i x l).length=l.length+1:=by
  grind [wV]
theorem Fi (l:List TUnit) (k:Nat):(l++List.replicate k bj).map aV=l.map aV++List.replicate k (aV bj):=by simp_all
theorem lT (k:Nat):aq (List.replicate k (aV bj))=0:=by rw [← List.map_replicate];exact aX gM _
/-- A kid is taken out. -/
theorem ND (p:PId) (i:Nat) (u:TUnit) (hn:nU u≤2 ^ 19) (ht : ∀ x,x∈bc u→x.head.length<2 ^ 30∧x.words.length<2 ^ 30) (hv : ∀ v,v∈bc u→fT p v=true→i<v.kids.length) :
    aN Tryz.prog G 138 [eU u,aY p, .func (.func 236) [] [.pptr [.int .i64 (.ofNat i)] 0 0]] (eU (dW p (iX i) u)):=by
  refine oc _ _ p (iX i) rfl u hn ht fun v hm hid=>?_
  have hi:=hv v hm hid
  have hkl:=bw v
  have hvu:=dG hm
  have hl:v.kids.length≤2 ^ 20:=by omega
  refine S9 _ _ p v (iX i v) (v.kids.length - 1) (fun k=>zU::List.replicate k (aV bj)) (gO rfl v) hid hl (fun e=>by grind) (by show (v.kids.eraseIdx i).length=_;grind) fun k=>?_
  have h:=Qh (v.kids.map aV) (List.replicate k (aV bj)) v.kids.length i hi (b8 _) hl (P8 _) (jL (aX gM _) (lT k))
  rw [pB] at h
  have hT:aq ((v.kids.map aV).eraseIdx i++(zU::List.replicate k (aV bj)))=0:=jL (by rw [← KB];exact aX gM _) (by show Nat.mx zU.top (aq _)=0;rw [lT];rfl)
  rw [Fi]
  show aC _ _ _ _ _ fun v1 h1=>v1 = .tuple []∧h1=aa [dt v (.slice 3 0 0 (v.kids.length - 1) (some (v.kids.length+k))),uI p,zO,du ((v.kids.eraseIdx i).map aV++_)]
  rw [KB]
  refine zG rfl (jL (aX gM _) (lT k)) hT (Wp v v.kids.length _ i _ _ (jL (aX gM _) (lT k)) hT hi hl ?_)
  exact fJ iN 1 (jL (aX gM _) (lT k)) hT h rfl rfl (by simp_all) (by kernel_rfl) (by kernel_rfl) (by kernel_rfl) (by kernel_rfl)
theorem U7 (x:TUnit) (t:Bool) (off len c:Nat) (X:List AV):kD 234 [.ps [eU x] t, .slice 0 0 off len (some c)] (aa [du X]) (.bool false) (aa [du X]):=
  AB (tS:=29) (tR:=4) (e:=31) (n:=8) Tryz.func234 (by kernel_rfl) (by kernel_rfl) (by kernel_rfl) (by kernel_rfl) (by simp_all) (by kernel_rfl) (m8 _ _) (by kernel_rfl:(aa [du X]).get 0=some (.row 8 false 0 X))
/-- A kid laid into a row that has room. -/
theorem Fu (L:List AV) (x:TUnit) (z:AV) (Z:List AV) (n k i:Nat) (hi:i≤n) (hn:L.length=n) (hs:n<2 ^ 20) (hk:Z.length=k) (hf:dm 8 L=true) (hT:aq (L++z::Z)=0):kD 140 [.slice 0 0 0 n (some (n+(k+1))),nV i, .ps [eU x] true] (aa [du (L++z::Z)]) (.slice 0 0 0 (n+1) (some (n+(k+1)))) (aa [du (gj i (eU x) L++Z)]):=by
  rcases fV i n with h | h
  · grind [Pd, Tw, U7]
  · obtain rfl:i=n:=by omega
    exact Pg L Z (eU x) z true i k hn hs hk (Tw x)
theorem FC (L:List AV) (x:TUnit) (n i:Nat) (hi:i≤n) (hn:L.length=n) (hs:n<2 ^ 20) (hf:dm 8 L=true) (hT:aq L=0):kD 140 [.slice 0 0 0 n (some n),nV i, .ps [eU x] true] (aa [du L]) (.ls (gj i (eU x) L)) (aa [du L]):=by
  rcases fV i n with h | h
  · refine Pc L (eU x) true n i h hn hs (Tw x) hf hT (jM.2 fun y hy=>?_) (sF hT)
    rcases kj.1 hy with h1 | h1
    · exact jM.1 hT y (pG h1)
    · rcases fz.1 h1 with rfl | h1
      · exact MG x
      · rw [(List.mem_replicate.1 h1).2];rfl
  · grind [Pe, Tw, sF]
/-- A kid is laid in. -/
theorem NB (p:PId) (i:Nat) (x u:TUnit) (hn:nU u≤2 ^ 19) (ht : ∀ x,x∈bc u→x.head.length<2 ^ 30∧x.words.length<2 ^ 30) (hv : ∀ v,v∈bc u→fT p v=true→i≤v.kids.length) :
    aN Tryz.prog G 138 [eU u,aY p, .func (.func 139) [] [.pptr [.int .i64 (.ofNat i)] 0 0, .pptr [eU x] 0 0]] (eU (dW p (dN i x) u)):=by
  have hb:aq [.pptr [.int .i64 (.ofNat i)] 0 0, .pptr [eU x] 0 0]=0:=by kernel_rfl
  refine oc _ _ p (dN i x) hb u hn ht fun v hm hid=>?_
  have hi:=hv v hm hid
  have hkl:=bw v
  have hvu:=dG hm
  have hl:v.kids.length<2 ^ 20:=by omega
  have hK:=aX gM v.kids
  by_cases h0:v.kids = []
  · rw [h0] at hi
    obtain rfl:i=0:=by simp_all
    have e:(dN 0 x v).kids = [x]:=by show wV 0 x v.kids = [x];rw [h0];rfl
    have e2:(dN 0 x v).kids.map aV = [eU x]:=by rw [e,ee,aH];rfl
    refine KW _ _ p v (dN 0 x v) (gO hb v) hid h0 ?_ ?_
    · rw [e2];exact jG (u2:=dN 0 x v) hb (by kernel_rfl) (by kernel_rfl) (Vi v x [eU x] (FB x true))
    · rw [e2];exact jG (u2:=dN 0 x v) hb (by kernel_rfl) (by kernel_rfl) (Vh v x [eU x] (FA x true))
  · have e2:(dN i x v).kids.map aV=gj i (eU x) (v.kids.map aV):=J9 i x v.kids
    refine KX _ _ p v (dN i x v) (v.kids.length+1) (fun k=>List.replicate (k - 1) (aV bj)) (gO hb v) hid (by omega) h0 (BT hi) (fun k hk=>?_) fun k hk=>?_
    · obtain rfl:k=0:=pz hk
      rw [e2,Fi,List.replicate_zero,ed]
      refine Cj (u2:=dN i x v) hb hK (Vl v x v.kids.length _ i _ _ hK ?_)
      exact fJ iN 1 hK hK (FC (v.kids.map aV) x v.kids.length i hi (b8 _) hl (P8 _) hK) rfl rfl (by simp_all) (by kernel_rfl) (by kernel_rfl) (by kernel_rfl) (by kernel_rfl)
    · obtain ⟨j,rfl⟩ : ∃ j,k=j+1:=⟨k - 1,by grind [Nat.ne_of_beq_eq_false]⟩
      rw [e2,Fi,show j+1 - 1=j from rfl,List.replicate_succ]
      have hT:aq (v.kids.map aV++aV bj::List.replicate j (aV bj))=0:=by rw [← List.replicate_succ];grind [jL, lT]
      have hT2:aq (gj i (eU x) (v.kids.map aV)++List.replicate j (aV bj))=0:=jL (sF hK) (lT _)
      refine zG (u2:=dN i x v) hb hT hT2 (Vm v x v.kids.length _ i _ _ hT hT2 ?_)
      exact fJ iN 1 hT hT2 (Fu (v.kids.map aV) x (aV bj) (List.replicate j (aV bj)) v.kids.length j i hi (b8 _) hl (pB ..) (P8 _) hT) rfl rfl (by simp_all) (by kernel_rfl) (by kernel_rfl) (by kernel_rfl) (by kernel_rfl)
/-- A kid is laid in. -/
theorem Nu (p:PId) (i:Nat) (x u:TUnit) (hn:nU u≤2 ^ 19) (ht : ∀ x,x∈bc u→x.head.length<2 ^ 30∧x.words.length<2 ^ 30) (hv : ∀ v,v∈bc u→fT p v=true→i≤v.kids.length) :
    aN Tryz.prog G 138 [eU u,aY p, .func (.func 150) [] [.pptr [.int .i64 (.ofNat i)] 0 0, .pptr [eU x] 0 0]] (eU (dW p (dN i x) u)):=by
  have hb:aq [.pptr [.int .i64 (.ofNat i)] 0 0, .pptr [eU x] 0 0]=0:=by kernel_rfl
  refine oc _ _ p (dN i x) hb u hn ht fun v hm hid=>?_
  have hi:=hv v hm hid
  have hkl:=bw v
  have hvu:=dG hm
  have hl:v.kids.length<2 ^ 20:=by omega
  have hK:=aX gM v.kids
  by_cases h0:v.kids = []
  · rw [h0] at hi
    obtain rfl:i=0:=by simp_all
    have e:(dN 0 x v).kids = [x]:=by show wV 0 x v.kids = [x];rw [h0];rfl
    have e2:(dN 0 x v).kids.map aV = [eU x]:=by rw [e,ee,aH];rfl
    refine KW _ _ p v (dN 0 x v) (gO hb v) hid h0 ?_ ?_
    · rw [e2];exact jG (u2:=dN 0 x v) hb (by kernel_rfl) (by kernel_rfl) (Vq v x [eU x] (FB x true))
    · rw [e2];exact jG (u2:=dN 0 x v) hb (by kernel_rfl) (by kernel_rfl) (VU v x [eU x] (FA x true))
  · have e2:(dN i x v).kids.map aV=gj i (eU x) (v.kids.map aV):=J9 i x v.kids
    refine KX _ _ p v (dN i x v) (v.kids.length+1) (fun k=>List.replicate (k - 1) (aV bj)) (gO hb v) hid (by omega) h0 (BT hi) (fun k hk=>?_) fun k hk=>?_
    · obtain rfl:k=0:=pz hk
      rw [e2,Fi,List.replicate_zero,ed]
      refine Cj (u2:=dN i x v) hb hK (Vz v x v.kids.length _ i _ _ hK ?_)
      exact fJ iN 1 hK hK (FC (v.kids.map aV) x v.kids.length i hi (b8 _) hl (P8 _) hK) rfl rfl (by simp_all) (by kernel_rfl) (by kernel_rfl) (by kernel_rfl) (by kernel_rfl)
    · obtain ⟨j,rfl⟩ : ∃ j,k=j+1:=⟨k - 1,by grind [Nat.ne_of_beq_eq_false]⟩
      rw [e2,Fi,show j+1 - 1=j from rfl,List.replicate_succ]
      have hT:aq (v.kids.map aV++aV bj::List.replicate j (aV bj))=0:=by rw [← List.replicate_succ];grind [jL, lT]
      have hT2:aq (gj i (eU x) (v.kids.map aV)++List.replicate j (aV bj))=0:=jL (sF hK) (lT _)
      refine zG (u2:=dN i x v) hb hT hT2 (Vx v x v.kids.length _ i _ _ hT hT2 ?_)
      exact fJ iN 1 hT hT2 (Fu (v.kids.map aV) x (aV bj) (List.replicate j (aV bj)) v.kids.length j i hi (b8 _) hl (pB ..) (P8 _) hT) rfl rfl (by simp_all) (by kernel_rfl) (by kernel_rfl) (by kernel_rfl) (by kernel_rfl)
theorem Nr (p:PId) (l:List PWord) (u:TUnit) (hn:nU u≤2 ^ 19) (ht : ∀ x,x∈bc u→x.head.length<2 ^ 30∧x.words.length<2 ^ 30) :
    kP 138 [eU u,aY p, .func (.func 143) [] [.pptr [.ls (l.map aQ)] 0 0]] (eU (dW p (lO l) u)):=by
  have hb:aq [.pptr [.ls (l.map aQ)] 0 0]=0:=by kernel_rfl
  refine oc _ _ p (lO l) hb u hn ht fun v hm hid=>?_
  have hkl:=bw v
  have hvu:=dG hm
  exact xh _ _ p v ((lO l) v) (gO hb v) hid (by omega) (jG hb (by kernel_rfl) (by kernel_rfl) (Wn v l))
theorem Nt (p:PId) (l:List PWord) (u:TUnit) (hn:nU u≤2 ^ 19) (ht : ∀ x,x∈bc u→x.head.length<2 ^ 30∧x.words.length<2 ^ 30) :
    kP 138 [eU u,aY p, .func (.func 145) [] [.pptr [.ls (l.map aQ)] 0 0]] (eU (dW p (lO l) u)):=by
  have hb:aq [.pptr [.ls (l.map aQ)] 0 0]=0:=by kernel_rfl
  refine oc _ _ p (lO l) hb u hn ht fun v hm hid=>?_
  have hkl:=bw v
  have hvu:=dG hm
  exact xh _ _ p v ((lO l) v) (gO hb v) hid (by omega) (jG hb (by kernel_rfl) (by kernel_rfl) (XQ v l))
theorem NC (p:PId) (l:List PWord) (u:TUnit) (hn:nU u≤2 ^ 19) (ht : ∀ x,x∈bc u→x.head.length<2 ^ 30∧x.words.length<2 ^ 30) :
    kP 138 [eU u,aY p, .func (.func 147) [] [.pptr [.ls (l.map aQ)] 0 0]] (eU (dW p (zj l) u)):=by
  have hb:aq [.pptr [.ls (l.map aQ)] 0 0]=0:=by kernel_rfl
  refine oc _ _ p (zj l) hb u hn ht fun v hm hid=>?_
  have hkl:=bw v
  have hvu:=dG hm
  exact xh _ _ p v ((zj l) v) (gO hb v) hid (by omega) (jG hb (by kernel_rfl) (by kernel_rfl) (Xl v l))
theorem Ns (p:PId) (d:PDeed) (u:TUnit) (hn:nU u≤2 ^ 19) (ht : ∀ x,x∈bc u→x.head.length<2 ^ 30∧x.words.length<2 ^ 30) :
    kP 138 [eU u,aY p, .func (.func 149) [] [.pptr [aJ d] 0 0]] (eU (dW p (qN d.it.label) u)):=by
  have hb:aq [.pptr [aJ d] 0 0]=0:=by kernel_rfl
  refine oc _ _ p (qN d.it.label) hb u hn ht fun v hm hid=>?_
  have hkl:=bw v
  have hvu:=dG hm
  exact xh _ _ p v ((qN d.it.label) v) (gO hb v) hid (by omega) (jG hb (by kernel_rfl) (by kernel_rfl) (W8 v d))
end Go.Proofs.YtempcdhknnjebaaGreatDoor
