/- Functions walked: what each of them answers, for the law of acts that conflict: part 2. Conditions: those that each theorem names. -/
import Derived.Test.YtefibmgdgameaaaGreatDoorH1
namespace Go.Proofs.YtefibmgdgameaaaGreatDoor
open Go Go.Ev
theorem aA {n b m:Nat} (h1:n≤m) (h2:m≤2 ^ 40) (h3:m * b≤2 ^ 40):small n b=true:=by
  unfold small
  have h4:n * b≤m * b:=fz b h1
  grind [Nat.ble_eq_true_of_le]
noncomputable abbrev uG (u:TUnit):AObj:= .row 8 false 0 [eU u]
def HY (p:PId) (u:TUnit) (x0:Nat × List TUnit × Unit):Prop:=(u.kids).drop x0.1=x0.2.1∧ch p u.kids=ch p x0.2.1
noncomputable def xX (p:PId) (u:TUnit) (x0:Nat × List TUnit × Unit):List AV × List AObj:=([AV.ptr 0 0 0 0,AV.ptr 1 0 0 0,AV.ls (u.kids.map aX),nV u.kids.length,nV x0.1], [AObj.row 8 false 0 [AV.agg [iV u.act,iV u.item,iV u.n,iV u.kind,AV.str u.label,AV.ls (u.head.map aQ),AV.ls (u.words.map aQ),AV.ls (u.kids.map aX)]],AObj.row 3 false 0 [AV.agg [iV p.a,iV p.i,iV p.n]]])
def HV (p:PId) (u:TUnit) (x0:Nat × List TUnit × Unit):Prop:=(u.kids).drop x0.1=x0.2.1∧ch p u.kids=ch p x0.2.1
noncomputable def xZ (p:PId) (u:TUnit) (x0:Nat × List TUnit × Unit):List AV × List AObj:=([AV.ptr 0 0 0 0,AV.ptr 1 0 0 0,AV.ls (u.kids.map aX),nV u.kids.length,nV x0.1], [AObj.row 8 false 0 [AV.agg [iV u.act,iV u.item,iV u.n,iV u.kind,AV.str u.label,AV.ls (u.head.map aQ),AV.ls (u.words.map aQ),AV.ls (u.kids.map aX)]],AObj.row 3 false 0 [AV.agg [iV p.a,iV p.i,iV p.n]]])
theorem D0 (p:PId) : ∀ (u:TUnit),nU u≤2 ^ 20→(cb p u=false→kP 89 [eU u,aZ p] .nils)∧(cb p u=true→kP 89 [eU u,aZ p] (.ps ((an p u).map aX) false)):=by
  refine TUnit.ind fun u ih hn=>?_
  have ihn : ∀ k,k∈u.kids→By (cb p k) false→kP 89 [eU k,aZ p] .nils:=fun k hk h=>(ih k hk (bL (mU (fW hk)) hn)).1 h
  have ihy : ∀ k,k∈u.kids→By (cb p k) true→kP 89 [eU k,aZ p] (.ps ((an p k).map aX) false):=fun k hk h=>(ih k hk (bL (mU (fW hk)) hn)).2 h
  have hkl:=bq u
  refine ⟨fun hs=>?_,fun hs=>?_⟩
  · let q:= [ab [iV u.act,iV u.item,iV u.n,iV u.kind,af u.label,aU (u.head.map aQ),aU (u.words.map aQ),aU (u.kids.map aX)]];let q3:= [iV p.a,iV p.i,iV p.n];exact b7 Tryz.func89 (Mg 5 (Mv (cA (d:=(Tryz.prog).underlying 23) (n:=3) (l:=(0,1)::(1,1)::(2,1):: []) (xs:= [iV u.act,iV u.item,iV u.n]) (ys:=q3) (H:=ae [aw 8 false 0 q,aw 3 false 0 [ab q3]]) rfl (bj (e:=az u.act p.a) rfl rfl rfl (bj (e:=az u.item p.i) rfl rfl rfl (da (e:=az u.n p.n) rfl rfl rfl rfl)))) (Mb (az u.act p.a && (az u.item p.i && az u.n p.n)) (fun h0=>Mg 2 (Mf (iY (by exact absurd (hs.symm.trans (C1 ‹_›)) (by grind):(aR)=(eL q true))))) (fun h0=>Mg 2 (Ml 16 (Le.len (f:=aX) (l:=u.kids)) (Mg 0 (ML (Nat × List TUnit × Unit) [2,3,15,16,17] (xX p u) (HY p u) (fun x=>x.2.1.length) (0,u.kids,()) (ax ((xX p u) (0,u.kids,()))) (et (rfl:List.drop 0 (u.kids)=u.kids) (by rfl:(ch p u.kids=ch p u.kids))) (fun x0 hx0 nx0=>Mc x0.2.1 (fun hr0=>have lt0:=ai hx0.1 hr0;(have hj0:=aF (J:=fun r x=>ch p u.kids=ch p r) (a:=x0.2.2) hr0 hx0.2;(Mg 0 (Mh lt0 (Mg 0 (Mf (aW (aR)))))))) (fun w0 r0 hr0=>let q2:=List.map aX ([u]++an p w0);have lt0:=aD hx0.1 hr0;(have glt0:=aJ lt0;(have nt0:=(ah (enc:=aX) hx0.1 hr0).trans (congrArg some (aC w0));(have hj0:=aE (J:=fun r x=>ch p u.kids=ch p r) (a:=x0.2.2) hr0 hx0.2;(have q0:nU w0<nU u:=fW (bJ hx0.1 hr0);(have q1:(an p w0).length≤nU w0:=lQ w0;(Mg 0 (Mt lt0 (Mx nt0 (Mg 4 (Ms (cb p w0) (fun h2=>Mp (ihy w0 (by exact bJ hx0.1 hr0) h2) (Mg 6 (M2 .apl (et (by simp_all [kz]:List.map aX (an p w0)≠ []) (fa (sz:=8) (f:=aX) (fun _=>by (rw [aC];rfl)) (an p w0))) (et (by (refine aA (m:=2 ^ 21) ?_ ?_ ?_ <;> (try simp only [lM,lC,lN]) <;> (have:=lQ (p:=p) w0;omega)):small (([ab [iV u.act,iV u.item,iV u.n,iV u.kind,af u.label,aU (u.head.map aQ),aU (u.words.map aQ),aU (u.kids.map aX)]]).length+((an p w0).map aX).length) 120=true) rt) (M1 (.obj 3 (aw 8 true 0 q2)) (congrArg (aw 8 true 0) (by (simp only [mB,ic,wM,aC,fV] <;> rfl) : [ab [iV u.act,iV u.item,iV u.n,iV u.kind,af u.label,aU (u.head.map aQ),aU (u.words.map aQ),aU (u.kids.map aX)]]++List.map aX (an p w0)=List.map aX ([u]++an p w0))) (Mg 0 (M2 (.fsl 0 [] 4 q2) ti (eR (ax (0)) (c8 (f:=aX) (l:= [u]++an p w0) (n:=(q++List.map aX (an p w0)).length) (by simp_all:([u]++an p w0).length=([ab [iV u.act,iV u.item,iV u.n,iV u.kind,af u.label,aU (u.head.map aQ),aU (u.words.map aQ),aU (u.kids.map aX)]]++List.map aX (an p w0)).length)) (aK gN ([u]++an p w0))) (Ml 4 (ib q2 (false) (aK gN ([u]++an p w0))) (Mf (iY (by exact absurd (hs.symm.trans (TW (by assumption) hj0 (by omega))) (by grind):(aR)=(aU q2))))))))))) (fun h2=>Mp (ihn w0 (by exact bJ hx0.1 hr0) h2) (Mg 4 (Ml 30 (Le.wr (x:=Int.ofNat x0.1+1) cq) (Mg 0 (M1 (.frz 2 [2,3,15,16,17]) (eR rt rt ti) (Mf (nx0 (x0.1+1,r0,()) (et (ay hx0.1 hr0) (by grind [iF]:(ch p u.kids=ch p r0))) (aO hr0)))))))))))))))))))))))))))
  · have rr0 : ∀ b',(h:((an p u).map aX)=b':=by first | rfl | exact absurd (hs.symm.trans (Fl (by assumption) hj0)) (by decide) | (rw [ru (by assumption),ic,aC];rfl) | (rw [Jw (by assumption) hj0 (by assumption)];rfl))→((an p u).map aX)=b':=(fun _ h=>h);let q:= [ab [iV u.act,iV u.item,iV u.n,iV u.kind,af u.label,aU (u.head.map aQ),aU (u.words.map aQ),aU (u.kids.map aX)]];let q3:= [iV p.a,iV p.i,iV p.n];exact b7 (hv:=(aK gN (an p u))) Tryz.func89 (Mg 5 (Mv (cA (d:=(Tryz.prog).underlying 23) (n:=3) (l:=(0,1)::(1,1)::(2,1):: []) (xs:= [iV u.act,iV u.item,iV u.n]) (ys:=q3) (H:=ae [aw 8 false 0 q,aw 3 false 0 [ab q3]]) rfl (bj (e:=az u.act p.a) rfl rfl rfl (bj (e:=az u.item p.i) rfl rfl rfl (da (e:=az u.n p.n) rfl rfl rfl rfl)))) (Mb (az u.act p.a && (az u.item p.i && az u.n p.n)) (fun h0=>Mg 2 (Mf ((Rh (rr0 (q))):Le _ (eL q true)))) (fun h0=>Mg 2 (Ml 16 (Le.len (f:=aX) (l:=u.kids)) (Mg 0 (ML (Nat × List TUnit × Unit) [2,3,15,16,17] (xZ p u) (HV p u) (fun x=>x.2.1.length) (0,u.kids,()) (ax ((xZ p u) (0,u.kids,()))) (et (rfl:List.drop 0 (u.kids)=u.kids) (by rfl:(ch p u.kids=ch p u.kids))) (fun x0 hx0 nx0=>Mc x0.2.1 (fun hr0=>have lt0:=ai hx0.1 hr0;(have hj0:=aF (J:=fun r x=>ch p u.kids=ch p r) (a:=x0.2.2) hr0 hx0.2;(Mg 0 (Mh lt0 (Mg 0 (Mf (iY (by exact absurd (hs.symm.trans (Fl (by assumption) hj0)) (by grind):(eL ((an p u).map aX) false)=(aR))))))))) (fun w0 r0 hr0=>let q2:=List.map aX ([u]++an p w0);have lt0:=aD hx0.1 hr0;(have glt0:=aJ lt0;(have nt0:=(ah (enc:=aX) hx0.1 hr0).trans (congrArg some (aC w0));(have hj0:=aE (J:=fun r x=>ch p u.kids=ch p r) (a:=x0.2.2) hr0 hx0.2;(have q0:nU w0<nU u:=fW (bJ hx0.1 hr0);(have q1:(an p w0).length≤nU w0:=lQ w0;(Mg 0 (Mt lt0 (Mx nt0 (Mg 4 (Ms (cb p w0) (fun h2=>Mp (ihy w0 (by exact bJ hx0.1 hr0) h2) (Mg 6 (M2 .apl (et (by simp_all [kz]:List.map aX (an p w0)≠ []) (fa (sz:=8) (f:=aX) (fun _=>by (rw [aC];rfl)) (an p w0))) (et (by (refine aA (m:=2 ^ 21) ?_ ?_ ?_ <;> (try simp only [lM,lC,lN]) <;> (have:=lQ (p:=p) w0;omega)):small (([ab [iV u.act,iV u.item,iV u.n,iV u.kind,af u.label,aU (u.head.map aQ),aU (u.words.map aQ),aU (u.kids.map aX)]]).length+((an p w0).map aX).length) 120=true) rt) (M1 (.obj 3 (aw 8 true 0 q2)) (congrArg (aw 8 true 0) (by (simp only [mB,ic,wM,aC,fV] <;> rfl) : [ab [iV u.act,iV u.item,iV u.n,iV u.kind,af u.label,aU (u.head.map aQ),aU (u.words.map aQ),aU (u.kids.map aX)]]++List.map aX (an p w0)=List.map aX ([u]++an p w0))) (Mg 0 (M2 (.fsl 0 [] 4 q2) ti (eR (ax (0)) (c8 (f:=aX) (l:= [u]++an p w0) (n:=(q++List.map aX (an p w0)).length) (by simp_all:([u]++an p w0).length=([ab [iV u.act,iV u.item,iV u.n,iV u.kind,af u.label,aU (u.head.map aQ),aU (u.words.map aQ),aU (u.kids.map aX)]]++List.map aX (an p w0)).length)) (aK gN ([u]++an p w0))) (Mf ((Rh (rr0 q2)):Le _ (eL q2 false))))))))) (fun h2=>Mp (ihn w0 (by exact bJ hx0.1 hr0) h2) (Mg 4 (Ml 30 (Le.wr (x:=Int.ofNat x0.1+1) cq) (Mg 0 (M1 (.frz 2 [2,3,15,16,17]) (eR rt rt ti) (Mf (nx0 (x0.1+1,r0,()) (et (ay hx0.1 hr0) (by grind [iF]:(ch p u.kids=ch p r0))) (aO hr0)))))))))))))))))))))))))))
theorem Jv (p:PId) (u:TUnit) (h:By (cb p u) false) (hn:nU u≤2 ^ 20):kP 89 [eU u,aZ p] .nils:=(D0 p u hn).1 h
theorem DT (p:PId) (u:TUnit) (h:By (cb p u) true) (hn:nU u≤2 ^ 20):kP 89 [eU u,aZ p] (.ps ((an p u).map aX) false):=(D0 p u hn).2 h
theorem QP:kP 180 [.nils] .nils:=by
  exact wk Tryz.func180 (.go 4 .fin) (aW (aR))
theorem QO:kP 180 [.ps [] false] (.ps [] true):=by
  exact wk Tryz.func180 (.go 7 .fin) (aW (eL [] true))
theorem QR (w:PWord) (r:List PWord) (hl:r.length<2 ^ 30):kP 180 [.ls ((w::r).map aQ)] (.ls ((w::r).map aQ)):=by
  let q:=List.map aQ (w::r);exact b7 Tryz.func180 (Mg 1 (Mz 3 (fun (nz0:((w::r).map aQ:List AV) = [])=>Mw .abs (qz _ _ nz0)) (Mg 3 (M2 .apl (et (by simp_all:List.map aQ (w::r)≠ []) (fa (sz:=4) (f:=aQ) (fun _=>by rfl) (w::r))) (by (refine aA (m:=2 ^ 31) ?_ ?_ ?_ <;> first | omega | grind):small ((w::r).map aQ).length 40=true) (Mg 0 (M2 (.fsl 0 [] 2 q) ti (eR (ax (0)) (c8 (f:=aQ) (l:=w::r) (n:=q.length) (by simp_all:(w::r).length=((w::r).map aQ).length)) (aK iB (w::r))) (Ml 2 (ib q (false) (aK iB (w::r))) (Mf (aW (aU q))))))))))
theorem LB (p:PId) (u:TUnit) (h:By (cb p u) false) (hn:nU u≤2 ^ 20):kP 245 [eU u, .pptr [aZ p] 0 0] (.bool false):=by
  have h':cb p u=false:=h
  exact b7 Tryz.func245 (Mg 3 (Mp (Jv p u h hn) (Mg 1 (Mf (aW (dW false))))))
theorem LA (p:PId) (u:TUnit) (h:By (cb p u) true) (hn:nU u≤2 ^ 20):kP 245 [eU u, .pptr [aZ p] 0 0] (.bool true):=by
  have h':cb p u=true:=h
  exact b7 Tryz.func245 (Mg 3 (Mp (DT p u h hn) (Mg 1 (Mf (aW (dW true))))))
def Vd (l:List TUnit) (g:Nat) (q:TUnit→Bool) (x0:Nat × List TUnit × Unit):Prop:=(l).drop x0.1=x0.2.1∧aT q l (0:Nat)=aT q x0.2.1 (l.length - x0.2.1.length)
noncomputable def Po (l:List TUnit) (g:Nat) (q:TUnit→Bool) (x0:Nat × List TUnit × Unit):List AV × List AObj:=([AV.ls (l.map aX),AV.func (Fn.func g) [] [],nV l.length,nV x0.1], [])
theorem Y5 (l:List TUnit) (g:Nat) (q:TUnit→Bool) (hp : ∀ k,k∈l→kP g [eU k] (.bool (q k))) (hl:l.length<2 ^ 40):kP 244 [.ls (l.map aX), .func (.func g) [] []] (iV (aT q l 0)):=by
  have rr0 : ∀ b',(h:(aT q l 0)=b':=by first | exact lK hx0.1 hr0 hj0 (by assumption) | exact hj0)→(aT q l 0)=b':=(fun _ h=>h);exact b7 Tryz.func244 (Mg 2 (Ml 7 (Le.len (f:=aX) (l:=l)) (Mg 0 (ML (Nat × List TUnit × Unit) [0,1,7,8] (Po l g q) (Vd l g q) (fun x=>x.2.1.length) (0,l,()) (ax ((Po l g q) (0,l,()))) (et (rfl:List.drop 0 (l)=l) (by simp_all:(aT q l (0:Nat)=aT q l (l.length - l.length)))) (fun x0 hx0 nx0=>Mc x0.2.1 (fun hr0=>have lt0:=ai hx0.1 hr0;(have hj0:=aF (J:=fun r x=>aT q l (0:Nat)=aT q r (l.length - r.length)) (a:=x0.2.2) hr0 hx0.2;(Mg 0 (Mh lt0 (Mg 0 (Mf (aj (k:= .i64) (rr0 (-1))))))))) (fun w0 r0 hr0=>have lt0:=aD hx0.1 hr0;(have glt0:=aJ lt0;(have nt0:=(ah (enc:=aX) hx0.1 hr0).trans (congrArg some (aC w0));(have hj0:=aE (J:=fun r x=>aT q l (0:Nat)=aT q r (l.length - r.length)) (a:=x0.2.2) hr0 hx0.2;(Mg 0 (Mt lt0 (Mg 4 (Mx nt0 (Mg 0 (Mp (hp w0 (by exact bJ hx0.1 hr0)) (Mb (q w0) (fun h0=>Mg 1 (Mf (aj (k:= .i64) (rr0 (Int.ofNat x0.1))))) (fun h0=>Mg 0 (Ml 18 (Le.wr (x:=Int.ofNat x0.1+1) cq) (Mg 0 (Mf (nx0 (x0.1+1,r0,()) (et (ay hx0.1 hr0) (by exact jL hx0.1 hr0 hj0 (by omega):(aT q l (0:Nat)=aT q r0 (l.length - r0.length)))) (aO hr0))))))))))))))))))))))
def Vc (l:List TUnit) (g:Nat) (p:PId) (q:TUnit→Bool) (x0:Nat × List TUnit × Unit):Prop:=(l).drop x0.1=x0.2.1∧aT q l (0:Nat)=aT q x0.2.1 (l.length - x0.2.1.length)
noncomputable def Pn (l:List TUnit) (g:Nat) (p:PId) (q:TUnit→Bool) (x0:Nat × List TUnit × Unit):List AV × List AObj:=([AV.ls (l.map aX),AV.func (Fn.func g) [] [AV.pptr [AV.agg [iV p.a,iV p.i,iV p.n]] 0 0],nV l.length,nV x0.1], [])
theorem Yv (l:List TUnit) (g:Nat) (p:PId) (q:TUnit→Bool) (hp : ∀ k,k∈l→kP g [eU k, .pptr [aZ p] 0 0] (.bool (q k))) (hl:l.length<2 ^ 40):kP 244 [.ls (l.map aX), .func (.func g) [] [.pptr [aZ p] 0 0]] (iV (aT q l 0)):=by
  have rr0 : ∀ b',(h:(aT q l 0)=b':=by first | exact lK hx0.1 hr0 hj0 (by assumption) | exact hj0)→(aT q l 0)=b':=(fun _ h=>h);exact b7 Tryz.func244 (Mg 2 (Ml 7 (Le.len (f:=aX) (l:=l)) (Mg 0 (ML (Nat × List TUnit × Unit) [0,1,7,8] (Pn l g p q) (Vc l g p q) (fun x=>x.2.1.length) (0,l,()) (ax ((Pn l g p q) (0,l,()))) (et (rfl:List.drop 0 (l)=l) (by simp_all:(aT q l (0:Nat)=aT q l (l.length - l.length)))) (fun x0 hx0 nx0=>Mc x0.2.1 (fun hr0=>have lt0:=ai hx0.1 hr0;(have hj0:=aF (J:=fun r x=>aT q l (0:Nat)=aT q r (l.length - r.length)) (a:=x0.2.2) hr0 hx0.2;(Mg 0 (Mh lt0 (Mg 0 (Mf (aj (k:= .i64) (rr0 (-1))))))))) (fun w0 r0 hr0=>have lt0:=aD hx0.1 hr0;(have glt0:=aJ lt0;(have nt0:=(ah (enc:=aX) hx0.1 hr0).trans (congrArg some (aC w0));(have hj0:=aE (J:=fun r x=>aT q l (0:Nat)=aT q r (l.length - r.length)) (a:=x0.2.2) hr0 hx0.2;(Mg 0 (Mt lt0 (Mg 4 (Mx nt0 (Mg 0 (Mp (hp w0 (by exact bJ hx0.1 hr0)) (Mb (q w0) (fun h0=>Mg 1 (Mf (aj (k:= .i64) (rr0 (Int.ofNat x0.1))))) (fun h0=>Mg 0 (Ml 18 (Le.wr (x:=Int.ofNat x0.1+1) cq) (Mg 0 (Mf (nx0 (x0.1+1,r0,()) (et (ay hx0.1 hr0) (by exact jL hx0.1 hr0 hj0 (by omega):(aT q l (0:Nat)=aT q r0 (l.length - r0.length)))) (aO hr0))))))))))))))))))))))
theorem Wx {l:List TUnit} : eh l=Nat.max 0 (eh l)∧0≤2 ^ 20:=⟨(Nat.max_eq_right (bN _)).symm,bN _⟩
theorem Gh {D a:Nat} {w:TUnit} {r:List TUnit} {u:TUnit} (h:D=Nat.max a (eh (w::r))∧a≤2 ^ 20) (q0:nU w<nU u) (q1:fD w<nU w) (hn:nU u≤2 ^ 20):D=Nat.max (Nat.max a (1+fD w)) (eh r)∧Nat.max a (1+fD w)≤2 ^ 20:=by
  grind [eh]
theorem Kr {D a:Nat} (h:D=Nat.max a (eh [])∧a≤2 ^ 20):D=a:=by
  simp_all [B2]
def Gg (u:TUnit) (x0:Nat × List TUnit × Nat):Prop:=(u.kids).drop x0.1=x0.2.1∧eh u.kids=x0.2.2.max (eh x0.2.1)∧x0.2.2≤2 ^ 20
noncomputable def vH (u:TUnit) (x0:Nat × List TUnit × Nat):List AV × List AObj:=([nV x0.2.2,AV.ls (u.kids.map aX),nV u.kids.length,nV x0.1], [AObj.row 8 false 0 [AV.agg [iV u.act,iV u.item,iV u.n,iV u.kind,AV.str u.label,AV.ls (u.head.map aQ),AV.ls (u.words.map aQ),AV.ls (u.kids.map aX)]]])
theorem Gf : ∀ (u:TUnit),nU u≤2 ^ 20→kP 230 [eU u] (nV (fD u)):=by
  refine TUnit.ind fun u ih hn=>?_
  have hkl:=bq u
  have ihk : ∀ k,k∈u.kids→kP 230 [eU k] (nV (fD k)):=fun k hk=>ih k hk (bL (mU (fW hk)) hn)
  have rr0 : ∀ b',(h:(Int.ofNat (fD u))=b':=by (rw [DK,Kr hj0]))→(Int.ofNat (fD u))=b':=(fun _ h=>h);exact b7 Tryz.func230 (Mg 5 (Ml 8 (Le.len (f:=aX) (l:=u.kids)) (Mg 0 (ML (Nat × List TUnit × Nat) [3,7,8,9] (vH u) (Gg u) (fun x=>x.2.1.length) (0,u.kids,0) (ax ((vH u) (0,u.kids,0))) (et (rfl:List.drop 0 (u.kids)=u.kids) (by simp_all:(eh u.kids=Nat.max (0:Nat) (eh u.kids)∧(0:Nat)≤2 ^ 20))) (fun x0 hx0 nx0=>Mc x0.2.1 (fun hr0=>have lt0:=ai hx0.1 hr0;(have hj0:=aF (J:=fun r a=>eh u.kids=a.max (eh r)∧a≤2 ^ 20) (a:=x0.2.2) hr0 hx0.2;(Mg 0 (Mh lt0 (Mg 1 (Mf (aj (k:= .i64) (rr0 (Int.ofNat x0.2.2))))))))) (fun w0 r0 hr0=>have lt0:=aD hx0.1 hr0;(have glt0:=aJ lt0;(have nt0:=(ah (enc:=aX) hx0.1 hr0).trans (congrArg some (aC w0));(have hj0:=aE (J:=fun r a=>eh u.kids=a.max (eh r)∧a≤2 ^ 20) (a:=x0.2.2) hr0 hx0.2;(have q0:nU w0<nU u:=fW (bJ hx0.1 hr0);(have q1:fD w0<nU w0:=wF w0;(Mg 0 (Mt lt0 (Mx nt0 (Mg 4 (Mp (ihk w0 (by exact bJ hx0.1 hr0)) (Mg 0 (Ml 16 (bb (x:=(1:Int)+Int.ofNat (fD w0)) (n:=(1:Nat)+fD w0) cq) (Mg 0 (Ml 17 (I8 (k:=IntKind.i64) (O7 (x0.2.2) (1+fD w0))) (Mg 1 (Ml 18 (bb (x:=Int.ofNat x0.1+(1:Int)) (n:=x0.1+(1:Nat)) cq) (Mg 0 (M1 (.frz 1 [3,7,8,9]) (et rt ti) (Mf (nx0 (x0.1+1,r0,x0.2.2.max (1+fD w0)) (et (ay hx0.1 hr0) (by exact Gh hj0 q0 q1 hn:(eh u.kids=(x0.2.2.max ((1:Nat)+fD w0)).max (eh r0)∧x0.2.2.max ((1:Nat)+fD w0)≤2 ^ 20))) (aO hr0)))))))))))))))))))))))))))
def Qw (g:Nat) (q:TUnit→Bool) (u:TUnit) (x0:Nat × List TUnit × Unit):Prop:=(u.kids).drop x0.1=x0.2.1∧(q u && (dQ u.kids).all q)=(dQ x0.2.1).all q
noncomputable def F9 (g:Nat) (q:TUnit→Bool) (u:TUnit) (x0:Nat × List TUnit × Unit):List AV × List AObj:=([AV.func (Fn.func g) [] [],AV.ls (u.kids.map aX),nV u.kids.length,nV x0.1], [])
theorem Kg (g:Nat) (q:TUnit→Bool) : ∀ (u:TUnit),(∀ x,x∈bB u→kP g [eU x] (.bool (q x)))→u.kids.length<2 ^ 40→(∀ x,x∈bB u→x.kids.length<2 ^ 40)→kP 231 [eU u, .func (.func g) [] []] (.bool (tJ q u)):=by
  refine TUnit.ind fun u ih hp hl hk=>?_
  have ihk : ∀ k,k∈u.kids→kP 231 [eU k, .func (.func g) [] []] (.bool (tJ q k)):=fun k hm=>ih k hm (fun x hx=>hp x (bC hm hx)) (hk k (CN hm)) (fun x hx=>hk x (bC hm hx))
  have hs:=hp u (dJ u)
  have rr0 : ∀ b',(h:(tJ q u)=b':=by first | (rw [wI];simp only [aS,aV,bS, *];done) | (rw [wI,hj0,NJ]) | (rw [wI,hj0,zI];simp only [aS,aV,bS, *];done))→(tJ q u)=b':=(fun _ h=>h);exact b7 Tryz.func231 (Mg 3 (Mp (hs) (Mg 0 (Mb (aV (q u)) (fun z=>have h0:(q u)=false:=(aI z);(Mg 0 (Mf (aq (rr0 (false)))))) (fun z=>have h0:(q u)=true:=(aL z);(Mg 2 (Ml 13 (Le.len (f:=aX) (l:=u.kids)) (Mg 0 (M1 (.frz 0 [1,12,13,14]) ti (ML (Nat × List TUnit × Unit) [1,12,13,14] (F9 g q u) (Qw g q u) (fun x=>x.2.1.length) (0,u.kids,()) (ax ((F9 g q u) (0,u.kids,()))) (et (rfl:List.drop 0 (u.kids)=u.kids) (by (simp only [aS,aV,bS, *];done):((q u && (dQ u.kids).all q)=(dQ u.kids).all q))) (fun x0 hx0 nx0=>Mc x0.2.1 (fun hr0=>have lt0:=ai hx0.1 hr0;(have hj0:=aF (J:=fun r x=>(q u && (dQ u.kids).all q)=(dQ r).all q) (a:=x0.2.2) hr0 hx0.2;(Mg 0 (Mh lt0 (Mg 0 (Mf (aq (rr0 (true))))))))) (fun w0 r0 hr0=>have lt0:=aD hx0.1 hr0;(have glt0:=aJ lt0;(have nt0:=(ah (enc:=aX) hx0.1 hr0).trans (congrArg some (aC w0));(have hj0:=aE (J:=fun r x=>(q u && (dQ u.kids).all q)=(dQ r).all q) (a:=x0.2.2) hr0 hx0.2;(Mg 0 (Mt lt0 (Mx nt0 (Mg 4 (Mp (ihk w0 (by exact bJ hx0.1 hr0)) (Mg 0 (Mn (tJ q w0) (fun h1=>Mg 0 (Mf (aq (rr0 (false))))) (fun h1=>Mg 0 (Ml 22 (Le.wr (x:=Int.ofNat x0.1+1) cq) (Mg 0 (M1 (.frz 0 [1,12,13,14]) ti (Mf (nx0 (x0.1+1,r0,()) (et (ay hx0.1 hr0) (by simp_all [zI]:((q u && (dQ u.kids).all q)=(dQ r0).all q))) (aO hr0)))))))))))))))))))))))))))))
theorem MG (u:TUnit) (n:Nat) (hn:n<2 ^ 40):kD 232 [eU u, .ptr 0 0 0 0] (ae [.row 1 false 0 [nV n]]) (.bool true) (ae [.row 1 false 0 [nV (n+1)]]):=by
  exact gI Tryz.func232 (fun qq=>Mg 3 (Ml 5 (bb (x:=Int.ofNat n+(1:Int)) (n:=n+(1:Nat)) cq) (Mg 1 (M1 (.frz 1 [3]) (et rt ti) (Mf qq)))))
def C7 (u:TUnit) (n:Nat) (x0:Nat × List TUnit × Nat):Prop:=(u.kids).drop x0.1=x0.2.1∧n+nU u=x0.2.2+cV x0.2.1∧x0.2.2+cV x0.2.1<2 ^ 40
noncomputable def sB (u:TUnit) (n:Nat) (x0:Nat × List TUnit × Nat):List AV × List AObj:=([AV.func (Fn.func 232) [] [AV.ptr 0 0 0 0],AV.ls (u.kids.map aX),nV u.kids.length,nV x0.1], [AObj.row 1 false 0 [nV x0.2.2]])
theorem F7 : ∀ (u:TUnit),∀ (n:Nat),n+nU u<2 ^ 40→kD 231 [eU u, .func (.func 232) [] [.ptr 0 0 0 0]] (ae [.row 1 false 0 [nV n]]) (.bool true) (ae [.row 1 false 0 [nV (n+nU u)]]):=by
  refine TUnit.ind fun u ih n hn=>?_
  have hq:=iz u
  have hl:=bq u
  exact X3 Tryz.func231 (Mg 3 (M1 (.frz 1 [1,2,7,8]) (et rt ti) (Me (MG u n (by omega)) (Mg 4 (Ml 13 (Le.len (f:=aX) (l:=u.kids)) (Mg 0 (ML (Nat × List TUnit × Nat) [1,12,13,14] (sB u n) (C7 u n) (fun x=>x.2.1.length) (0,u.kids,n+1) (ax ((sB u n) (0,u.kids,n+1))) (et (rfl:List.drop 0 (u.kids)=u.kids) (by omega:(n+nU u=n+(1:Nat)+cV u.kids∧n+(1:Nat)+cV u.kids<2 ^ 40))) (fun x0 hx0 nx0=>Mc x0.2.1 (fun hr0=>have lt0:=ai hx0.1 hr0;(have hj0:=aF (J:=fun r x=>n+nU u=x+cV r∧x+cV r<2 ^ 40) (a:=x0.2.2) hr0 hx0.2;(Mg 0 (Mh lt0 (Mg 0 (Mf (et (ax (dW true)) (by simp_all [kq]:(ae [aw 1 false 0 [nV x0.2.2]])=(ae [aw 1 false 0 [nV (n+nU u)]]))))))))) (fun w0 r0 hr0=>have lt0:=aD hx0.1 hr0;(have glt0:=aJ lt0;(have nt0:=(ah (enc:=aX) hx0.1 hr0).trans (congrArg some (aC w0));(have hj0:=aE (J:=fun r x=>n+nU u=x+cV r∧x+cV r<2 ^ 40) (a:=x0.2.2) hr0 hx0.2;(have q0:w0∈u.kids:=bJ hx0.1 hr0;(have q1:x0.2.2+nU w0<2 ^ 40:=(by grind [bm]);(Mg 0 (Mt lt0 (Mx nt0 (Mg 4 (M1 (.frz 1 [1,12,13,14,18,19]) (et rt ti) (Me (ih w0 q0 (x0.2.2) q1) (Mg 2 (Ml 22 (bb (x:=Int.ofNat x0.1+(1:Int)) (n:=x0.1+(1:Nat)) cq) (Mg 0 (Mf (nx0 (x0.1+1,r0,x0.2.2+nU w0) (et (ay hx0.1 hr0) (by grind [bm]:(n+nU u=x0.2.2+nU w0+cV r0∧x0.2.2+nU w0+cV r0<2 ^ 40))) (aO hr0))))))))))))))))))))))))))
theorem DY (u:TUnit) (hn:nU u<2 ^ 39):kP 131 [eU u] (nV (nU u)):=by
  have rr0 : ∀ b',(h:(Int.ofNat (nU u))=b':=by (rw [gK]))→(Int.ofNat (nU u))=b':=(fun _ h=>h);exact b7 Tryz.func131 (Mg 5 (M0 (.ren [1,0] [] [3,4,5]) (M1 (.frz 1 [3,4,5]) (et rt ti) (Me (F7 u (0) (by omega)) (Mg 1 (Mf (aj (k:= .i64) (rr0 (Int.ofNat (0+nU u))))))))))
noncomputable abbrev qV (ep n:Nat):AObj:= .row 1 false 0 [.slice 1 ep 0 n none]
noncomputable abbrev Lr (ep:Nat) (l:List PId):AObj:= .row 3 true ep (l.map aZ)
theorem Vi (u:TUnit):kD 233 [eU u, .ptr 0 0 0 0] (ae [.row 1 false 0 [.nils]]) (.bool true) (ae [qV 0 1,Lr 0 [al u]]):=by
  exact Yi Tryz.func233 (.go 8 (.ren [0,2,1] [] [3] (.frz 2 [3] .fin))) (fun qq=>(et (eR rt rt ti) qq))
theorem Vl (u:TUnit) (ep n:Nat) (l:List PId) (hn:n=l.length) (hl:l.length<2 ^ 30):kD 233 [eU u, .ptr 0 0 0 0] (ae [qV ep n,Lr ep l]) (.bool true) (ae [qV (ep+1) (n+1),Lr (ep+1) (l++ [al u])]):=by
  exact gI Tryz.func233 (fun qq=>Mg 5 (M1 .app (eR (ax (ep)) (by simp_all:n=(l.map aZ).length) (by (refine aA (m:=2 ^ 31) ?_ ?_ ?_ <;> omega):small (n+1) 24=true)) (M1 (.obj 1 (aw 3 true (ep+1) ((l++ [PId.mk u.act u.item u.n]).map aZ))) (congrArg (aw 3 true (ep+1)) (iI (f:=aZ) (l:=l) (ws:= [PId.mk u.act u.item u.n]))) (Mg 1 (M1 (.frz 2 [3]) (eR (bZ (sz:=3) (op:=true) (ep:=ep+1) (n:=2) (aK zK (l++ [PId.mk u.act u.item u.n]))) rt ti) (Mf qq))))))
def C6 (u:TUnit) (l:List PId) (x0:Nat × List TUnit × Nat × Nat × List PId):Prop:=(u.kids).drop x0.1=x0.2.1∧x0.2.2.2.1=x0.2.2.2.2.length∧x0.2.2.2.2++bz x0.2.1=l++ [al u]++bz u.kids∧x0.2.2.2.2.length+cV x0.2.1<2 ^ 30
noncomputable def su (u:TUnit) (l:List PId) (x0:Nat × List TUnit × Nat × Nat × List PId):List AV × List AObj:=([AV.func (Fn.func 233) [] [AV.ptr 0 0 0 0],AV.ls (u.kids.map aX),nV u.kids.length,nV x0.1], [AObj.row 1 false 0 [AV.slice 1 x0.2.2.1 0 x0.2.2.2.1 none],AObj.row 3 true x0.2.2.1 (x0.2.2.2.2.map aZ)])
theorem My : ∀ (u:TUnit),∀ (ep n:Nat) (l:List PId),n=l.length→l.length+nU u<2 ^ 30→kC 231 [eU u, .func (.func 233) [] [.ptr 0 0 0 0]] (ae [qV ep n,Lr ep l])
    (fun v h=>∃ y:Nat × Nat × List PId,(y.2.1=y.2.2.length∧y.2.2=l++cC u)∧v = .bool true∧h=ae [qV y.1 y.2.1,Lr y.1 y.2.2]):=by
  refine TUnit.ind fun u ih ep n l hn hl=>?_
  have hq:=iz u
  have hkl:=bq u
  exact vT Tryz.func231 (fun qq=>Mg 3 (M1 (.frz 2 [1,2,7,8]) (eR (bZ (sz:=3) (op:=true) (ep:=ep) (n:=2) (aK zK (l))) rt ti) (Me (Vl u ep n l hn (by omega)) (Mg 4 (Ml 13 (Le.len (f:=aX) (l:=u.kids)) (Mg 0 (ML (Nat × List TUnit × Nat × Nat × List PId) [1,12,13,14] (su u l) (C6 u l) (fun x=>x.2.1.length) (0,u.kids,(ep+1,n+1,l++ [al u])) (ax ((su u l) (0,u.kids,(ep+1,n+1,l++ [al u])))) (et (rfl:List.drop 0 (u.kids)=u.kids) (by grind:(n+(1:Nat)=(l++ [al u]).length∧l++ [al u]++bz u.kids=l++ [al u]++bz u.kids∧(l++ [al u]).length+cV u.kids<2 ^ 30))) (fun x0 hx0 nx0=>Mc x0.2.1 (fun hr0=>have lt0:=ai hx0.1 hr0;(have hj0:=aF (J:=fun r x=>x.2.1=x.2.2.length∧x.2.2++bz r=l++ [al u]++bz u.kids∧x.2.2.length+cV r<2 ^ 30) (a:=x0.2.2) hr0 hx0.2;(Mg 0 (Mh lt0 (Mg 0 (Mf (qq ((x0.2.2.1,x0.2.2.2.1,x0.2.2.2.2)) (by grind [j9, gC])))))))) (fun w0 r0 hr0=>have lt0:=aD hx0.1 hr0;(have glt0:=aJ lt0;(have nt0:=(ah (enc:=aX) hx0.1 hr0).trans (congrArg some (aC w0));(have hj0:=aE (J:=fun r x=>x.2.1=x.2.2.length∧x.2.2++bz r=l++ [al u]++bz u.kids∧x.2.2.length+cV r<2 ^ 30) (a:=x0.2.2) hr0 hx0.2;(have q0:w0∈u.kids:=bJ hx0.1 hr0;(have q1:x0.2.2.2.2.length+nU w0<2 ^ 30:=(by grind [bm]);(Mg 0 (Mt lt0 (Mx nt0 (Mg 4 (M1 (.frz 2 [1,12,13,14,18,19]) (eR (bZ (sz:=3) (op:=true) (ep:=x0.2.2.1) (n:=2) (aK zK (x0.2.2.2.2))) rt ti) (Mq (ih w0 q0 (x0.2.2.1) (x0.2.2.2.1) (x0.2.2.2.2) (by omega) q1) fun y1 hy1=>Mg 2 (Ml 22 (Le.wr (x:=Int.ofNat x0.1+1) cq) (Mg 0 (Mf (nx0 (x0.1+1,r0,(y1.1,y1.2.1,y1.2.2)) (et (ay hx0.1 hr0) (by grind [bm, dO, si]:(y1.2.1=y1.2.2.length∧y1.2.2++bz r0=l++ [al u]++bz u.kids∧y1.2.2.length+cV r0<2 ^ 30))) (aO hr0)))))))))))))))))))))))))
def Ho (l:List PWord) (x0:Nat × List PWord × Unit):Prop:=(l).drop x0.1=x0.2.1∧x0.2.1=l
noncomputable def xp (l:List PWord) (x0:Nat × List PWord × Unit):List AV × List AObj:=([AV.ls (l.map aQ),AV.nils,AV.ls (l.map aQ),nV l.length,nV x0.1], [])
def Hn (l:List PWord) (x0:Nat × List PWord × Nat × Nat × List aP):Prop:=(l).drop x0.1=x0.2.1∧x0.2.2.2.1=x0.2.2.2.2.length∧(0:Nat)<x0.2.2.2.2.length∧x0.2.2.2.2++List.map PWord.text x0.2.1=List.map PWord.text l∧x0.2.2.2.2.length+x0.2.1.length=l.length
noncomputable def Hm (l:List PWord) (x0:Nat × List PWord × Nat × Nat × List aP):List AV × List AObj:=([AV.ls (l.map aQ),AV.slice 0 x0.2.2.1 0 x0.2.2.2.1 none,AV.ls (l.map aQ),nV l.length,nV x0.1], [AObj.row 1 true x0.2.2.1 (x0.2.2.2.2.map lT)])
theorem UW (l:List PWord) (hl:l.length≤300) (hs : ∀ w,w∈l→w.text.length≤2 ^ 39):kP 382 [.ls (l.map aQ)] (.bool (fm l)):=by
  have hv:=Jt (l.map PWord.text) (by grind) (fun s hm=>by grind)
  have rr0 : ∀ b',(h:(fm l)=b':=by (simp only [fm,aS,aV,bS, *]))→(fm l)=b':=(fun _ h=>h);exact b7 Tryz.func382 (Mg 3 (Ml 7 (Le.len (f:=aQ) (l:=l)) (Mg 0 (MM (Nat × List PWord × Unit) (Nat × List PWord × Nat × Nat × List aP) [0,3,6,7,8] (xp l) (Hm l) (Ho l) (Hn l) (fun x=>x.2.1.length) (fun x=>x.2.1.length) (.inl (0,l,())) (ax ((xp l) (0,l,()))) (et (rfl:List.drop 0 (l)=l) (by rfl:(l=l))) (fun x0 hx0 nx0=>Mc x0.2.1 (fun hr0=>have lt0:=ai hx0.1 hr0;(have hj0:=aF (J:=fun r x=>r=l) (a:=x0.2.2) hr0 hx0.2;(Mg 0 (Mh lt0 (Mg 1 (Ml 19 (Le.len (f:=aQ) (l:=l)) (Mg 1 (Mn (ao 256 (Int.ofNat l.length)) (fun h1=>have gh1:=av h1;(Mg 0 (Mt (ce h1) (Mp (bw.onArgs (.cons (Le.lsn (by simp_all:((l.map PWord.text).map lT) = [])) .nil) (hv):kP 248 [aR] _) (M1 (.pk true) (ce h1) (Mg 0 (Mf (aq (rr0 (lX (l.map PWord.text))))))))))) (fun h1=>have gh1:=aJ h1;(Mh (cJ h1) (M1 (.pk false) (cJ h1) (Mg 0 (Mf (aq (rr0 (false)))))))))))))))) (fun w0 r0 hr0=>have lt0:=aD hx0.1 hr0;(have glt0:=aJ lt0;(have nt0:=ah (enc:=aQ) hx0.1 hr0;(have hj0:=aE (J:=fun r x=>r=l) (a:=x0.2.2) hr0 hx0.2;(Mg 0 (Mt lt0 (Mx nt0 (Mg 9 (Ml 17 (bb (x:=Int.ofNat x0.1+(1:Int)) (n:=x0.1+(1:Nat)) cq) (Mg 0 (M0 (.ren [1,0] [] [0,3,6,7,8]) (M1 (.frz 1 [0,3,6,7,8]) (et rt ti) (Mf (nx0 (.inr (x0.1+1,r0,(0,1, [w0.text]))) (et (ay hx0.1 hr0) (by (refine ⟨rfl,by simp,?_,?_⟩ <;> (rw [← hj0]) <;> (first | rfl | grind)):((1:Nat) = [w0.text].length∧(0:Nat) < [w0.text].length∧ [w0.text]++List.map PWord.text r0=List.map PWord.text l∧ [w0.text].length+r0.length=l.length))) (aO hr0)))))))))))))))) (fun x0 hx0 nx0=>Mc x0.2.1 (fun hr0=>have lt0:=ai hx0.1 hr0;(have hj0:=aF (J:=fun r x=>x.2.1=x.2.2.length∧(0:Nat)<x.2.2.length∧x.2.2++List.map PWord.text r=List.map PWord.text l∧x.2.2.length+r.length=l.length) (a:=x0.2.2) hr0 hx0.2;(Mg 0 (Mh lt0 (Mg 1 (Ml 19 (Le.len (f:=aQ) (l:=l)) (Mg 1 (Mn (ao 256 (Int.ofNat l.length)) (fun h2=>have gh2:=av h2;(Mg 0 (M2 (.fsl 0 [21] 22 (x0.2.2.2.2.map lT)) ti (eR (ax (x0.2.2.1)) (c8 (f:=lT) (l:=x0.2.2.2.2) (n:=x0.2.2.2.1) (by omega:(x0.2.2.2.2).length=x0.2.2.2.1)) (aK Im (x0.2.2.2.2))) (Ml 22 (ib (x0.2.2.2.2.map lT) (false) (aK Im (x0.2.2.2.2))) (Mt (ce h2) (Mp (bw.onArgs (.cons (dY (by simp_all:((l.map PWord.text).map lT)=(x0.2.2.2.2.map lT))) .nil) (hv):kP 248 [aU (x0.2.2.2.2.map lT)] _) (M1 (.pk true) (ce h2) (Mg 0 (Mf (aq (rr0 (lX (l.map PWord.text))))))))))))) (fun h2=>have gh2:=aJ h2;(Mh (cJ h2) (M1 (.pk false) (cJ h2) (Mg 0 (Mf (aq (rr0 (false)))))))))))))))) (fun w0 r0 hr0=>have lt0:=aD hx0.1 hr0;(have glt0:=aJ lt0;(have nt0:=ah (enc:=aQ) hx0.1 hr0;(have hj0:=aE (J:=fun r x=>x.2.1=x.2.2.length∧(0:Nat)<x.2.2.length∧x.2.2++List.map PWord.text r=List.map PWord.text l∧x.2.2.length+r.length=l.length) (a:=x0.2.2) hr0 hx0.2;(Mg 0 (Mt lt0 (Mx nt0 (Mg 6 (M1 .app (eR (ax (x0.2.2.1)) (by simp_all:x0.2.2.2.1=(x0.2.2.2.2.map lT).length) (by (refine aA (m:=2 ^ 20) ?_ ?_ ?_ <;> omega):small (x0.2.2.2.1+1) 16=true)) (M1 (.obj 0 (aw 1 true (x0.2.2.1+1) ((x0.2.2.2.2++ [w0.text]).map lT))) (congrArg (aw 1 true (x0.2.2.1+1)) (iI (f:=lT) (l:=x0.2.2.2.2) (ws:= [w0.text]))) (Mg 1 (Ml 17 (bb (x:=Int.ofNat x0.1+(1:Int)) (n:=x0.1+(1:Nat)) cq) (Mg 0 (M1 (.frz 1 [0,3,6,7,8]) (et (bZ (sz:=1) (op:=true) (ep:=x0.2.2.1+1) (n:=1) (aK Im (x0.2.2.2.2++ [w0.text]))) ti) (Mf (nx0 (.inr (x0.1+1,r0,(x0.2.2.1+1,x0.2.2.2.1+1,x0.2.2.2.2++ [w0.text]))) (et (ay hx0.1 hr0) (by (refine ⟨by simp_all,by simp,?_,?_⟩ <;> first | (rw [← hj0.2.2.1];simp;done) | grind):(x0.2.2.2.1+(1:Nat)=(x0.2.2.2.2++ [w0.text]).length∧(0:Nat)<(x0.2.2.2.2++ [w0.text]).length∧x0.2.2.2.2++ [w0.text]++List.map PWord.text r0=List.map PWord.text l∧(x0.2.2.2.2++ [w0.text]).length+r0.length=l.length))) (aO hr0))))))))))))))))))))))
theorem nP (a b:Nat):Int.ofNat (a+b)=Int.ofNat a+Int.ofNat b:=rfl
def G1 (u:TUnit) (x0:Nat × List TUnit × List ((Int × aP) × Bool)):Prop:=(u.kids).drop x0.1=x0.2.1∧ef u.kind u.kids []=ef u.kind x0.2.1 x0.2.2
noncomputable def vR (u:TUnit) (x0:Nat × List TUnit × List ((Int × aP) × Bool)):List AV × List AObj:=([AV.ptr 0 0 0 0,AV.map 1,AV.ls (u.kids.map aX),nV u.kids.length,nV x0.1], [AObj.row 8 false 0 [AV.agg [iV u.act,iV u.item,iV u.n,iV u.kind,AV.str u.label,AV.ls (u.head.map aQ),AV.ls (u.words.map aQ),AV.ls (u.kids.map aX)]],AObj.map (be oA kQ x0.2.2 0) x0.2.2.length])
def Df (u:TUnit) (x0:Nat × List TUnit × List ((Int × aP) × Bool)):Prop:=(u.kids).drop x0.1=x0.2.1∧ef u.kind u.kids []=ef u.kind x0.2.1 x0.2.2
noncomputable def tW (u:TUnit) (x0:Nat × List TUnit × List ((Int × aP) × Bool)):List AV × List AObj:=([AV.ptr 0 0 0 0,AV.map 1,AV.ls (u.kids.map aX),nV u.kids.length,nV x0.1], [AObj.row 8 false 0 [AV.agg [iV u.act,iV u.item,iV u.n,iV u.kind,AV.str u.label,AV.ls (u.head.map aQ),AV.ls (u.words.map aQ),AV.ls (u.kids.map aX)]],AObj.map (be oA kQ x0.2.2 0) x0.2.2.length])
theorem Rq (u:TUnit) (h1:u.head.length≤300) (h2:u.words.length≤300) (h3:u.kids.length<2 ^ 30) (h4:u.label.length≤2 ^ 39) (h5 : ∀ w,w∈u.head→w.text.length≤2 ^ 39) (h6 : ∀ w,w∈u.words→w.text.length≤2 ^ 39):kP 356 [eU u] (.bool (kK u)):=by
  have hlk : ∀ (m:List ((Int × aP) × Bool)) (a:Int) (s:aP),gp (some (.bool false)) false (cE true 2 [(0,1),(1,2)] (.agg [iV a, .str s]) (be oA kQ m 0) 0)=some (.bool (Nw kN (a,s) m)):=fun m a s=>E8 KV m (a,s)
  have hup : ∀ (m:List ((Int × aP) × Bool)) (a:Int) (s:aP),D8 (be oA kQ m 0) m.length (.agg [iV a, .str s]) (.bool true) (cE true 2 [(0,1),(1,2)] (.agg [iV a, .str s]) (be oA kQ m 0) 0)=some (be oA kQ (iZ kN (a,s) true m) 0,(iZ kN (a,s) true m).length):=fun m a s=>Ja KV m (a,s)
  have r1:=UW u.head h1 h5
  have r2:=UW u.words h2 h6
  have r3:=sa u.label h4
  have rr0 : ∀ b',(h:(kK u)=b':=by first | (rw [kK,hj0,ef];simp only [CI,bF,nP,cond_true,cond_false,aS,aV,bS,Bool.and_false,Bool.false_and,Bool.not_true,Bool.not_false,Bool.true_and, *];first | done | rfl) | (simp only [kK,CI,bF,nP,cond_true,cond_false,aS,aV,bS, *];done) | (simp only [kK,ef,CI,bF,nP,cond_true,cond_false,aS,aV,bS, *];done) | (simp only [kK,ef,CI,bF,nP,cond_true,cond_false,aS,aV,bS,Bool.and_false,Bool.false_and,Bool.not_true,Bool.not_false,Bool.true_and, *];first | done | rfl))→(kK u)=b':=(fun _ h=>h);exact b7 Tryz.func356 (Mg 4 (Mb (az u.kind 0) (fun h0=>have gh0:=eJ h0;(Mg 3 (Mb (aV (dS u.label (ByteArray.mk #[]).data.toList)) (fun z=>have h1:(dS u.label (ByteArray.mk #[]).data.toList)=false:=(aI z);(Mt (ce h1) (Mt (ce h1) (Mt (ce h1) (Mt (ce h1) (Mt (ce h1) (Mt (ce h1) (Mt (ce h1) (M1 (.pk true) (ce h1) (Mg 1 (Mf (aq (rr0 (false)))))))))))))) (fun z=>have h1:(dS u.label (ByteArray.mk #[]).data.toList)=true:=(aL z);(Mg 0 (Mh (cJ h1) (Mg 0 (Mh (cJ h1) (Mg 0 (Ml 16 (Le.len (f:=aQ) (l:=u.head)) (Mh (cJ h1) (Mg 0 (Mh (cJ h1) (Mg 0 (Mh (cJ h1) (Mg 0 (Ml 19 (Le.len (f:=aQ) (l:=u.words)) (Mh (cJ h1) (Mg 0 (Ml 20 (Le.wr (x:=Int.ofNat u.head.length+Int.ofNat u.words.length) cq) (Mh (cJ h1) (Mg 0 (M1 (.pk false) (cJ h1) (Mb (ao 0 (Int.ofNat u.head.length+Int.ofNat u.words.length)) (fun h2=>have gh2:=aJ h2;(Mg 0 (Mf (aq (rr0 (false)))))) (fun h2=>have gh2:=av h2;(Mg 4 (Ml 48 (Le.len (f:=aX) (l:=u.kids)) (Mg 0 (ML (Nat × List TUnit × List ((Int × aP) × Bool)) [1,3,47,48,49] (vR u) (G1 u) (fun x=>x.2.1.length) (0,u.kids, []) (ax ((vR u) (0,u.kids, []))) (et (rfl:List.drop 0 (u.kids)=u.kids) (by rfl:(ef u.kind u.kids []=ef u.kind u.kids []))) (fun x0 hx0 nx0=>Mc x0.2.1 (fun hr0=>have lt0:=ai hx0.1 hr0;(have hj0:=aF (J:=fun r x=>ef u.kind u.kids []=ef u.kind r x) (a:=x0.2.2) hr0 hx0.2;(Mg 0 (Mh lt0 (Mg 2 (Ml 74 (Le.len (f:=aX) (l:=u.kids)) (Mg 1 (Mf (aq (rr0 (aV (ao 64 (Int.ofNat u.kids.length))))))))))))) (fun w0 r0 hr0=>have lt0:=aD hx0.1 hr0;(have glt0:=aJ lt0;(have nt0:=(ah (enc:=aX) hx0.1 hr0).trans (congrArg some (aC w0));(have hj0:=aE (J:=fun r x=>ef u.kind u.kids []=ef u.kind r x) (a:=x0.2.2) hr0 hx0.2;(Mg 0 (Mt lt0 (Mx nt0 (Mg 11 (Ml 59 (I8 (k:=IntKind.i64) gh0) (Mg 1 (Mp (yV (0) (w0.kind)) (Mg 1 (Mn (jZ 0 w0.kind) (fun h4=>Mt (ce h4) (Mt (ce h4) (M1 (.pk true) (ce h4) (Mg 1 (Mf (aq (rr0 (false)))))))) (fun h4=>Mg 0 (Mh (cJ h4) (Mg 0 (Mh (cJ h4) (M1 (.look (dW (Nw kN (w0.kind,w0.label) x0.2.2))) (hlk (x0.2.2) (w0.kind) (w0.label)) (M1 (.pk false) (cJ h4) (Mb (Nw kN (w0.kind,w0.label) x0.2.2) (fun h5=>Mg 0 (Mf (aq (rr0 (false))))) (fun h5=>Mg 1 (M1 (.upd (be oA kQ (iZ kN (w0.kind,w0.label) true x0.2.2) 0) ((iZ kN (w0.kind,w0.label) true x0.2.2).length)) (hup (x0.2.2) (w0.kind) (w0.label)) (Mg 0 (Ml 71 (Le.wr (x:=Int.ofNat x0.1+1) cq) (Mg 0 (M1 (.frz 2 [1,3,47,48,49]) (eR (Cw (c:=(iZ kN (w0.kind,w0.label) true x0.2.2).length) (n:=2) (by exact pL KV zz _ _:dT (be oA kQ (iZ kN (w0.kind,w0.label) true x0.2.2) 0)=0)) rt ti) (Mf (nx0 (x0.1+1,r0,iZ kN (w0.kind,w0.label) true x0.2.2) (et (ay hx0.1 hr0) (by (rw [hj0,ef];simp only [aS,aV,bS, *];done):(ef u.kind u.kids []=ef u.kind r0 (iZ kN (w0.kind,w0.label) true x0.2.2)))) (aO hr0))))))))))))))))))))))))))))))))))))))))))))))))))))))))))) (fun h0=>have gh0:=iS h0;(Mg 1 (Mp (vz (u.kind)) (Mg 1 (Mb (dS (dZ u.kind) (ByteArray.mk #[]).data.toList) (fun h6=>Mt h6 (Mt h6 (Mt h6 (M1 (.pk true) h6 (Mg 5 (Mf (aq (rr0 (false))))))))) (fun h6=>Mg 0 (Mh h6 (Mg 0 (Mh h6 (Mp (r3) (Mh h6 (Mg 0 (M1 (.pk false) h6 (Mg 0 (Mb (aV (fu u.label)) (fun z=>have h7:(fu u.label)=false:=(aI z);(Mt (ce h7) (Mt (ce h7) (Mt (ce h7) (M1 (.pk true) (ce h7) (Mg 3 (Mf (aq (rr0 (false)))))))))) (fun z=>have h7:(fu u.label)=true:=(aL z);(Mg 0 (Mh (cJ h7) (Mg 0 (Mh (cJ h7) (Mp (r1) (Mh (cJ h7) (Mg 0 (M1 (.pk false) (cJ h7) (Mg 0 (Mb (aV (fm u.head)) (fun z=>have h8:(fm u.head)=false:=(aI z);(Mt (ce h8) (Mt (ce h8) (Mt (ce h8) (M1 (.pk true) (ce h8) (Mg 1 (Mf (aq (rr0 (false)))))))))) (fun z=>have h8:(fm u.head)=true:=(aL z);(Mg 0 (Mh (cJ h8) (Mg 0 (Mh (cJ h8) (Mp (r2) (Mh (cJ h8) (Mg 0 (M1 (.pk false) (cJ h8) (Mb (aV (fm u.words)) (fun z=>have h9:(fm u.words)=false:=(aI z);(Mg 0 (Mf (aq (rr0 (false)))))) (fun z=>have h9:(fm u.words)=true:=(aL z);(Mg 4 (Ml 48 (Le.len (f:=aX) (l:=u.kids)) (Mg 0 (ML (Nat × List TUnit × List ((Int × aP) × Bool)) [1,3,47,48,49] (tW u) (Df u) (fun x=>x.2.1.length) (0,u.kids, []) (ax ((tW u) (0,u.kids, []))) (et (rfl:List.drop 0 (u.kids)=u.kids) (by rfl:(ef u.kind u.kids []=ef u.kind u.kids []))) (fun x0 hx0 nx0=>Mc x0.2.1 (fun hr0=>have lt0:=ai hx0.1 hr0;(have hj0:=aF (J:=fun r x=>ef u.kind u.kids []=ef u.kind r x) (a:=x0.2.2) hr0 hx0.2;(Mg 0 (Mh lt0 (Mg 2 (Ml 74 (Le.len (f:=aX) (l:=u.kids)) (Mg 1 (Mf (aq (rr0 (aV (ao 64 (Int.ofNat u.kids.length))))))))))))) (fun w0 r0 hr0=>have lt0:=aD hx0.1 hr0;(have glt0:=aJ lt0;(have nt0:=(ah (enc:=aX) hx0.1 hr0).trans (congrArg some (aC w0));(have hj0:=aE (J:=fun r x=>ef u.kind u.kids []=ef u.kind r x) (a:=x0.2.2) hr0 hx0.2;(Mg 0 (Mt lt0 (Mx nt0 (Mg 13 (Mp (yV (u.kind) (w0.kind)) (Mg 1 (Mn (jZ u.kind w0.kind) (fun h11=>Mt (ce h11) (Mt (ce h11) (M1 (.pk true) (ce h11) (Mg 1 (Mf (aq (rr0 (false)))))))) (fun h11=>Mg 0 (Mh (cJ h11) (Mg 0 (Mh (cJ h11) (M1 (.look (dW (Nw kN (w0.kind,w0.label) x0.2.2))) (hlk (x0.2.2) (w0.kind) (w0.label)) (M1 (.pk false) (cJ h11) (Mb (Nw kN (w0.kind,w0.label) x0.2.2) (fun h12=>Mg 0 (Mf (aq (rr0 (false))))) (fun h12=>Mg 1 (M1 (.upd (be oA kQ (iZ kN (w0.kind,w0.label) true x0.2.2) 0) ((iZ kN (w0.kind,w0.label) true x0.2.2).length)) (hup (x0.2.2) (w0.kind) (w0.label)) (Mg 0 (Ml 71 (Le.wr (x:=Int.ofNat x0.1+1) cq) (Mg 0 (M1 (.frz 2 [1,3,47,48,49]) (eR (Cw (c:=(iZ kN (w0.kind,w0.label) true x0.2.2).length) (n:=2) (by exact pL KV zz _ _:dT (be oA kQ (iZ kN (w0.kind,w0.label) true x0.2.2) 0)=0)) rt ti) (Mf (nx0 (x0.1+1,r0,iZ kN (w0.kind,w0.label) true x0.2.2) (et (ay hx0.1 hr0) (by (rw [hj0,ef];simp only [aS,aV,bS, *];done):(ef u.kind u.kids []=ef u.kind r0 (iZ kN (w0.kind,w0.label) true x0.2.2)))) (aO hr0)))))))))))))))))))))))))))))))))))))))))))))))))))))))))))))))))))))))
def C5 (u:TUnit) (x0:Nat × List TUnit × Nat × Nat × List PId):Prop:=(u.kids).drop x0.1=x0.2.1∧x0.2.2.2.1=x0.2.2.2.2.length∧x0.2.2.2.2++bz x0.2.1 = [al u]++bz u.kids∧x0.2.2.2.2.length+cV x0.2.1<2 ^ 30
noncomputable def ss (u:TUnit) (x0:Nat × List TUnit × Nat × Nat × List PId):List AV × List AObj:=([AV.func (Fn.func 233) [] [AV.ptr 0 0 0 0],AV.ls (u.kids.map aX),nV u.kids.length,nV x0.1], [AObj.row 1 false 0 [AV.slice 1 x0.2.2.1 0 x0.2.2.2.1 none],AObj.row 3 true x0.2.2.1 (x0.2.2.2.2.map aZ)])
theorem Ic (u:TUnit) (hl:nU u<2 ^ 29):kC 231 [eU u, .func (.func 233) [] [.ptr 0 0 0 0]] (ae [.row 1 false 0 [.nils]])
    (fun v h=>∃ y:Nat × Nat × List PId,(y.2.1=y.2.2.length∧y.2.2=cC u)∧v = .bool true∧h=ae [qV y.1 y.2.1,Lr y.1 y.2.2]):=by
  have hq:=iz u
  have hkl:=bq u
  exact vT Tryz.func231 (fun qq=>Mg 3 (M1 (.frz 1 [1,2,7,8]) (et rt ti) (Me (Vi u) (Mg 4 (Ml 13 (Le.len (f:=aX) (l:=u.kids)) (Mg 0 (ML (Nat × List TUnit × Nat × Nat × List PId) [1,12,13,14] (ss u) (C5 u) (fun x=>x.2.1.length) (0,u.kids,(0,1, [al u])) (ax ((ss u) (0,u.kids,(0,1, [al u])))) (et (rfl:List.drop 0 (u.kids)=u.kids) (by grind:((1:Nat) = [al u].length∧ [al u]++bz u.kids = [al u]++bz u.kids∧ [al u].length+cV u.kids<2 ^ 30))) (fun x0 hx0 nx0=>Mc x0.2.1 (fun hr0=>have lt0:=ai hx0.1 hr0;(have hj0:=aF (J:=fun r x=>x.2.1=x.2.2.length∧x.2.2++bz r = [al u]++bz u.kids∧x.2.2.length+cV r<2 ^ 30) (a:=x0.2.2) hr0 hx0.2;(Mg 0 (Mh lt0 (Mg 0 (Mf (qq ((x0.2.2.1,x0.2.2.2.1,x0.2.2.2.2)) (by (refine ⟨hj0.1,?_⟩;have:=hj0.2.1;rw [j9,eE] at this;rw [this,gC];rfl))))))))) (fun w0 r0 hr0=>have lt0:=aD hx0.1 hr0;(have glt0:=aJ lt0;(have nt0:=(ah (enc:=aX) hx0.1 hr0).trans (congrArg some (aC w0));(have hj0:=aE (J:=fun r x=>x.2.1=x.2.2.length∧x.2.2++bz r = [al u]++bz u.kids∧x.2.2.length+cV r<2 ^ 30) (a:=x0.2.2) hr0 hx0.2;(have q0:w0∈u.kids:=bJ hx0.1 hr0;(have q1:x0.2.2.2.2.length+nU w0<2 ^ 30:=(by grind [bm]);(Mg 0 (Mt lt0 (Mx nt0 (Mg 4 (M1 (.frz 2 [1,12,13,14,18,19]) (eR (bZ (sz:=3) (op:=true) (ep:=x0.2.2.1) (n:=2) (aK zK (x0.2.2.2.2))) rt ti) (Mq (My w0 (x0.2.2.1) (x0.2.2.2.1) (x0.2.2.2.2) (by omega) q1) fun y1 hy1=>Mg 2 (Ml 22 (Le.wr (x:=Int.ofNat x0.1+1) cq) (Mg 0 (Mf (nx0 (x0.1+1,r0,(y1.1,y1.2.1,y1.2.2)) (et (ay hx0.1 hr0) (by grind [bm, dO, si]:(y1.2.1=y1.2.2.length∧y1.2.2++bz r0 = [al u]++bz u.kids∧y1.2.2.length+cV r0<2 ^ 30))) (aO hr0)))))))))))))))))))))))))
theorem PC (u:TUnit) (hl:nU u<2 ^ 29):kP 132 [eU u] (.ls ((cC u).map aZ)):=by
  have rr0 : ∀ b',(h:((cC u).map aZ)=b':=by (rw [hy0.2]))→((cC u).map aZ)=b':=(fun _ h=>h);exact b7 Tryz.func132 (Mg 4 (M0 (.ren [1,0] [] [3,4,5]) (M1 (.frz 1 [3,4,5]) (et rt ti) (Mq (Ic u hl) fun y0 hy0=>Mg 1 (M2 (.fsl 0 [] 2 (y0.2.2.map aZ)) ti (eR (ax (y0.1)) (c8 (f:=aZ) (l:=y0.2.2) (n:=y0.2.1) (by omega:(y0.2.2).length=y0.2.1)) (aK zK (y0.2.2))) (Ml 2 (ib (y0.2.2.map aZ) (false) (aK zK (y0.2.2))) (Mf (dY (rr0 (y0.2.2.map aZ))))))))))
def Fa (u:TUnit) (x0:Nat × List PId × List (PId × Bool)):Prop:=(cC u).drop x0.1=x0.2.1∧mw (cC u) []=mw x0.2.1 x0.2.2
noncomputable def va (u:TUnit) (x0:Nat × List PId × List (PId × Bool)):List AV × List AObj:=([AV.ptr 0 0 0 0,AV.ls ((cC u).map aZ),AV.map 1,AV.ls ((cC u).map aZ),nV (cC u).length,nV x0.1], [AObj.row 8 false 0 [AV.agg [iV u.act,iV u.item,iV u.n,iV u.kind,AV.str u.label,AV.ls (u.head.map aQ),AV.ls (u.words.map aQ),AV.ls (u.kids.map aX)]],AObj.map (be aZ kQ x0.2.2 0) x0.2.2.length])
theorem Vg (u:TUnit) (hl:nU u<2 ^ 20):kP 357 [eU u] (.bool (L8 u)):=by
  have hb:(cC u).length<2 ^ 20:=by grind [si]
  have hi:=PC u (by omega)
  have hlk : ∀ (m:List (PId × Bool)) (a b c:Int),gp (some (.bool false)) false (cE true 3 [(0,1),(1,1),(2,1)] (.agg [iV a,iV b,iV c]) (be aZ kQ m 0) 0)=some (.bool (Nw aM ⟨a,b,c⟩ m)):=fun m a b c=>E8 IW m ⟨a,b,c⟩
  have hup : ∀ (m:List (PId × Bool)) (a b c:Int),D8 (be aZ kQ m 0) m.length (.agg [iV a,iV b,iV c]) (.bool true) (cE true 3 [(0,1),(1,1),(2,1)] (.agg [iV a,iV b,iV c]) (be aZ kQ m 0) 0)=some (be aZ kQ (iZ aM ⟨a,b,c⟩ true m) 0,(iZ aM ⟨a,b,c⟩ true m).length):=fun m a b c=>Ja IW m ⟨a,b,c⟩
  have rr0 : ∀ b',(h:(L8 u)=b':=by ((try clear gh1);(try clear gh2);(try clear gh3);(try clear gh4);(try clear gh5);(try clear gh6);(try clear gh7);have e:=BT (kenc:=aZ) (f:=kQ) x0.2.2 0;simp only [e,lM] at *;simp only [L8,gQ,aM,al,cQ,hj0,Lv,aS,aV,bS, *];first | done | rfl))→(L8 u)=b':=(fun _ h=>h);exact b7 Tryz.func357 (Mg 2 (Mp (hi) (Mg 4 (Ml 12 (Le.len (f:=aZ) (l:=cC u)) (Mg 0 (ML (Nat × List PId × List (PId × Bool)) [1,3,4,11,12,13] (va u) (Fa u) (fun x=>x.2.1.length) (0,cC u, []) (ax ((va u) (0,cC u, []))) (et (rfl:List.drop 0 (cC u)=cC u) (by rfl:(mw (cC u) []=mw (cC u) []))) (fun x0 hx0 nx0=>Mc x0.2.1 (fun hr0=>have lt0:=ai hx0.1 hr0;(have hj0:=aF (J:=fun r x=>mw (cC u) []=mw r x) (a:=x0.2.2) hr0 hx0.2;(Mg 0 (Mh lt0 (Mg 1 (M1 (.look (dW (Nw aM (PId.mk 0 0 0) x0.2.2))) (hlk (x0.2.2) (0) (0) (0)) (Mg 2 (Mb (Nw aM (PId.mk 0 0 0) x0.2.2) (fun h1=>Mg 0 (Mt h1 (Mg 0 (Mt h1 (Mg 0 (M1 (.pk true) h1 (Mg 0 (Mb (az (Int.ofNat (be aZ kQ x0.2.2 0).length) 1) (fun h2=>have gh2:=eJ h2;(Mt h2 (Mt h2 (Mt h2 (Mt h2 (Mt h2 (Mt h2 (M1 (.pk true) h2 (Mg 0 (Mf (aq (rr0 (true))))))))))))) (fun h2=>have gh2:=iS h2;(Mg 0 (Mh h2 (Mg 0 (Mh h2 (Mg 0 (Mh h2 (Mg 0 (Mh h2 (Mg 0 (Mh h2 (Mg 0 (Mb (az (Int.ofNat (be aZ kQ x0.2.2 0).length) (Int.ofNat ((cC u).map aZ).length)) (fun h3=>have gh3:=eJ h3;(Mg 0 (Mt h3 (Mg 0 (Mt h3 (Mg 0 (Mt h3 (Mg 0 (Mt h3 (Mg 0 (Mt h3 (Mg 0 (Mt h3 (Mv (cA (d:=(Tryz.prog).underlying 23) (n:=3) (l:=(0,1)::(1,1)::(2,1):: []) (xs:= [iV u.act,iV u.item,iV u.n]) (ys:= [iV 0,iV 0,iV 0]) (H:=AHeap.mk 1000000 Tr.nil) rfl (bj (e:=az u.act 0) rfl rfl rfl (bj (e:=az u.item 0) rfl rfl rfl (da (e:=az u.n 0) rfl rfl rfl rfl)))) (Mt h3 (Mg 0 (Mh h2 (M1 (.pk true) h3 (M1 (.pk false) h2 (Mg 0 (Mf (aq (rr0 (az u.kind 0 == (az u.act 0 && (az u.item 0 && az u.n 0)))))))))))))))))))))))))) (fun h3=>have gh3:=iS h3;(Mh h3 (Mh h3 (Mh h3 (Mh h3 (Mh h3 (Mh h3 (Mh h3 (Mh h2 (M1 (.pk false) h3 (M1 (.pk false) h2 (Mg 0 (Mf (aq (rr0 (false))))))))))))))))))))))))))))))))))))) (fun h1=>Mh h1 (Mh h1 (M1 (.pk false) h1 (Mg 6 (Mb (az (Int.ofNat (be aZ kQ x0.2.2 0).length) (Int.ofNat ((cC u).map aZ).length)) (fun h4=>have gh4:=eJ h4;(Mg 0 (Mt h4 (Mg 0 (Mt h4 (Mg 0 (Mt h4 (Mg 0 (Mt h4 (Mg 0 (Mt h4 (Mg 0 (Mt h4 (Mv (cA (d:=(Tryz.prog).underlying 23) (n:=3) (l:=(0,1)::(1,1)::(2,1):: []) (xs:= [iV u.act,iV u.item,iV u.n]) (ys:= [iV 0,iV 0,iV 0]) (H:=AHeap.mk 1000000 Tr.nil) rfl (bj (e:=az u.act 0) rfl rfl rfl (bj (e:=az u.item 0) rfl rfl rfl (da (e:=az u.n 0) rfl rfl rfl rfl)))) (Mt h4 (Mg 0 (M1 (.pk true) h4 (Mg 1 (Mf (aq (rr0 (az u.kind 0 == (az u.act 0 && (az u.item 0 && az u.n 0)))))))))))))))))))))))) (fun h4=>have gh4:=iS h4;(Mh h4 (Mh h4 (Mh h4 (Mh h4 (Mh h4 (Mh h4 (Mh h4 (M1 (.pk false) h4 (Mg 1 (Mf (aq (rr0 (false))))))))))))))))))))))))))) (fun w0 r0 hr0=>have lt0:=aD hx0.1 hr0;(have glt0:=aJ lt0;(have nt0:=ah (enc:=aZ) hx0.1 hr0;(have hj0:=aE (J:=fun r x=>mw (cC u) []=mw r x) (a:=x0.2.2) hr0 hx0.2;(Mg 0 (Mt lt0 (Mx nt0 (Mg 4 (M1 (.upd (be aZ kQ (iZ aM (PId.mk w0.a w0.i w0.n) true x0.2.2) 0) ((iZ aM (PId.mk w0.a w0.i w0.n) true x0.2.2).length)) (hup (x0.2.2) (w0.a) (w0.i) (w0.n)) (Mg 0 (Ml 19 (bb (x:=Int.ofNat x0.1+(1:Int)) (n:=x0.1+(1:Nat)) cq) (Mg 0 (M1 (.frz 2 [1,3,4,11,12,13]) (eR (Cw (c:=(iZ aM (PId.mk w0.a w0.i w0.n) true x0.2.2).length) (n:=2) (by exact pL IW zz _ _:dT (be aZ kQ (iZ aM (PId.mk w0.a w0.i w0.n) true x0.2.2) 0)=0)) rt ti) (Mf (nx0 (x0.1+1,r0,iZ aM (PId.mk w0.a w0.i w0.n) true x0.2.2) (et (ay hx0.1 hr0) (by (rw [hj0];rfl):(mw (cC u) []=mw r0 (iZ aM (PId.mk w0.a w0.i w0.n) true x0.2.2)))) (aO hr0)))))))))))))))))))))))
/-- What a tree's parts must be, so that the walks can count. -/
def li (x:TUnit):Prop:=x.head.length≤300∧x.words.length≤300∧x.label.length≤2 ^ 39∧(∀ w,w∈x.head→w.text.length≤2 ^ 39)∧∀ w,w∈x.words→w.text.length≤2 ^ 39
def ll (u:TUnit):Prop:=nU u≤2 ^ 19∧∀ x,x∈bB u→li x
theorem F8 (u:TUnit) (h:ll u):kP 231 [eU u, .func (.func 356) [] []] (.bool (tJ kK u)):=
  Kg 356 kK u
    (fun x hx=>by
      obtain ⟨a,b,c,d,e⟩:=h.2 x hx
      have h1:=bq x
      have h2:=dD hx
      have h3:=h.1
      grind [Rq])
    (by have h1:=bq u;have h3:=h.1;omega)
    (fun x hx=>by
      have h1:=bq x
      have h2:=dD hx
      have h3:=h.1
      omega)
theorem ww (u:TUnit) (h:ll u):kP 307 [eU u] (.bool (jz u)):=by
  have h1:=h.1
  have e1:=F8 u h
  have e2:=Gf u (by omega)
  have e3:=DY u (by omega)
  have e4:=Vg u (by omega)
  have hd:=wF u
  have rr0 : ∀ b',(h:(jz u)=b':=by (simp only [jz,aS,aV,bS, *];done))→(jz u)=b':=(fun _ h=>h);exact b7 Tryz.func307 (Mg 2 (Mp (e1) (Mg 0 (Mb (tJ kK u) (fun h0=>Mg 0 (Mt h0 (Mp (e2) (Mt h0 (Mg 0 (M1 (.pk true) h0 (Mg 0 (Mb (aV (ao 8 (Int.ofNat (fD u)))) (fun z=>have h1:(ao 8 (Int.ofNat (fD u)))=false:=(aI z);((Mg 0 (Mt (ce h1) (Mp (e3) (Mt (ce h1) (Mg 0 (M1 (.pk true) (ce h1) (Mg 0 (Mn (ao 1024 (Int.ofNat (nU u))) (fun h2=>(Mg 0 (Mt (ce h2) (Mp (e4) (M1 (.pk true) (ce h2) (Mg 0 (Mf (aq (rr0 (L8 u)))))))))) (fun h2=>(Mh (cJ h2) (M1 (.pk false) (cJ h2) (Mg 0 (Mf (aq (rr0 (false)))))))))))))))))) (fun z=>have h1:(ao 8 (Int.ofNat (fD u)))=true:=(aL z);((Mh (cJ h1) (Mh (cJ h1) (M1 (.pk false) (cJ h1) (Mg 2 (Mf (aq (rr0 (false)))))))))))))))))) (fun h0=>Mh h0 (Mh h0 (M1 (.pk false) h0 (Mg 4 (Mf (aq (rr0 (false))))))))))))
theorem pR (l:List PWord) (hl:l.length<2 ^ 30):kP 180 [.ls (l.map aQ)] (.ls (l.map aQ)):=by
  cases l with
  | nil=>exact bw.ls0 (QP.less Le.nils) (QO.lessB (u:= .ls []) (by kernel_rfl))
  | cons w r=>grind [QR]
noncomputable abbrev uC:AObj:= .row 8 false 0 [.agg [iV 0,iV 0,iV 0,iV 0, .str [], .nils, .nils, .nils]]
def As (u:TUnit) (x0:Nat × List TUnit × Unit):Prop:=(u.kids).drop x0.1=x0.2.1∧x0.2.1=u.kids
noncomputable def qn (u:TUnit) (x0:Nat × List TUnit × Unit):List AV × List AObj:=([AV.ptr 0 0 0 0,AV.ptr 1 0 0 0,AV.nils,AV.ls (u.kids.map aX),nV u.kids.length,nV x0.1], [AObj.row 8 false 0 [AV.agg [iV u.act,iV u.item,iV u.n,iV u.kind,AV.str u.label,AV.ls (u.head.map aQ),AV.ls (u.words.map aQ),AV.ls (u.kids.map aX)]],AObj.row 8 false 0 [AV.agg [iV 0,iV 0,iV 0,iV 0,AV.str [],AV.nils,AV.nils,AV.nils]]])
def Ar (u:TUnit) (x0:Nat × List TUnit × Nat × Nat × List TUnit):Prop:=(u.kids).drop x0.1=x0.2.1∧x0.2.2.2.1=x0.2.2.2.2.length∧(0:Nat)<x0.2.2.2.2.length∧x0.2.2.2.2++x0.2.1=u.kids∧x0.2.2.2.2.length+x0.2.1.length=u.kids.length
noncomputable def Ap (u:TUnit) (x0:Nat × List TUnit × Nat × Nat × List TUnit):List AV × List AObj:=([AV.ptr 0 0 0 0,AV.ptr 1 0 0 0,AV.slice 2 x0.2.2.1 0 x0.2.2.2.1 none,AV.ls (u.kids.map aX),nV u.kids.length,nV x0.1], [AObj.row 8 false 0 [AV.agg [iV u.act,iV u.item,iV u.n,iV u.kind,AV.str u.label,AV.ls (u.head.map aQ),AV.ls (u.words.map aQ),AV.ls (u.kids.map aX)]],AObj.row 8 false 0 [AV.agg [iV 0,iV 0,iV 0,iV 0,AV.str [],AV.nils,AV.nils,AV.nils]],AObj.row 8 true x0.2.2.1 (x0.2.2.2.2.map aX)])
theorem Gm : ∀ (u:TUnit),nU u≤2 ^ 20→(∀ x,x∈bB u→x.head.length<2 ^ 30∧x.words.length<2 ^ 30)→kP 90 [eU u] (eU u):=by
  refine TUnit.ind fun u ih hn ht=>?_
  have hkl:=bq u
  have c1:=pR u.head (ht u (dJ u)).1
  have c2:=pR u.words (ht u (dJ u)).2
  have ihk : ∀ k,k∈u.kids→kP 90 [eU k] (eU k):=fun k hk=>ih k hk (bL (mU (fW hk)) hn) (fun x hx=>ht x (bC hk hx))
  have rr0 : ∀ b',(h:(u.kids.map aX)=b':=by first | rfl | (rw [← hj0];rfl) | (rw [← hj0.2.2.1,eE]))→(u.kids.map aX)=b':=(fun _ h=>h);let q1:=List.map aQ u.words;let q2:=List.map aQ u.head;exact b7 Tryz.func90 (Mg 3 (Mp (c1) (Mg 1 (Mp (c2) (Mg 7 (Ml 16 (Le.len (f:=aX) (l:=u.kids)) (Mg 0 (MM (Nat × List TUnit × Unit) (Nat × List TUnit × Nat × Nat × List TUnit) [1,2,3,15,16,17] (qn u) (Ap u) (As u) (Ar u) (fun x=>x.2.1.length) (fun x=>x.2.1.length) (.inl (0,u.kids,())) (ax ((qn u) (0,u.kids,()))) (et (rfl:List.drop 0 (u.kids)=u.kids) (by rfl:(u.kids=u.kids))) (fun x0 hx0 nx0=>Mc x0.2.1 (fun hr0=>have lt0:=ai hx0.1 hr0;(have hj0:=aF (J:=fun r x=>r=u.kids) (a:=x0.2.2) hr0 hx0.2;(Mg 0 (Mh lt0 (Mg 0 (Ml 27 b9 (Mg 3 (Mf ((bX (.cons (aW _) (.cons (aW _) (.cons (aW _) (.cons (aW _) (.cons (aW _) (.cons (aW _) (.cons (aW _) (.cons (dY (rr0 ([]))) .nil)))))))) (by kernel_rfl)):Le _ (ab [iV u.act,iV u.item,iV u.n,iV u.kind,af u.label,aU q2,aU q1,aU []])))))))))) (fun w0 r0 hr0=>have lt0:=aD hx0.1 hr0;(have glt0:=aJ lt0;(have nt0:=(ah (enc:=aX) hx0.1 hr0).trans (congrArg some (aC w0));(have hj0:=aE (J:=fun r x=>r=u.kids) (a:=x0.2.2) hr0 hx0.2;(Mg 0 (Mt lt0 (Mx nt0 (Mg 4 (Mp (ihk w0 (by grind)) (Mg 1 (M1 (.obj 3 (aw 8 true 0 (List.map aX [w0]))) (congrArg (aw 8 true (0)) (SF (f:=aX) (g:=Go.Ev.eU) (ws:= [w0]) aC)) (Mg 1 (Ml 26 (Le.wr (x:=Int.ofNat x0.1+1) cq) (Mg 0 (M1 (.ren [0,1,3,2] [3] [1,2,3,15,16,17]) (kY (sz:=8) (op:=true) (ep:=0) (aK gN ([w0]))) (M1 (.frz 3 [1,2,3,15,16,17]) (mu (bZ (sz:=8) (op:=true) (ep:=0) (n:=3) (aK gN ([w0]))) rt rt ti) (Mf (nx0 (.inr (x0.1+1,r0,(0,1, [w0]))) (et (ay hx0.1 hr0) (by (refine ⟨rfl,by simp,?_,?_⟩ <;> (rw [← hj0]) <;> (first | rfl | grind)):((1:Nat) = [w0].length∧(0:Nat) < [w0].length∧ [w0]++r0=u.kids∧ [w0].length+r0.length=u.kids.length))) (aO hr0)))))))))))))))))))) (fun x0 hx0 nx0=>let q:=List.map aX x0.2.2.2.2;Mc x0.2.1 (fun hr0=>have lt0:=ai hx0.1 hr0;(have hj0:=aF (J:=fun r x=>x.2.1=x.2.2.length∧(0:Nat)<x.2.2.length∧x.2.2++r=u.kids∧x.2.2.length+r.length=u.kids.length) (a:=x0.2.2) hr0 hx0.2;(Mg 0 (Mh lt0 (Mg 0 (M2 (.fsl 2 [1,2] 27 q) (eR rt rt ti) (eR (ax (x0.2.2.1)) (c8 (f:=aX) (l:=x0.2.2.2.2) (n:=x0.2.2.2.1) (by omega:(x0.2.2.2.2).length=x0.2.2.2.1)) (aK gN (x0.2.2.2.2))) (Ml 27 (ib q (false) (aK gN (x0.2.2.2.2))) (Mg 3 (Mf ((bX (.cons (aW _) (.cons (aW _) (.cons (aW _) (.cons (aW _) (.cons (aW _) (.cons (aW _) (.cons (aW _) (.cons (dY (rr0 q)) .nil)))))))) (by kernel_rfl)):Le _ (ab [iV u.act,iV u.item,iV u.n,iV u.kind,af u.label,aU q2,aU q1,aU q]))))))))))) (fun w0 r0 hr0=>have lt0:=aD hx0.1 hr0;(have glt0:=aJ lt0;(have nt0:=(ah (enc:=aX) hx0.1 hr0).trans (congrArg some (aC w0));(have hj0:=aE (J:=fun r x=>x.2.1=x.2.2.length∧(0:Nat)<x.2.2.length∧x.2.2++r=u.kids∧x.2.2.length+r.length=u.kids.length) (a:=x0.2.2) hr0 hx0.2;(Mg 0 (Mt lt0 (Mx nt0 (Mg 4 (Mp (ihk w0 (by grind)) (Mg 0 (M1 .app (eR (ax (x0.2.2.1)) (by simp_all:x0.2.2.2.1=(x0.2.2.2.2.map aX).length) (by (refine aA (m:=2 ^ 21) ?_ ?_ ?_ <;> omega):small (x0.2.2.2.1+1) 120=true)) (M1 (.obj 2 (aw 8 true (x0.2.2.1+1) ((x0.2.2.2.2++ [w0]).map aX))) (congrArg (aw 8 true (x0.2.2.1+1)) (wt (f:=aX) (g:=Go.Ev.eU) (l:=x0.2.2.2.2) (ws:= [w0]) aC)) (Mg 1 (Ml 26 (Le.wr (x:=Int.ofNat x0.1+1) cq) (Mg 0 (M1 (.frz 3 [1,2,3,15,16,17]) (mu (bZ (sz:=8) (op:=true) (ep:=x0.2.2.1+1) (n:=3) (aK gN (x0.2.2.2.2++ [w0]))) rt rt ti) (Mf (nx0 (.inr (x0.1+1,r0,(x0.2.2.1+1,x0.2.2.2.1+1,x0.2.2.2.2++ [w0]))) (et (ay hx0.1 hr0) (by (refine ⟨by simp_all,by simp,?_,?_⟩ <;> first | (rw [← hj0.2.2.1];simp;done) | grind):(x0.2.2.2.1+(1:Nat)=(x0.2.2.2.2++ [w0]).length∧(0:Nat)<(x0.2.2.2.2++ [w0]).length∧x0.2.2.2.2++ [w0]++r0=u.kids∧(x0.2.2.2.2++ [w0]).length+r0.length=u.kids.length))) (aO hr0))))))))))))))))))))))))))))
theorem Vs (p:PId) (u:TUnit) (h:By (cb p u) true) (hn:nU u≤2 ^ 20) (ht : ∀ x,x∈bB u→x.head.length<2 ^ 30∧x.words.length<2 ^ 30):kP 48 [eU u,aZ p] (.tuple [eU (eW p u), .bool true]):=by
  have hw:=DT p u h hn
  have hlen:=lQ (p:=p) u
  have hpos:0<(an p u).length:=qw.2 (kz h)
  have hm:eW p u∈bB u:=Jy u _ (QJ h)
  have hf:eW p u=gD (an p u) ((an p u).length - 1):=by unfold eW;simp_all
  have hc:=Gm (eW p u) (bL (dD hm) hn) (fun x hx=>ht x (by
    grind [iH]))
  rw [hf] at hc ⊢
  have hz:=Ql hpos
  exact b7 Tryz.func48 (Mg 5 (Mp (hw) (Mg 2 (Ml 11 (Le.len (f:=aX) (l:=an p u)) (Mg 0 (Mh hz (Mg 2 (Ml 16 (Le.len (f:=aX) (l:=an p u)) (Mg 0 (Ml 17 (bb (x:=Int.ofNat (an p u).length - (1:Int)) (n:=(an p u).length - (1:Nat)) cq) (Mx ((cj aX (by omega:(an p u).length - 1<(an p u).length)).trans (congrArg some (aC _))) (Mg 0 (Mp (hc) (Mg 1 (Mf (aW (fQ [ab [iV (gD (an p u) ((an p u).length - 1)).act,iV (gD (an p u) ((an p u).length - 1)).item,iV (gD (an p u) ((an p u).length - 1)).n,iV (gD (an p u) ((an p u).length - 1)).kind,af (gD (an p u) ((an p u).length - 1)).label,aU (List.map aQ (gD (an p u) ((an p u).length - 1)).head),aU (List.map aQ (gD (an p u) ((an p u).length - 1)).words),aU (List.map aX (gD (an p u) ((an p u).length - 1)).kids)],dW true])))))))))))))))))
theorem Vu (p:PId) (u:TUnit) (h:By (cb p u) false) (hn:nU u≤2 ^ 20):kP 48 [eU u,aZ p] (.tuple [eU bu, .bool false]):=by
  have hw:=Jv p u h hn
  exact b7 Tryz.func48 (Mg 5 (Mp (hw) (Mg 7 (Mf ((cR (.cons (bX (.cons (aW _) (.cons (aW _) (.cons (aW _) (.cons (aW _) (.cons (aW _) (.cons b9 (.cons b9 (.cons b9 .nil)))))))) (by kernel_rfl)) (.cons (aW _) .nil))):Le _ (fQ [ab [iV 0,iV 0,iV 0,iV 0,af [],aR,aR,aR],dW false]))))))
theorem QW (p:PId) (u:TUnit) (hn:nU u≤2 ^ 20) (ht : ∀ x,x∈bB u→x.head.length<2 ^ 30∧x.words.length<2 ^ 30):kP 48 [eU u,aZ p] (.tuple [eU (eW p u), .bool (cb p u)]):=by
  cases h:cb p u with
  | true=>grind [Vs]
  | false=>
    have:=Vu p u h hn
    rwa [show bu=eW p u by unfold eW;simp_all] at this
theorem TU {l m:List TUnit} {i:Nat} (h:i<l.length):gD (l++m) i=gD l i:=by
  simp only [gD,List.getD,qa h]
theorem N4 {l m:List TUnit} {i n:Nat} {x:TUnit} (h:l.length=n) (hi:i<n):((l++m).set i x).take n=l.set i x:=by
  rw [List.set_append_left _ _ (by omega),AF (by rw [lS];omega),re (by rw [lS];omega)]
theorem Rz {l m:List TUnit} {n:Nat} (h:l.length=n):(l++m).take n=l:=by rw [← h,List.take_left]
theorem Kp {l:List TUnit} {i:Nat} (h:i<l.length):l.drop i=gD l i::l.drop (i+1):=by
  rw [JJ h];simp [gD,List.getD,kS h]
theorem Wc {p:PId} {f:TUnit→TUnit} {l:List TUnit} {i:Nat} (h:ia p f l i (l.drop i)) (hi:l.length≤i):ed p f l=l:=by
  have e:=AH hi
  rw [e] at h
  exact ia.done h e
theorem Wa {p:PId} {f:TUnit→TUnit} {l:List TUnit} {i:Nat} (h:ia p f l i (l.drop i)) (hi:i<l.length) (hw:cb p (gD l i)=false):ia p f l (i+1) (l.drop (i+1)):=by
  have e:=Kp hi
  rw [e] at h
  exact ia.skip h e hw
theorem Wb {p:PId} {f:TUnit→TUnit} {l:List TUnit} {i:Nat} (h:ia p f l i (l.drop i)) (hi:i<l.length) (hw:cb p (gD l i)=true):ed p f l=l.set i (dq p f (gD l i)):=by
  have e:=Kp hi
  rw [e] at h
  exact ia.hit h e hw
/-- The unit is another one without kids. -/
theorem WT (g:Nat) (bs:List AV) (p:PId) (u:TUnit) (hA:aY [eU u,aZ p, .func (.func g) [] bs]=0) (hA2:(AV.func (.func g) [] bs).top=0) (hp:(az u.act p.a && (az u.item p.i && az u.n p.n))=false) (h0:u.kids.length=0) (hl0:ao 0 (Int.ofNat u.kids.length)=false):kP 136 [eU u,aZ p, .func (.func g) [] bs] (eU u):=by
  have hc:=B6 u.kids (by omega)
  let q:= [aw 8 false 0 [ab [iV u.act,iV u.item,iV u.n,iV u.kind,af u.label,aU (u.head.map aQ),aU (u.words.map aQ),aU (u.kids.map aX)]],aw 3 false 0 [ab [iV p.a,iV p.i,iV p.n]],aw 8 false 0 [ab [iV 0,iV 0,iV 0,iV 0,af [],aR,aR,aR]]];let q1:= [bg (bf g) [] bs,AV.ptr 0 0 0 0,AV.ptr 1 0 0 0,AV.ptr 2 0 0 0,aU (u.kids.map aX),aU (u.kids.map aX),nV u.kids.length,iV 0];exact b7 (ht:=(by assumption)) Tryz.func136 (Mg 5 (Mv (cA (d:=(Tryz.prog).underlying 23) (n:=3) (l:=(0,1)::(1,1)::(2,1):: []) (xs:= [iV u.act,iV u.item,iV u.n]) (ys:= [iV p.a,iV p.i,iV p.n]) (H:=ae q) rfl (bj (e:=az u.act p.a) rfl rfl rfl (bj (e:=az u.item p.i) rfl rfl rfl (da (e:=az u.n p.n) rfl rfl rfl rfl)))) (Mh hp (Mg 1 (Mp (hc) (Mg 2 (Ml 27 (Le.len (f:=aX) (l:=u.kids)) (Mg 0 (ML Unit [2,3,4,6,7,26,27,28] (fun _=>(q1,q)) (fun _=>True) (fun _=>0) () (ax ((q1,q):List AV × List AObj)) ti (fun _ _ nx=>Mg 0 (Mh hl0 (Mg 4 (Mf (aW (ab [iV u.act,iV u.item,iV u.n,iV u.kind,af u.label,aU (u.head.map aQ),aU (u.words.map aQ),aU (u.kids.map aX)])))))))))))))))
def LP (g:Nat) (bs:List AV) (p:PId) (f:TUnit→TUnit) (u:TUnit) (y0:Nat) (x0:Nat):Prop:=x0≤u.kids.length∧ia p f u.kids x0 (u.kids.drop x0)
noncomputable def Bn (g:Nat) (bs:List AV) (p:PId) (f:TUnit→TUnit) (u:TUnit) (y0:Nat) (x0:Nat):List AV × List AObj:=([AV.func (Fn.func g) [] bs,AV.ptr 0 0 0 0,AV.ptr 1 0 0 0,AV.ptr 2 0 0 0,AV.slice 3 0 0 u.kids.length (some (u.kids.length+y0)),AV.slice 3 0 0 u.kids.length (some (u.kids.length+y0)),nV u.kids.length,nV x0], [AObj.row 8 false 0 [AV.agg [iV u.act,iV u.item,iV u.n,iV u.kind,AV.str u.label,AV.ls (u.head.map aQ),AV.ls (u.words.map aQ),AV.ls (u.kids.map aX)]],AObj.row 3 false 0 [AV.agg [iV p.a,iV p.i,iV p.n]],AObj.row 8 false 0 [AV.agg [iV 0,iV 0,iV 0,iV 0,AV.str [],AV.nils,AV.nils,AV.nils]],AObj.row 8 false 0 ((u.kids++List.replicate y0 bu).map aX)])
/-- The unit is another: what is done below. -/
theorem WS (g:Nat) (bs:List AV) (p:PId) (f:TUnit→TUnit) (u:TUnit) (hA:aY [eU u,aZ p, .func (.func g) [] bs]=0) (hA2:(AV.func (.func g) [] bs).top=0) (hp:(az u.act p.a && (az u.item p.i && az u.n p.n))=false) (hne:u.kids≠ []) (hn:u.kids.length≤2 ^ 20)
    (hf : ∀ k,k∈u.kids→kP 48 [eU k,aZ p] (.tuple [eU (eW p k), .bool (cb p k)]))
    (ih : ∀ k,k∈u.kids→kP 136 [eU k,aZ p, .func (.func g) [] bs] (eU (dq p f k))):kP 136 [eU u,aZ p, .func (.func g) [] bs] (eU (lI u (ed p f u.kids))):=by
  have rr0 : ∀ b',(h:(List.map aX (lI u (ed p f u.kids)).kids)=b':=by first | rfl | (rw [Wb hx0.2 (by (first | omega | (simp only [oN] at *;omega))) (by rw [← q0 (by (first | omega | (simp only [oN] at *;omega)))];assumption),q0 (by (first | omega | (simp only [oN] at *;omega)))];exact congrArg _ (N4 rfl (by (first | omega | (simp only [oN] at *;omega)))).symm) | (rw [Wc hx0.2 (by (first | omega | (simp only [oN] at *;omega)))];exact congrArg _ (Rz rfl).symm))→(List.map aX (lI u (ed p f u.kids)).kids)=b':=(fun _ h=>h);exact b7 (ht:=(by assumption)) Tryz.func136 (Mg 5 (Mv (cA (d:=(Tryz.prog).underlying 23) (n:=3) (l:=(0,1)::(1,1)::(2,1):: []) (xs:= [iV u.act,iV u.item,iV u.n]) (ys:= [iV p.a,iV p.i,iV p.n]) (H:=ae [aw 8 false 0 [ab [iV u.act,iV u.item,iV u.n,iV u.kind,af u.label,aU (u.head.map aQ),aU (u.words.map aQ),aU (u.kids.map aX)]],aw 3 false 0 [ab [iV p.a,iV p.i,iV p.n]],aw 8 false 0 [ab [iV 0,iV 0,iV 0,iV 0,af [],aR,aR,aR]]]) rfl (bj (e:=az u.act p.a) rfl rfl rfl (bj (e:=az u.item p.i) rfl rfl rfl (da (e:=az u.n p.n) rfl rfl rfl rfl)))) (Mh hp (Mg 1 (Mq (Dw (u.kids) hne hn (aw 8 false 0 [ab [iV u.act,iV u.item,iV u.n,iV u.kind,af u.label,aU (u.head.map aQ),aU (u.words.map aQ),aU (u.kids.map aX)]]) (aw 3 false 0 [ab [iV p.a,iV p.i,iV p.n]]) (aw 8 false 0 [ab [iV 0,iV 0,iV 0,iV 0,af [],aR,aR,aR]])) fun y0 hy0=>Mg 3 (ML (Nat) [2,3,4,6,7,26,27,28] (Bn g bs p f u y0) (LP g bs p f u y0) (fun x=>u.kids.length - x) (0) (ax ((Bn g bs p f u y0) (0))) (by exact ⟨bN _,ia.start⟩:(0:Nat)≤u.kids.length∧ia p f u.kids (0:Nat) (u.kids.drop (0:Nat))) (fun x0 hx0 nx0=>have hx0:x0≤u.kids.length∧ia p f u.kids x0 (u.kids.drop x0):=hx0;(have q0:x0<u.kids.length→gD (u.kids++List.replicate y0 bu) x0=gD u.kids x0:=fun h=>TU h;(Mg 0 (Mb (ao (Int.ofNat x0) (Int.ofNat u.kids.length)) (fun h2=>have gh2:=aJ h2;(Mg 0 (M1 .rix (et (ax (0)) (by (simp only [oN,lM,lS] at *;omega):x0<u.kids.length)) (Mr (et (ax (0)) (pB aX (g:=Go.Ev.eU) aC (by (simp only [oN,lM,lS,lA,lR,lC,lN] at * <;> omega):x0<(u.kids++List.replicate y0 bu).length))) (Mg 4 (Mp (hf (gD (u.kids++List.replicate y0 bu) x0) (by exact (q0 (by (simp only [oN] at *;omega)) ▸ gy (by (simp only [oN] at *;omega))))) (Mg 6 (Mb (cb p (gD (u.kids++List.replicate y0 bu) x0)) (fun h3=>Mg 4 (Mp (ih (gD (u.kids++List.replicate y0 bu) x0) (by exact (q0 (by (simp only [oN] at *;omega)) ▸ gy (by (simp only [oN] at *;omega))))) (M1 .rix (et (ax (0)) (by (simp only [oN,lM,lS] at *;omega):x0<u.kids.length)) (M1 (.rst (ab [iV (gD (u.kids++List.replicate y0 bu) x0).act,iV (gD (u.kids++List.replicate y0 bu) x0).item,iV (gD (u.kids++List.replicate y0 bu) x0).n,iV (gD (u.kids++List.replicate y0 bu) x0).kind,af (gD (u.kids++List.replicate y0 bu) x0).label,aU (List.map aQ (gD (u.kids++List.replicate y0 bu) x0).head),aU (List.map aQ (gD (u.kids++List.replicate y0 bu) x0).words),aU (List.map aX (gD (u.kids++List.replicate y0 bu) x0).kids)]) (((u.kids++List.replicate y0 bu).set x0 (dq p f (gD (u.kids++List.replicate y0 bu) x0))).map aX)) (eR (ax (0)) (pB aX (g:=Go.Ev.eU) aC (by (simp only [oN,lM,lS,lA,lR,lC,lN] at * <;> omega):x0<(u.kids++List.replicate y0 bu).length)) (Cg (f:=aX) (g:=Go.Ev.eU) aC (l:=u.kids++List.replicate y0 bu) (i:=x0) (w:=dq p f (gD (u.kids++List.replicate y0 bu) x0)))) (Mg 0 (M2 (.fsl 3 [3,6] 48 ((((u.kids++List.replicate y0 bu).set x0 (dq p f (gD (u.kids++List.replicate y0 bu) x0))).take u.kids.length).map aX)) (mu rt rt rt ti) (eR (ax (0)) (NE (f:=aX) (l:=(u.kids++List.replicate y0 bu).set x0 (dq p f (gD (u.kids++List.replicate y0 bu) x0))) (n:=u.kids.length)) (aK gN (((u.kids++List.replicate y0 bu).set x0 (dq p f (gD (u.kids++List.replicate y0 bu) x0))).take u.kids.length))) (Ml 48 (ib ((((u.kids++List.replicate y0 bu).set x0 (dq p f (gD (u.kids++List.replicate y0 bu) x0))).take u.kids.length).map aX) (mI (some (u.kids.length+y0)) (some u.kids.length)) (aK gN (((u.kids++List.replicate y0 bu).set x0 (dq p f (gD (u.kids++List.replicate y0 bu) x0))).take u.kids.length))) (Mg 3 (Mf ((bX (.cons (aW _) (.cons (aW _) (.cons (aW _) (.cons (aW _) (.cons (aW _) (.cons (aW _) (.cons (aW _) (.cons (dY (rr0 ((((u.kids++List.replicate y0 bu).set x0 (dq p f (gD (u.kids++List.replicate y0 bu) x0))).take u.kids.length).map aX))) .nil)))))))) (by kernel_rfl)):Le _ (ab [iV u.act,iV u.item,iV u.n,iV u.kind,af u.label,aU (u.head.map aQ),aU (u.words.map aQ),aU ((((u.kids++List.replicate y0 bu).set x0 (dq p f (gD (u.kids++List.replicate y0 bu) x0))).take u.kids.length).map aX)]))))))))))) (fun h3=>Mg 0 (Ml 47 (bb (x:=Int.ofNat x0+(1:Int)) (n:=x0+(1:Nat)) cq) (Mg 0 (M2 (.frl 4 [3,4,6,7,26,27,28] [2]) (Qy (bZ (sz:=8) (op:=false) (ep:=0) (n:=4) (aK gN (u.kids++List.replicate y0 bu))) rt rt rt ti) (et (by (omega):(AV.func (Fn.func g) [] bs).top≤4) ti) (Mf (nx0 (x0+1) (by exact ⟨by (simp only [oN] at *;omega),Wa hx0.2 (by (simp only [oN] at *;omega)) (by rw [← q0 (by (simp only [oN] at *;omega))];assumption)⟩:x0+(1:Nat)≤u.kids.length∧ia p f u.kids (x0+(1:Nat)) (u.kids.drop (x0+(1:Nat)))) (by (simp only [oN] at *;omega):u.kids.length - (x0+(1:Nat))<u.kids.length - x0))))))))))))))) (fun h2=>have gh2:=av h2;(Mg 0 (M2 (.fsl 3 [3,6] 48 (((u.kids++List.replicate y0 bu).take u.kids.length).map aX)) (mu rt rt rt ti) (eR (ax (0)) (NE (f:=aX) (l:=u.kids++List.replicate y0 bu) (n:=u.kids.length)) (aK gN ((u.kids++List.replicate y0 bu).take u.kids.length))) (Ml 48 (ib (((u.kids++List.replicate y0 bu).take u.kids.length).map aX) (mI (some (u.kids.length+y0)) (some u.kids.length)) (aK gN ((u.kids++List.replicate y0 bu).take u.kids.length))) (Mg 3 (Mf ((bX (.cons (aW _) (.cons (aW _) (.cons (aW _) (.cons (aW _) (.cons (aW _) (.cons (aW _) (.cons (aW _) (.cons (dY (rr0 (((u.kids++List.replicate y0 bu).take u.kids.length).map aX))) .nil)))))))) (by kernel_rfl)):Le _ (ab [iV u.act,iV u.item,iV u.n,iV u.kind,af u.label,aU (u.head.map aQ),aU (u.words.map aQ),aU (((u.kids++List.replicate y0 bu).take u.kids.length).map aX)]))))))))))))))))))
theorem gP {g:Nat} {bs:List AV} {p:PId} (hb:aY bs=0) (x:TUnit):aY [eU x,aZ p, .func (.func g) [] bs]=0:=by
  have h1:(eU x).top=0:=by rw [← aC];exact gN x
  have h2:(AV.func (.func g) [] bs).top=0:=by simp only [AV.top,aY,hb];rfl
  exact ju.2 fun y hy=>by
    simp only [gx,List.mem_nil_iff,or_false] at hy
    rcases hy with rfl | rfl | rfl
    · exact h1
    · exact zK p
    · exact h2
/-- with: the first unit of the number is changed, wherever it stands. -/
theorem nh (g:Nat) (bs:List AV) (p:PId) (f:TUnit→TUnit) (hb:aY bs=0) : ∀ (u:TUnit),nU u≤2 ^ 19→(∀ x,x∈bB u→x.head.length<2 ^ 30∧x.words.length<2 ^ 30)→
    (∀ v,v∈bB u→gQ p v=true→kP 136 [eU v,aZ p, .func (.func g) [] bs] (eU (f v)))→kP 136 [eU u,aZ p, .func (.func g) [] bs] (eU (dq p f u)):=by
  refine TUnit.ind fun u ih hn ht hit=>?_
  have hA:=gP (g:=g) (bs:=bs) (p:=p) hb
  cases hi:gQ p u with
  | true=>rw [tj hi];exact hit u (dJ u) hi
  | false=>
    have hkl:=bq u
    rw [ni hi]
    by_cases h0:u.kids = []
    · have e:lI u (ed p f u.kids)=u:=by rw [h0,qt];cases u;simp only [TUnit.kids] at h0;subst h0;rfl
      rw [e]
      exact WT g bs p u (hA u) (by simp only [AV.top,aY,hb];rfl) hi (by rw [h0];rfl) (by rw [h0];rfl)
    · exact WS g bs p f u (hA u) (by simp only [AV.top,aY,hb];rfl) hi h0 (by omega) (fun k hk=>QW p k (by have:=fW hk;omega) fun x hx=>ht x (bC hk hx))
        fun k hk=>ih k hk (by have:=fW hk;omega) (fun x hx=>ht x (bC hk hx)) fun v hv=>hit v (bC hk hv)
theorem zA {bs:List AV} (rs:List Nat) (h0:fC rs 0=0) (hb:aY bs=0):kI (fC rs) (.ptr 0 0 0 0::bs) = .ptr 0 0 0 0::bs:=by
  simp only [kI,Ev.ren,eN _ _ hb,h0]
theorem zj {g:Nat} {bs:List AV} {u u2:TUnit} {n n2 c:Nat} {X X2:List AV} {A B:AObj} (hb:aY bs=0) (hX:aY X=0) (hX2:aY X2=0) (h:kD g (.ptr 0 0 0 0::bs) (ae [dm u (.slice 1 0 0 n (some c)),dn X]) (.tuple []) (ae [dm u2 (.slice 1 0 0 n2 (some c)),dn X2])) :
    kD g (.ptr 0 0 0 0::bs) (ae [dm u (.slice 3 0 0 n (some c)),A,B,dn X]) (.tuple []) (ae [dm u2 (.slice 3 0 0 n2 (some c)),A,B,dn X2]):=
  oe eP [0,3] h (zA _ rfl hb) rfl rfl ⟨⟨rfl,ng (by kernel_rfl)⟩,⟨rfl,by show aY X≤2;omega⟩,trivial⟩ ⟨⟨rfl,ng (by kernel_rfl)⟩,⟨rfl,by show aY X2≤2;omega⟩,trivial⟩
    (by show Nat.mx _ (aY bs)≤2;rw [hb];exact ng (by kernel_rfl)) (bN _) ⟨by kernel_rfl,by rw [tE hX];kernel_rfl,trivial⟩ ⟨by kernel_rfl,by kernel_rfl,trivial⟩
    (by show _=AHeap.put (AHeap.put _ _ _) _ (jC _ (.row 8 false 0 X2));rw [tE hX2];kernel_rfl)
theorem B1 {g:Nat} {bs:List AV} {u u2:TUnit} {n c:Nat} {X Y:List AV} {A B:AObj} (hb:aY bs=0) (hX:aY X=0) (h:kD g (.ptr 0 0 0 0::bs) (ae [dm u (.slice 1 0 0 n (some c)),dn X]) (.tuple []) (ae [dm u2 (.ls Y),dn X])) :
    kD g (.ptr 0 0 0 0::bs) (ae [dm u (.slice 3 0 0 n (some c)),A,B,dn X]) (.tuple []) (ae [dm u2 (.ls Y),A,B,dn X]):=
  oe eP [0,3] h (zA _ rfl hb) rfl rfl ⟨⟨rfl,ng (by kernel_rfl)⟩,⟨rfl,by show aY X≤2;omega⟩,trivial⟩ ⟨⟨rfl,ng (by kernel_rfl)⟩,⟨rfl,by show aY X≤2;omega⟩,trivial⟩
    (by show Nat.mx _ (aY bs)≤2;rw [hb];exact ng (by kernel_rfl)) (bN _) ⟨by kernel_rfl,by rw [tE hX];kernel_rfl,trivial⟩ ⟨by kernel_rfl,by kernel_rfl,trivial⟩
    (by show _=AHeap.put (AHeap.put _ _ _) _ (jC _ (.row 8 false 0 X));rw [tE hX];kernel_rfl)
theorem jl {g:Nat} {bs:List AV} {u u2:TUnit} {A B:AObj} {K K2:AV} (hb:aY bs=0) (h1:aY [.agg [iV u.act,iV u.item,iV u.n,iV u.kind, .str u.label, .ls (u.head.map aQ), .ls (u.words.map aQ),K]]=0) (h2:aY [.agg [iV u2.act,iV u2.item,iV u2.n,iV u2.kind, .str u2.label, .ls (u2.head.map aQ), .ls (u2.words.map aQ),K2]]=0) (h:kD g (.ptr 0 0 0 0::bs) (ae [dm u K]) (.tuple []) (ae [dm u2 K2])) :
    kD g (.ptr 0 0 0 0::bs) (ae [dm u K,A,B]) (.tuple []) (ae [dm u2 K2,A,B]):=
  fq eP 0 h1 h2 h (zA _ rfl hb) rfl rfl (by simp only [aY,AV.top,hb];rfl) rfl (by kernel_rfl) (by kernel_rfl)
/-- The unit is found; it has kids; a kid more is laid into its row, or into a new one. -/
theorem Kk (g:Nat) (bs:List AV) (p:PId) (u u2:TUnit) (n2:Nat) (Z:Nat→List AV) (hA:aY [eU u,aZ p, .func (.func g) [] bs]=0) (hp:(az u.act p.a && (az u.item p.i && az u.n p.n))=true) (hl:u.kids.length≤2 ^ 20) (hne:u.kids≠ []) (hn2:u2.kids.length=n2)
    (hdA : ∀ k,By (Nat.beq k 0) true→kD g (.ptr 0 0 0 0::bs) (ae [dm u (.slice 3 0 0 u.kids.length (some (u.kids.length+k))),tI p,zO,dn ((u.kids++List.replicate k bu).map aX)]) (.tuple []) (ae [dm u2 (.ls (u2.kids.map aX)),tI p,zO,dn ((u.kids++List.replicate k bu).map aX)]))
    (hdB : ∀ k,By (Nat.beq k 0) false→kD g (.ptr 0 0 0 0::bs) (ae [dm u (.slice 3 0 0 u.kids.length (some (u.kids.length+k))),tI p,zO,dn ((u.kids++List.replicate k bu).map aX)]) (.tuple []) (ae [dm u2 (.slice 3 0 0 n2 (some (u.kids.length+k))),tI p,zO,dn (u2.kids.map aX++Z k)])):kP 136 [eU u,aZ p, .func (.func g) [] bs] (eU u2):=by
  let q:=ab [iV u2.act,iV u2.item,iV u2.n,iV u2.kind,af u2.label,aU (u2.head.map aQ),aU (u2.words.map aQ),aU (u2.kids.map aX)];let q1:= [ab [iV u.act,iV u.item,iV u.n,iV u.kind,af u.label,aU (u.head.map aQ),aU (u.words.map aQ),aU (u.kids.map aX)]];let q2:= [iV p.a,iV p.i,iV p.n];let q3:= [ab [iV 0,iV 0,iV 0,iV 0,af [],aR,aR,aR]];exact b7 (ht:=(by assumption)) Tryz.func136 (Mg 5 (Mv (cA (d:=(Tryz.prog).underlying 23) (n:=3) (l:=(0,1)::(1,1)::(2,1):: []) (xs:= [iV u.act,iV u.item,iV u.n]) (ys:=q2) (H:=ae [aw 8 false 0 q1,aw 3 false 0 [ab q2],aw 8 false 0 q3]) rfl (bj (e:=az u.act p.a) rfl rfl rfl (bj (e:=az u.item p.i) rfl rfl rfl (da (e:=az u.n p.n) rfl rfl rfl rfl)))) (Mt hp (Mg 1 (Mq (Dw (u.kids) hne hl (aw 8 false 0 q1) (aw 3 false 0 [ab q2]) (aw 8 false 0 q3)) fun y0 hy0=>Mg 2 (Ms (y0.beq 0) (fun h1=>Me (hdA y0 h1) (Mg 1 (Mf (aW q)))) (fun h1=>Me (hdB y0 h1) (M2 (.fza 0 7 3 [3,6] (u2.kids.map aX)) (mu rt rt rt ti) (eR (ax (0)) (UX (xs:=List.map aX u2.kids) (ys:=Z y0) (n:=n2) (by (simp only [lM] <;> first | assumption | omega))) (aK gN (u2.kids))) (Mg 1 (Mf (aW q)))))))))))
/-- The unit is found; it has no kids; it gets one. -/
theorem Kw (g:Nat) (bs:List AV) (p:PId) (u u2:TUnit) (hA:aY [eU u,aZ p, .func (.func g) [] bs]=0) (hp:(az u.act p.a && (az u.item p.i && az u.n p.n))=true) (h0:u.kids = [])
    (hdN:kD g (.ptr 0 0 0 0::bs) (ae [dm u .nils,tI p,zO]) (.tuple []) (ae [dm u2 (.ls (u2.kids.map aX)),tI p,zO]))
    (hdP:kD g (.ptr 0 0 0 0::bs) (ae [dm u (.ps [] true),tI p,zO]) (.tuple []) (ae [dm u2 (.ls (u2.kids.map aX)),tI p,zO])):kP 136 [eU u,aZ p, .func (.func g) [] bs] (eU u2):=by
  obtain ⟨a,i,n,k,l,h,w,ks⟩:=u
  simp only [TUnit.kids] at h0
  subst h0
  let q:=ab [iV u2.act,iV u2.item,iV u2.n,iV u2.kind,af u2.label,aU (u2.head.map aQ),aU (u2.words.map aQ),aU (u2.kids.map aX)];let q1:= [iV p.a,iV p.i,iV p.n];exact b7 (ht:=(by assumption)) Tryz.func136 (Mg 5 (Mv (cA (d:=(Tryz.prog).underlying 23) (n:=3) (l:=(0,1)::(1,1)::(2,1):: []) (xs:= [iV (TUnit.mk a i n k l h w []).act,iV (TUnit.mk a i n k l h w []).item,iV (TUnit.mk a i n k l h w []).n]) (ys:=q1) (H:=ae [aw 8 false 0 [ab [iV (TUnit.mk a i n k l h w []).act,iV (TUnit.mk a i n k l h w []).item,iV (TUnit.mk a i n k l h w []).n,iV (TUnit.mk a i n k l h w []).kind,af l,aU (List.map aQ (TUnit.mk a i n k l h w []).head),aU (List.map aQ (TUnit.mk a i n k l h w []).words),aU []]],aw 3 false 0 [ab q1],aw 8 false 0 [ab [iV 0,iV 0,iV 0,iV 0,af [],aR,aR,aR]]]) rfl (bj (e:=az (TUnit.mk a i n k l h w []).act p.a) rfl rfl rfl (bj (e:=az (TUnit.mk a i n k l h w []).item p.i) rfl rfl rfl (da (e:=az (TUnit.mk a i n k l h w []).n p.n) rfl rfl rfl rfl)))) (Mt hp (Mg 1 (Mz 17 (fun (nz0:([]:List AV) = [])=>Mp (Gr) (Mg 2 (Me (hdN) (Mg 1 (Mf (aW q)))))) (Mp (Gp) (Mg 2 (Me (hdP) (Mg 1 (Mf (aW q)))))))))))
theorem jt {a b:List AV} (h1:aY a=0) (h2:aY b=0):aY (a++b)=0:=ju.2 fun x hx=>by
  rcases kO.1 hx with h | h
  · exact ju.1 h1 x h
  · exact ju.1 h2 x h
theorem QX (l:List TUnit):dh 8 (l.map aX)=true:=fa (fun u=>by cases u;rfl) l
theorem Ty (x:TUnit):dh 8 [eU x]=true:=by kernel_rfl
theorem MC (x:TUnit):(eU x).top=0:=by rw [← aC];exact gN x
theorem rC {i:Nat} {x:TUnit} {l:List AV} (h:aY l=0):aY (gv i (eU x) l)=0:=ju.2 fun y hy=>by
  unfold gv at hy
  rcases kO.1 hy with h1 | h1
  · exact ju.1 h y (rm h1)
  · rcases gx.1 h1 with rfl | h1
    · exact MC x
    · exact ju.1 h y (Ny h1)
theorem Kz (i:Nat) (x:TUnit) (l:List TUnit):(vw i x l).map aX=gv i (eU x) (l.map aX):=by
  unfold vw gv
  rw [mB,ic,List.map_take,List.map_drop,aC]
theorem Ks (i:Nat) (l:List TUnit):(l.eraseIdx i).map aX=(l.map aX).eraseIdx i:=by
  rw [AG,AG,mB,List.map_take,List.map_drop]
theorem BD {i:Nat} {x:TUnit} {l:List TUnit} (h:i≤l.length):(vw i x l).length=l.length+1:=by
  unfold vw;rw [lA,lC,rh,jW];omega
theorem FV (l:List TUnit) (k:Nat):(l++List.replicate k bu).map aX=l.map aX++List.replicate k (aX bu):=by rw [mB,List.map_replicate]
theorem lZ (k:Nat):aY (List.replicate k (aX bu))=0:=by rw [← List.map_replicate];exact aK gN _
/-- A kid is taken out. -/
theorem Nn (p:PId) (i:Nat) (u:TUnit) (hn:nU u≤2 ^ 19) (ht : ∀ x,x∈bB u→x.head.length<2 ^ 30∧x.words.length<2 ^ 30) (hv : ∀ v,v∈bB u→gQ p v=true→i<v.kids.length) :
    bw Tryz.prog G 136 [eU u,aZ p, .func (.func 239) [] [.pptr [.int .i64 (.ofNat i)] 0 0]] (eU (dq p (iK i) u)):=by
  refine nh _ _ p (iK i) rfl u hn ht fun v hm hid=>?_
  have hi:=hv v hm hid
  have hkl:=bq v
  have hvu:=dD hm
  have hl:v.kids.length≤2 ^ 20:=by omega
  refine TZ _ _ p v (iK i v) (v.kids.length - 1) (fun k=>zU::List.replicate k (aX bu)) (gP rfl v) hid hl (fun e=>by rw [e] at hi;cases hi) (by show (v.kids.eraseIdx i).length=_;rw [List.length_eraseIdx];simp [hi]) fun k=>?_
  have h:=QA (v.kids.map aX) (List.replicate k (aX bu)) v.kids.length i hi (eZ _) hl (QX _) (jt (aK gN _) (lZ k))
  rw [oL] at h
  have hT:aY ((v.kids.map aX).eraseIdx i++(zU::List.replicate k (aX bu)))=0:=jt (by rw [← Ks];exact aK gN _) (by show Nat.mx zU.top (aY _)=0;rw [lZ];rfl)
  rw [FV]
  show aB _ _ _ _ _ fun v1 h1=>v1 = .tuple []∧h1=ae [dm v (.slice 3 0 0 (v.kids.length - 1) (some (v.kids.length+k))),tI p,zO,dn ((v.kids.eraseIdx i).map aX++_)]
  rw [Ks]
  refine zj rfl (jt (aK gN _) (lZ k)) hT (Wy v v.kids.length _ i _ _ (jt (aK gN _) (lZ k)) hT hi hl ?_)
  exact fq eP 1 (jt (aK gN _) (lZ k)) hT h rfl rfl (by kernel_rfl) (by kernel_rfl) (by kernel_rfl) (by kernel_rfl) (by kernel_rfl)
theorem U2 (x:TUnit) (t:Bool) (off len c:Nat) (X:List AV):kD 237 [.ps [eU x] t, .slice 0 0 off len (some c)] (ae [dn X]) (.bool false) (ae [dn X]):=
  Av (tS:=25) (tR:=4) (e:=27) (n:=8) Tryz.func237 (by kernel_rfl) (by kernel_rfl) (by kernel_rfl) (by kernel_rfl) (by kernel_rfl) (by kernel_rfl) (qz _ _) (by kernel_rfl:(ae [dn X]).get 0=some (.row 8 false 0 X))
/-- A kid laid into a row that has room. -/
theorem Fz (L:List AV) (x:TUnit) (z:AV) (Z:List AV) (n k i:Nat) (hi:i≤n) (hn:L.length=n) (hs:n<2 ^ 20) (hk:Z.length=k) (hf:dh 8 L=true) (hT:aY (L++z::Z)=0):kD 138 [.slice 0 0 0 n (some (n+(k+1))),nV i, .ps [eU x] true] (ae [dn (L++z::Z)]) (.slice 0 0 0 (n+1) (some (n+(k+1)))) (ae [dn (gv i (eU x) L++Z)]):=by
  rcases jJ i n with h | h
  · exact Pe L Z (eU x) z true n k i h hn hs hk (Ty x) hf hT (U2 x true _ _ _ _)
  · obtain rfl:i=n:=by omega
    exact Ph L Z (eU x) z true i k hn hs hk (Ty x)
theorem Fk (L:List AV) (x:TUnit) (n i:Nat) (hi:i≤n) (hn:L.length=n) (hs:n<2 ^ 20) (hf:dh 8 L=true) (hT:aY L=0):kD 138 [.slice 0 0 0 n (some n),nV i, .ps [eU x] true] (ae [dn L]) (.ls (gv i (eU x) L)) (ae [dn L]):=by
  rcases jJ i n with h | h
  · refine Pd L (eU x) true n i h hn hs (Ty x) hf hT (ju.2 fun y hy=>?_) (rC hT)
    rcases kO.1 hy with h1 | h1
    · exact ju.1 hT y (rm h1)
    · rcases gx.1 h1 with rfl | h1
      · exact MC x
      · rw [(List.mem_replicate.1 h1).2];rfl
  · obtain rfl:i=n:=by omega
    exact Pg L (eU x) true i hn hs (Ty x) hT (rC hT)
/-- A kid is laid in. -/
theorem Nl (p:PId) (i:Nat) (x u:TUnit) (hn:nU u≤2 ^ 19) (ht : ∀ x,x∈bB u→x.head.length<2 ^ 30∧x.words.length<2 ^ 30) (hv : ∀ v,v∈bB u→gQ p v=true→i≤v.kids.length) :
    bw Tryz.prog G 136 [eU u,aZ p, .func (.func 137) [] [.pptr [.int .i64 (.ofNat i)] 0 0, .pptr [eU x] 0 0]] (eU (dq p (dN i x) u)):=by
  have hb:aY [.pptr [.int .i64 (.ofNat i)] 0 0, .pptr [eU x] 0 0]=0:=by kernel_rfl
  refine nh _ _ p (dN i x) hb u hn ht fun v hm hid=>?_
  have hi:=hv v hm hid
  have hkl:=bq v
  have hvu:=dD hm
  have hl:v.kids.length<2 ^ 20:=by omega
  have hK:=aK gN v.kids
  by_cases h0:v.kids = []
  · rw [h0] at hi
    obtain rfl:i=0:=by simpa using hi
    have e:(dN 0 x v).kids = [x]:=by show vw 0 x v.kids = [x];rw [h0];rfl
    have e2:(dN 0 x v).kids.map aX = [eU x]:=by rw [e,ic,aC];rfl
    refine Kw _ _ p v (dN 0 x v) (gP hb v) hid h0 ?_ ?_
    · rw [e2];exact jl (u2:=dN 0 x v) hb (by kernel_rfl) (by kernel_rfl) (Vy v x [eU x] (Fj x true))
    · rw [e2];exact jl (u2:=dN 0 x v) hb (by kernel_rfl) (by kernel_rfl) (Vv v x [eU x] (Fx x true))
  · have e2:(dN i x v).kids.map aX=gv i (eU x) (v.kids.map aX):=Kz i x v.kids
    refine Kk _ _ p v (dN i x v) (v.kids.length+1) (fun k=>List.replicate (k - 1) (aX bu)) (gP hb v) hid (by omega) h0 (BD hi) (fun k hk=>?_) fun k hk=>?_
    · obtain rfl:k=0:=j1 hk
      rw [e2,FV,List.replicate_zero,eE]
      refine B1 (u2:=dN i x v) hb hK (Va v x v.kids.length _ i _ _ hK ?_)
      exact fq eP 1 hK hK (Fk (v.kids.map aX) x v.kids.length i hi (eZ _) hl (QX _) hK) rfl rfl (by kernel_rfl) (by kernel_rfl) (by kernel_rfl) (by kernel_rfl) (by kernel_rfl)
    · obtain ⟨j,rfl⟩ : ∃ j,k=j+1:=⟨k - 1,by have:=Nat.ne_of_beq_eq_false hk;omega⟩
      rw [e2,FV,show j+1 - 1=j from rfl,DG]
      have hT:aY (v.kids.map aX++aX bu::List.replicate j (aX bu))=0:=by rw [← DG];exact jt hK (lZ _)
      have hT2:aY (gv i (eU x) (v.kids.map aX)++List.replicate j (aX bu))=0:=jt (rC hK) (lZ _)
      refine zj (u2:=dN i x v) hb hT hT2 (Vb v x v.kids.length _ i _ _ hT hT2 ?_)
      exact fq eP 1 hT hT2 (Fz (v.kids.map aX) x (aX bu) (List.replicate j (aX bu)) v.kids.length j i hi (eZ _) hl (oL ..) (QX _) hT) rfl rfl (by kernel_rfl) (by kernel_rfl) (by kernel_rfl) (by kernel_rfl) (by kernel_rfl)
/-- A kid is laid in. -/
theorem Nh (p:PId) (i:Nat) (x u:TUnit) (hn:nU u≤2 ^ 19) (ht : ∀ x,x∈bB u→x.head.length<2 ^ 30∧x.words.length<2 ^ 30) (hv : ∀ v,v∈bB u→gQ p v=true→i≤v.kids.length) :
    bw Tryz.prog G 136 [eU u,aZ p, .func (.func 148) [] [.pptr [.int .i64 (.ofNat i)] 0 0, .pptr [eU x] 0 0]] (eU (dq p (dN i x) u)):=by
  have hb:aY [.pptr [.int .i64 (.ofNat i)] 0 0, .pptr [eU x] 0 0]=0:=by kernel_rfl
  refine nh _ _ p (dN i x) hb u hn ht fun v hm hid=>?_
  have hi:=hv v hm hid
  have hkl:=bq v
  have hvu:=dD hm
  have hl:v.kids.length<2 ^ 20:=by omega
  have hK:=aK gN v.kids
  by_cases h0:v.kids = []
  · rw [h0] at hi
    obtain rfl:i=0:=by simpa using hi
    have e:(dN 0 x v).kids = [x]:=by show vw 0 x v.kids = [x];rw [h0];rfl
    have e2:(dN 0 x v).kids.map aX = [eU x]:=by rw [e,ic,aC];rfl
    refine Kw _ _ p v (dN 0 x v) (gP hb v) hid h0 ?_ ?_
    · rw [e2];exact jl (u2:=dN 0 x v) hb (by kernel_rfl) (by kernel_rfl) (VX v x [eU x] (Fj x true))
    · rw [e2];exact jl (u2:=dN 0 x v) hb (by kernel_rfl) (by kernel_rfl) (VZ v x [eU x] (Fx x true))
  · have e2:(dN i x v).kids.map aX=gv i (eU x) (v.kids.map aX):=Kz i x v.kids
    refine Kk _ _ p v (dN i x v) (v.kids.length+1) (fun k=>List.replicate (k - 1) (aX bu)) (gP hb v) hid (by omega) h0 (BD hi) (fun k hk=>?_) fun k hk=>?_
    · obtain rfl:k=0:=j1 hk
      rw [e2,FV,List.replicate_zero,eE]
      refine B1 (u2:=dN i x v) hb hK (VW v x v.kids.length _ i _ _ hK ?_)
      exact fq eP 1 hK hK (Fk (v.kids.map aX) x v.kids.length i hi (eZ _) hl (QX _) hK) rfl rfl (by kernel_rfl) (by kernel_rfl) (by kernel_rfl) (by kernel_rfl) (by kernel_rfl)
    · obtain ⟨j,rfl⟩ : ∃ j,k=j+1:=⟨k - 1,by have:=Nat.ne_of_beq_eq_false hk;omega⟩
      rw [e2,FV,show j+1 - 1=j from rfl,DG]
      have hT:aY (v.kids.map aX++aX bu::List.replicate j (aX bu))=0:=by rw [← DG];exact jt hK (lZ _)
      have hT2:aY (gv i (eU x) (v.kids.map aX)++List.replicate j (aX bu))=0:=jt (rC hK) (lZ _)
      refine zj (u2:=dN i x v) hb hT hT2 (VJ v x v.kids.length _ i _ _ hT hT2 ?_)
      exact fq eP 1 hT hT2 (Fz (v.kids.map aX) x (aX bu) (List.replicate j (aX bu)) v.kids.length j i hi (eZ _) hl (oL ..) (QX _) hT) rfl rfl (by kernel_rfl) (by kernel_rfl) (by kernel_rfl) (by kernel_rfl) (by kernel_rfl)
theorem Nd (p:PId) (l:List PWord) (u:TUnit) (hn:nU u≤2 ^ 19) (ht : ∀ x,x∈bB u→x.head.length<2 ^ 30∧x.words.length<2 ^ 30) :
    kP 136 [eU u,aZ p, .func (.func 141) [] [.pptr [.ls (l.map aQ)] 0 0]] (eU (dq p (kT l) u)):=by
  have hb:aY [.pptr [.ls (l.map aQ)] 0 0]=0:=by kernel_rfl
  refine nh _ _ p (kT l) hb u hn ht fun v hm hid=>?_
  have hkl:=bq v
  have hvu:=dD hm
  exact wB _ _ p v ((kT l) v) (gP hb v) hid (by omega) (jl hb (by kernel_rfl) (by kernel_rfl) (Ww v l))
theorem Ng (p:PId) (l:List PWord) (u:TUnit) (hn:nU u≤2 ^ 19) (ht : ∀ x,x∈bB u→x.head.length<2 ^ 30∧x.words.length<2 ^ 30) :
    kP 136 [eU u,aZ p, .func (.func 143) [] [.pptr [.ls (l.map aQ)] 0 0]] (eU (dq p (kT l) u)):=by
  have hb:aY [.pptr [.ls (l.map aQ)] 0 0]=0:=by kernel_rfl
  refine nh _ _ p (kT l) hb u hn ht fun v hm hid=>?_
  have hkl:=bq v
  have hvu:=dD hm
  exact wB _ _ p v ((kT l) v) (gP hb v) hid (by omega) (jl hb (by kernel_rfl) (by kernel_rfl) (WD v l))
theorem Nm (p:PId) (l:List PWord) (u:TUnit) (hn:nU u≤2 ^ 19) (ht : ∀ x,x∈bB u→x.head.length<2 ^ 30∧x.words.length<2 ^ 30) :
    kP 136 [eU u,aZ p, .func (.func 145) [] [.pptr [.ls (l.map aQ)] 0 0]] (eU (dq p (yu l) u)):=by
  have hb:aY [.pptr [.ls (l.map aQ)] 0 0]=0:=by kernel_rfl
  refine nh _ _ p (yu l) hb u hn ht fun v hm hid=>?_
  have hkl:=bq v
  have hvu:=dD hm
  exact wB _ _ p v ((yu l) v) (gP hb v) hid (by omega) (jl hb (by kernel_rfl) (by kernel_rfl) (XV v l))
theorem Nf (p:PId) (d:PDeed) (u:TUnit) (hn:nU u≤2 ^ 19) (ht : ∀ x,x∈bB u→x.head.length<2 ^ 30∧x.words.length<2 ^ 30) :
    kP 136 [eU u,aZ p, .func (.func 147) [] [.pptr [bc d] 0 0]] (eU (dq p (oK d.it.label) u)):=by
  have hb:aY [.pptr [bc d] 0 0]=0:=by kernel_rfl
  refine nh _ _ p (oK d.it.label) hb u hn ht fun v hm hid=>?_
  have hkl:=bq v
  have hvu:=dD hm
  exact wB _ _ p v ((oK d.it.label) v) (gP hb v) hid (by omega) (jl hb (by kernel_rfl) (by kernel_rfl) (WA v d))
end Go.Proofs.YtefibmgdgameaaaGreatDoor
