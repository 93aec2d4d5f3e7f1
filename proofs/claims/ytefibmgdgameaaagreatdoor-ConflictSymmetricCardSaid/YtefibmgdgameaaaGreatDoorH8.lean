/- Functions walked: what each of them answers, for the law of acts that conflict: part 8. Conditions: those that each theorem names. -/
import Derived.Test.YtefibmgdgameaaaGreatDoorH7
namespace Go.Proofs.YtefibmgdgameaaaGreatDoor
open Go Go.Ev
structure OkL (u:TUnit) (l:List PAct):Prop where
  u:OkB u
  n:l.length<2 ^ 10
  a : ∀ a,a∈l→OkA a
theorem ke {u:TUnit} {l:List PAct} (h:OkL u l) {a b:Nat} (ha:a<l.length) (hb:b<l.length):kP 32 [eU u,au (gD l a),au (gD l b)] (eU (ko u (gD l a) (gD l b))):=M5 u _ _ h.u (h.a _ (gy ha)) (h.a _ (gy hb))
theorem GB {u:TUnit} {a b:PAct} (h:OkB u) (ha:OkA a) (hb:OkA b):OkB (ko u a b):=Dm (Dm h ha) hb
theorem CC {u:TUnit} {l:List PAct} (h:OkL u l) {a b:Nat} (ha:a<l.length) (hb:b<l.length):kP 31 [eU (ko u (gD l a) (gD l b)),eU (ko u (gD l b) (gD l a))] (.bool (y7 (ko u (gD l a) (gD l b)) (ko u (gD l b) (gD l a)))):=
  Nt _ (EN (GB h.u (h.a _ (gy ha)) (h.a _ (gy hb)))) _ (EN (GB h.u (h.a _ (gy hb)) (h.a _ (gy ha))))
theorem KL {u:TUnit} {l:List PAct} {a b:Nat} (h:bG u l a b=false):y7 (ko u (gD l a) (gD l b)) (ko u (gD l b) (gD l a))=true:=by
  unfold bG iT at h
  simp_all
theorem KI {u:TUnit} {l:List PAct} {a b:Nat} (h:bG u l a b=true):y7 (ko u (gD l a) (gD l b)) (ko u (gD l b) (gD l a))=false:=by
  unfold bG iT at h
  simp_all
theorem Bv (u:TUnit) (l:List PAct) (hL:OkL u l) (a b:Nat) (ha:a<l.length) (hb:b<l.length) (hc:bG u l a b=false):kD 30 [nV a,nV b, .ptr 0 0 0 0, .ptr 1 0 0 0, .ptr 2 0 0 0] (ae [uO u,J6 l,UY]) (.tuple []) (ae [uO u,J6 l,UY]):=by
  have h1:=ke hL ha hb
  have h2:=ke hL hb ha
  have h3:=CC hL ha hb
  rw [KL hc] at h3
  exact gI Tryz.func30 (fun qq=>Mg 2 (Mx (cj au (by omega:a<(l).length)) (Mg 2 (Mx (cj au (by omega:b<(l).length)) (Mg 0 (Mp (h1) (Mg 2 (Mx (cj au (by omega:b<(l).length)) (Mg 2 (Mx (cj au (by omega:a<(l).length)) (Mg 0 (Mp (h2) (Mp (h3) (Mg 1 (Mf qq)))))))))))))))
theorem Of (u:TUnit) (l:List PAct) (hL:OkL u l) (a b:Nat) (ha:a<l.length) (hb:b<l.length) (hc:By (bG u l a b) false):kD 30 [nV a,nV b, .ptr 0 0 0 0, .ptr 1 0 0 0, .ptr 2 0 0 0] (ae [uO u,J6 l,UY]) (.tuple []) (ae [uO u,J6 l,UY]):=Bv u l hL a b ha hb hc
theorem Lp (u:TUnit) (l:List PAct) (hL:OkL u l) (a b:Nat) (ha:a<l.length) (hb:b<l.length) (hc:By (bG u l a b) true):kD 30 [nV a,nV b, .ptr 0 0 0 0, .ptr 1 0 0 0, .ptr 2 0 0 0] (ae [uO u,J6 l,UY]) (.tuple []) (ae [uO u,J6 l,MT 0 1,Bx 0 [⟨Int.ofNat a,Int.ofNat b⟩]]):=by
  have h1:=ke hL ha hb
  have h2:=ke hL hb ha
  have h3:=CC hL ha hb
  rw [KI hc] at h3
  exact gI Tryz.func30 (fun qq=>Mg 2 (Mx (cj au (by omega:a<(l).length)) (Mg 2 (Mx (cj au (by omega:b<(l).length)) (Mg 0 (Mp (h1) (Mg 2 (Mx (cj au (by omega:b<(l).length)) (Mg 2 (Mx (cj au (by omega:a<(l).length)) (Mg 0 (Mp (h2) (Mp (h3) (Mg 8 (Mf qq)))))))))))))))
theorem Og (u:TUnit) (l:List PAct) (hL:OkL u l) (a b:Nat) (ha:a<l.length) (hb:b<l.length) (ep n:Nat) (out:List PPair) (hc:By (bG u l a b) false):kD 30 [nV a,nV b, .ptr 0 0 0 0, .ptr 1 0 0 0, .ptr 2 0 0 0] (ae [uO u,J6 l,MT ep n,Bx ep out]) (.tuple []) (ae [uO u,J6 l,MT ep n,Bx ep out]):=by
  have h1:=ke hL ha hb
  have h2:=ke hL hb ha
  have h3:=CC hL ha hb
  rw [KL hc] at h3
  exact gI Tryz.func30 (fun qq=>Mg 2 (Mx (cj au (by omega:a<(l).length)) (Mg 2 (Mx (cj au (by omega:b<(l).length)) (Mg 0 (Mp (h1) (Mg 2 (Mx (cj au (by omega:b<(l).length)) (Mg 2 (Mx (cj au (by omega:a<(l).length)) (Mg 0 (Mp (h2) (Mp (h3) (Mg 1 (Mf qq)))))))))))))))
theorem Oh (u:TUnit) (l:List PAct) (hL:OkL u l) (a b:Nat) (ha:a<l.length) (hb:b<l.length) (ep n:Nat) (out:List PPair) (hn:n=out.length) (hl:out.length≤2 ^ 20) (hc:By (bG u l a b) true):kD 30 [nV a,nV b, .ptr 0 0 0 0, .ptr 1 0 0 0, .ptr 2 0 0 0] (ae [uO u,J6 l,MT ep n,Bx ep out]) (.tuple []) (ae [uO u,J6 l,MT (ep+1) (n+1),Bx (ep+1) (out++ [⟨Int.ofNat a,Int.ofNat b⟩])]):=by
  have h1:=ke hL ha hb
  have h2:=ke hL hb ha
  have h3:=CC hL ha hb
  rw [KI hc] at h3
  exact gI Tryz.func30 (fun qq=>Mg 2 (Mx (cj au (by omega:a<(l).length)) (Mg 2 (Mx (cj au (by omega:b<(l).length)) (Mg 0 (Mp (h1) (Mg 2 (Mx (cj au (by omega:b<(l).length)) (Mg 2 (Mx (cj au (by omega:a<(l).length)) (Mg 0 (Mp (h2) (Mp (h3) (Mg 6 (M1 .app (eR (ax (ep)) (by simp_all:n=(out.map bY).length) (by (refine aA (m:=2 ^ 21) ?_ ?_ ?_ <;> (try simp only [lC,lN]) <;> omega):small (n+1) 16=true)) (M1 (.obj 3 (aw 2 true (ep+1) ((out++ [PPair.mk (Int.ofNat a) (Int.ofNat b)]).map bY))) (congrArg (aw 2 true (ep+1)) (iI (f:=bY) (l:=out) (ws:= [PPair.mk (Int.ofNat a) (Int.ofNat b)]))) (Mg 0 (Mf qq))))))))))))))))))
theorem JF {C:Nat→Nat→Bool} {n a b:Nat} (h:fx C n a b = []) (hb:b<n):C a b=false:=by
  cases q:C a b with
  | false=>rfl
  | true=>grind [rR]
def Ez (u:TUnit) (l:List PAct) (x0:Nat × List PAct × Unit):Prop:=(l).drop x0.1=x0.2.1∧jn (bG u l) l.length (l.length - x0.2.1.length) x0.2.1.length = []
noncomputable def uM (u:TUnit) (l:List PAct) (x0:Nat × List PAct × Unit):List AV × List AObj:=([AV.ls (l.map au),AV.func (Fn.func 30) [] [AV.ptr 0 0 0 0,AV.ptr 1 0 0 0,AV.ptr 2 0 0 0],nV l.length,nV x0.1], [AObj.row 8 false 0 [AV.agg [iV u.act,iV u.item,iV u.n,iV u.kind,AV.str u.label,AV.ls (u.head.map aQ),AV.ls (u.words.map aQ),AV.ls (u.kids.map aX)]],AObj.row 1 false 0 [AV.ls (l.map au)],AObj.row 1 false 0 [AV.nils]])
def LZ (u:TUnit) (l:List PAct) (x0:Nat × List PAct × Unit) (x1:Nat):Prop:=fx (bG u l) l.length x0.1 x1 = []∧x1≤l.length
noncomputable def BQ (u:TUnit) (l:List PAct) (x0:Nat × List PAct × Unit) (x1:Nat):List AV × List AObj:=([AV.ls (l.map au),AV.func (Fn.func 30) [] [AV.ptr 0 0 0 0,AV.ptr 1 0 0 0,AV.ptr 2 0 0 0],nV x0.1,nV x1,nV l.length,nV x0.1], [AObj.row 8 false 0 [AV.agg [iV u.act,iV u.item,iV u.n,iV u.kind,AV.str u.label,AV.ls (u.head.map aQ),AV.ls (u.words.map aQ),AV.ls (u.kids.map aX)]],AObj.row 1 false 0 [AV.ls (l.map au)],AObj.row 1 false 0 [AV.nils]])
theorem We (u:TUnit) (l:List PAct) (hL:OkL u l) (he:jQ u l = []):kD 29 [.ls (l.map au), .func (.func 30) [] [.ptr 0 0 0 0, .ptr 1 0 0 0, .ptr 2 0 0 0]] (ae [uO u,J6 l,UY]) (.tuple []) (ae [uO u,J6 l,UY]):=by
  have hn:=hL.n
  have hc:=Bv u l hL
  have he:jn (bG u l) l.length (l.length - l.length) l.length = []:=by rw [Nat.sub_self];exact he
  exact gI Tryz.func29 (fun qq=>Mg 1 (Ml 7 (Le.len (f:=au) (l:=l)) (Mg 0 (ML (Nat × List PAct × Unit) [0,1,7,8] (uM u l) (Ez u l) (fun x=>x.2.1.length) (0,l,()) (ax ((uM u l) (0,l,()))) (et (rfl:List.drop 0 (l)=l) (by omega:(jn (bG u l) l.length (l.length - l.length) l.length = []))) (fun x0 hx0 nx0=>Mc x0.2.1 (fun hr0=>have lt0:=ai hx0.1 hr0;(have hj0:=aF (J:=fun r x=>jn (bG u l) l.length (l.length - r.length) r.length = []) (a:=x0.2.2) hr0 hx0.2;(Mg 0 (Mh lt0 (Mf qq))))) (fun w0 r0 hr0=>have lt0:=aD hx0.1 hr0;(have glt0:=aJ lt0;(have nt0:=ah (enc:=au) hx0.1 hr0;(have hj0:=aE (J:=fun r x=>jn (bG u l) l.length (l.length - r.length) r.length = []) (a:=x0.2.2) hr0 hx0.2;(have q0:x0.1<l.length:=(yf (hx0.1.trans hr0)).1;(Mg 0 (Mt lt0 (Mg 3 (Ml 12 (bb (x:=Int.ofNat x0.1+(1:Int)) (n:=x0.1+(1:Nat)) cq) (Mg 0 (ML (Nat) [0,1,4,5,7,8] (BQ u l x0) (LZ u l x0) (fun b=>l.length - b) (x0.1+1) (ax ((BQ u l x0) (x0.1+1))) (by exact ⟨by rw [← HH (hx0.1.trans hr0)];omega,by omega⟩:fx (bG u l) l.length x0.1 (x0.1+(1:Nat)) = []∧x0.1+(1:Nat)≤l.length) (fun x1 hx1 nx1=>have hx1:fx (bG u l) l.length x0.1 x1 = []∧x1≤l.length:=hx1;(Mg 2 (Ml 15 (Le.len (f:=au) (l:=l)) (Mg 0 (Mb (ao (Int.ofNat x1) (Int.ofNat l.length)) (fun h2=>have gh2:=aJ h2;(Mg 2 (Me (hc (x0.1) x1 q0 (by simp_all) (by grind [JF])) (Mg 1 (Ml 18 (bb (x:=Int.ofNat x1+(1:Int)) (n:=x1+(1:Nat)) cq) (Mg 0 (Mf (nx1 (x1+1) (by grind [rS, JF]:fx (bG u l) l.length x0.1 (x1+(1:Nat)) = []∧x1+(1:Nat)≤l.length) (by grind:l.length - (x1+(1:Nat))<l.length - x1))))))))) (fun h2=>have gh2:=av h2;(Mg 0 (Ml 23 (bb (x:=Int.ofNat x0.1+(1:Int)) (n:=x0.1+(1:Nat)) cq) (Mg 0 (Mf (nx0 (x0.1+1,r0,()) (et (ay hx0.1 hr0) (by (rw [← yp (b:=x1) (hx0.1.trans hr0) (by simp_all)];simp_all):(jn (bG u l) l.length (l.length - r0.length) r0.length = []))) (aO hr0))))))))))))))))))))))))))))
def EU (u:TUnit) (l:List PAct) (Q:List PPair) (x0:Nat × List PAct × Unit):Prop:=(l).drop x0.1=x0.2.1∧Q=jn (bG u l) l.length (l.length - x0.2.1.length) x0.2.1.length
noncomputable def uL (u:TUnit) (l:List PAct) (Q:List PPair) (x0:Nat × List PAct × Unit):List AV × List AObj:=([AV.ls (l.map au),AV.func (Fn.func 30) [] [AV.ptr 0 0 0 0,AV.ptr 1 0 0 0,AV.ptr 2 0 0 0],nV l.length,nV x0.1], [AObj.row 8 false 0 [AV.agg [iV u.act,iV u.item,iV u.n,iV u.kind,AV.str u.label,AV.ls (u.head.map aQ),AV.ls (u.words.map aQ),AV.ls (u.kids.map aX)]],AObj.row 1 false 0 [AV.ls (l.map au)],AObj.row 1 false 0 [AV.nils]])
def EY (u:TUnit) (l:List PAct) (Q:List PPair) (x0:Nat × List PAct × Nat × Nat × List PPair):Prop:=(l).drop x0.1=x0.2.1∧x0.2.2.2.1=x0.2.2.2.2.length∧Q=x0.2.2.2.2++jn (bG u l) l.length (l.length - x0.2.1.length) x0.2.1.length
noncomputable def EV (u:TUnit) (l:List PAct) (Q:List PPair) (x0:Nat × List PAct × Nat × Nat × List PPair):List AV × List AObj:=([AV.ls (l.map au),AV.func (Fn.func 30) [] [AV.ptr 0 0 0 0,AV.ptr 1 0 0 0,AV.ptr 2 0 0 0],nV l.length,nV x0.1], [AObj.row 8 false 0 [AV.agg [iV u.act,iV u.item,iV u.n,iV u.kind,AV.str u.label,AV.ls (u.head.map aQ),AV.ls (u.words.map aQ),AV.ls (u.kids.map aX)]],AObj.row 1 false 0 [AV.ls (l.map au)],AObj.row 1 false 0 [AV.slice 3 x0.2.2.1 0 x0.2.2.2.1 none],AObj.row 2 true x0.2.2.1 (x0.2.2.2.2.map bY)])
def EK (u:TUnit) (l:List PAct) (Q:List PPair) (x0:Nat × List PAct × Unit) (x1:Nat × Unit):Prop:=Q=fx (bG u l) l.length x0.1 x1.1∧x1.1≤l.length
noncomputable def uI (u:TUnit) (l:List PAct) (Q:List PPair) (x0:Nat × List PAct × Unit) (x1:Nat × Unit):List AV × List AObj:=([AV.ls (l.map au),AV.func (Fn.func 30) [] [AV.ptr 0 0 0 0,AV.ptr 1 0 0 0,AV.ptr 2 0 0 0],nV x0.1,nV x1.1,nV l.length,nV x0.1], [AObj.row 8 false 0 [AV.agg [iV u.act,iV u.item,iV u.n,iV u.kind,AV.str u.label,AV.ls (u.head.map aQ),AV.ls (u.words.map aQ),AV.ls (u.kids.map aX)]],AObj.row 1 false 0 [AV.ls (l.map au)],AObj.row 1 false 0 [AV.nils]])
def EJ (u:TUnit) (l:List PAct) (Q:List PPair) (x0:Nat × List PAct × Unit) (x1:Nat × Nat × Nat × List PPair):Prop:=x1.2.2.1=x1.2.2.2.length∧Q=x1.2.2.2++fx (bG u l) l.length x0.1 x1.1∧x1.1≤l.length
noncomputable def EW (u:TUnit) (l:List PAct) (Q:List PPair) (x0:Nat × List PAct × Unit) (x1:Nat × Nat × Nat × List PPair):List AV × List AObj:=([AV.ls (l.map au),AV.func (Fn.func 30) [] [AV.ptr 0 0 0 0,AV.ptr 1 0 0 0,AV.ptr 2 0 0 0],nV x0.1,nV x1.1,nV l.length,nV x0.1], [AObj.row 8 false 0 [AV.agg [iV u.act,iV u.item,iV u.n,iV u.kind,AV.str u.label,AV.ls (u.head.map aQ),AV.ls (u.words.map aQ),AV.ls (u.kids.map aX)]],AObj.row 1 false 0 [AV.ls (l.map au)],AObj.row 1 false 0 [AV.slice 3 x1.2.1 0 x1.2.2.1 none],AObj.row 2 true x1.2.1 (x1.2.2.2.map bY)])
def EX (u:TUnit) (l:List PAct) (Q:List PPair) (x0:Nat × List PAct × Nat × Nat × List PPair) (x1:Nat × Unit):Prop:=Q=fx (bG u l) l.length x0.1 x1.1∧x1.1≤l.length
noncomputable def EZ (u:TUnit) (l:List PAct) (Q:List PPair) (x0:Nat × List PAct × Nat × Nat × List PPair) (x1:Nat × Unit):List AV × List AObj:=([AV.ls (l.map au),AV.func (Fn.func 30) [] [AV.ptr 0 0 0 0,AV.ptr 1 0 0 0,AV.ptr 2 0 0 0],nV x0.1,nV x1.1,nV l.length,nV x0.1], [AObj.row 8 false 0 [AV.agg [iV u.act,iV u.item,iV u.n,iV u.kind,AV.str u.label,AV.ls (u.head.map aQ),AV.ls (u.words.map aQ),AV.ls (u.kids.map aX)]],AObj.row 1 false 0 [AV.ls (l.map au)],AObj.row 1 false 0 [AV.nils]])
def EQ (u:TUnit) (l:List PAct) (Q:List PPair) (x0:Nat × List PAct × Nat × Nat × List PPair) (x1:Nat × Nat × Nat × List PPair):Prop:=x1.2.2.1=x1.2.2.2.length∧Q=x1.2.2.2++fx (bG u l) l.length x0.1 x1.1∧x1.1≤l.length
noncomputable def uH (u:TUnit) (l:List PAct) (Q:List PPair) (x0:Nat × List PAct × Nat × Nat × List PPair) (x1:Nat × Nat × Nat × List PPair):List AV × List AObj:=([AV.ls (l.map au),AV.func (Fn.func 30) [] [AV.ptr 0 0 0 0,AV.ptr 1 0 0 0,AV.ptr 2 0 0 0],nV x0.1,nV x1.1,nV l.length,nV x0.1], [AObj.row 8 false 0 [AV.agg [iV u.act,iV u.item,iV u.n,iV u.kind,AV.str u.label,AV.ls (u.head.map aQ),AV.ls (u.words.map aQ),AV.ls (u.kids.map aX)]],AObj.row 1 false 0 [AV.ls (l.map au)],AObj.row 1 false 0 [AV.slice 3 x1.2.1 0 x1.2.2.1 none],AObj.row 2 true x1.2.1 (x1.2.2.2.map bY)])
theorem Wd (u:TUnit) (l:List PAct) (hL:OkL u l) (he:jQ u l≠ []):kC 29 [.ls (l.map au), .func (.func 30) [] [.ptr 0 0 0 0, .ptr 1 0 0 0, .ptr 2 0 0 0]] (ae [uO u,J6 l,UY]) (fun v h=>∃ y:Nat × Nat × List PPair,(y.2.1=y.2.2.length∧y.2.2=jQ u l)∧v = .tuple []∧h=ae [uO u,J6 l,MT y.1 y.2.1,Bx y.1 y.2.2]):=by
  have hn:=hL.n
  have k1:=Of u l hL
  have k2:=Lp u l hL
  have k3:=Og u l hL
  have k4:=Oh u l hL
  have hlen:(jQ u l).length≤2 ^ 20:=bL (zL _ _ _ _) (by
    have:l.length * l.length≤2 ^ 10 * 2 ^ 10:=AL (by omega) (by omega)
    omega)
  have e0:jQ u l=jn (bG u l) l.length (l.length - l.length) l.length:=by rw [Nat.sub_self];rfl
  obtain ⟨Q,hQ⟩ : ∃ Q,Q=jQ u l:=⟨_,rfl⟩
  rw [← hQ] at he hlen e0 ⊢
  exact vT Tryz.func29 (fun qq=>Mg 1 (Ml 7 (Le.len (f:=au) (l:=l)) (Mg 0 (MM (Nat × List PAct × Unit) (Nat × List PAct × Nat × Nat × List PPair) [0,1,7,8] (uL u l Q) (EV u l Q) (EU u l Q) (EY u l Q) (fun x=>x.2.1.length) (fun x=>x.2.1.length) (.inl (0,l,())) (ax ((uL u l Q) (0,l,()))) (et (rfl:List.drop 0 (l)=l) (by omega:(Q=jn (bG u l) l.length (l.length - l.length) l.length))) (fun x0 hx0 nx0=>Mc x0.2.1 (fun hr0=>have lt0:=ai hx0.1 hr0;(have hj0:=aF (J:=fun r x=>Q=jn (bG u l) l.length (l.length - r.length) r.length) (a:=x0.2.2) hr0 hx0.2;(Mg 0 (Mh lt0 (Mw .abs (by exact (he (hj0.trans rfl)).elim:False)))))) (fun w0 r0 hr0=>have lt0:=aD hx0.1 hr0;(have glt0:=aJ lt0;(have nt0:=ah (enc:=au) hx0.1 hr0;(have hj0:=aE (J:=fun r x=>Q=jn (bG u l) l.length (l.length - r.length) r.length) (a:=x0.2.2) hr0 hx0.2;(have q0:x0.1<l.length:=(yf (hx0.1.trans hr0)).1;(Mg 0 (Mt lt0 (Mg 3 (Ml 12 (bb (x:=Int.ofNat x0.1+(1:Int)) (n:=x0.1+(1:Nat)) cq) (Mg 0 (MM (Nat × Unit) (Nat × Nat × Nat × List PPair) [0,1,4,5,7,8] (uI u l Q x0) (EW u l Q x0) (EK u l Q x0) (EJ u l Q x0) (fun x=>l.length - x.1) (fun x=>l.length - x.1) (.inl ((x0.1+1,()))) (ax ((uI u l Q x0) ((x0.1+1,())))) (by exact ⟨hj0.trans (HH (hx0.1.trans hr0)),by omega⟩:Q=fx (bG u l) l.length x0.1 (x0.1+(1:Nat))∧x0.1+(1:Nat)≤l.length) (fun x1 hx1 nx1=>have hx1:Q=fx (bG u l) l.length x0.1 x1.1∧x1.1≤l.length:=hx1;(Mg 2 (Ml 15 (Le.len (f:=au) (l:=l)) (Mg 0 (Mb (ao (Int.ofNat x1.1) (Int.ofNat l.length)) (fun h2=>have gh2:=aJ h2;(Ms (bG u l x0.1 x1.1) (fun h3=>Mg 2 (Me (k2 (x0.1) (x1.1) q0 (by simp_all) h3) (Mg 1 (Ml 18 (bb (x:=Int.ofNat x1.1+(1:Int)) (n:=x1.1+(1:Nat)) cq) (Mg 0 (Mf (nx1 (.inr ((x1.1+1,0,1, [PPair.mk (Int.ofNat x0.1) (Int.ofNat x1.1)]))) (by exact ⟨rfl,hx1.1.trans (rR (by simp_all) (by omega)),by grind⟩:(1:Nat) = [PPair.mk (Int.ofNat x0.1) (Int.ofNat x1.1)].length∧Q = [PPair.mk (Int.ofNat x0.1) (Int.ofNat x1.1)]++fx (bG u l) l.length x0.1 (x1.1+(1:Nat))∧x1.1+(1:Nat)≤l.length) (by grind:l.length - (x1.1+(1:Nat))<l.length - x1.1)))))))) (fun h3=>Mg 2 (Me (k1 (x0.1) (x1.1) q0 (by simp_all) h3) (Mg 1 (Ml 18 (bb (x:=Int.ofNat x1.1+(1:Int)) (n:=x1.1+(1:Nat)) cq) (Mg 0 (Mf (nx1 (.inl ((x1.1+1,()))) (by grind [rS]:Q=fx (bG u l) l.length x0.1 (x1.1+(1:Nat))∧x1.1+(1:Nat)≤l.length) (by grind:l.length - (x1.1+(1:Nat))<l.length - x1.1)))))))))) (fun h2=>have gh2:=av h2;(Mg 0 (Ml 23 (bb (x:=Int.ofNat x0.1+(1:Int)) (n:=x0.1+(1:Nat)) cq) (Mg 0 (Mf (nx0 (.inl (x0.1+1,r0,())) (et (ay hx0.1 hr0) (by exact hx1.1.trans (yp (hx0.1.trans hr0) (by simp_all)):(Q=jn (bG u l) l.length (l.length - r0.length) r0.length))) (aO hr0)))))))))))) (fun x1 hx1 nx1=>have hx1:x1.2.2.1=x1.2.2.2.length∧Q=x1.2.2.2++fx (bG u l) l.length x0.1 x1.1∧x1.1≤l.length:=hx1;(Mg 2 (Ml 15 (Le.len (f:=au) (l:=l)) (Mg 0 (Mb (ao (Int.ofNat x1.1) (Int.ofNat l.length)) (fun h4=>have gh4:=aJ h4;(Ms (bG u l x0.1 x1.1) (fun h5=>Mg 2 (Me (k4 (x0.1) (x1.1) q0 (by simp_all) (x1.2.1) (x1.2.2.1) (x1.2.2.2) (by omega) (by grind) h5) (Mg 1 (Ml 18 (bb (x:=Int.ofNat x1.1+(1:Int)) (n:=x1.1+(1:Nat)) cq) (Mg 0 (Mf (nx1 (.inr ((x1.1+1,x1.2.1+1,x1.2.2.1+1,x1.2.2.2++ [PPair.mk (Int.ofNat x0.1) (Int.ofNat x1.1)]))) (by grind [rR]:x1.2.2.1+(1:Nat)=(x1.2.2.2++ [PPair.mk (Int.ofNat x0.1) (Int.ofNat x1.1)]).length∧Q=x1.2.2.2++ [PPair.mk (Int.ofNat x0.1) (Int.ofNat x1.1)]++fx (bG u l) l.length x0.1 (x1.1+(1:Nat))∧x1.1+(1:Nat)≤l.length) (by grind:l.length - (x1.1+(1:Nat))<l.length - x1.1)))))))) (fun h5=>Mg 2 (Me (k3 (x0.1) (x1.1) q0 (by simp_all) (x1.2.1) (x1.2.2.1) (x1.2.2.2) h5) (Mg 1 (Ml 18 (bb (x:=Int.ofNat x1.1+(1:Int)) (n:=x1.1+(1:Nat)) cq) (Mg 0 (Mf (nx1 (.inr ((x1.1+1,x1.2.1,x1.2.2.1,x1.2.2.2))) (by grind [rS]:x1.2.2.1=x1.2.2.2.length∧Q=x1.2.2.2++fx (bG u l) l.length x0.1 (x1.1+(1:Nat))∧x1.1+(1:Nat)≤l.length) (by grind:l.length - (x1.1+(1:Nat))<l.length - x1.1)))))))))) (fun h4=>have gh4:=av h4;(Mg 0 (Ml 23 (bb (x:=Int.ofNat x0.1+(1:Int)) (n:=x0.1+(1:Nat)) cq) (Mg 0 (Mf (nx0 (.inr (x0.1+1,r0,(x1.2.1,x1.2.2.1,x1.2.2.2))) (et (ay hx0.1 hr0) (by exact ⟨hx1.1,hx1.2.1.trans (by rw [yp (hx0.1.trans hr0) (by simp_all)])⟩:(x1.2.2.1=x1.2.2.2.length∧Q=x1.2.2.2++jn (bG u l) l.length (l.length - r0.length) r0.length))) (aO hr0)))))))))))))))))))))))) (fun x0 hx0 nx0=>Mc x0.2.1 (fun hr0=>have lt0:=ai hx0.1 hr0;(have hj0:=aF (J:=fun r x=>x.2.1=x.2.2.length∧Q=x.2.2++jn (bG u l) l.length (l.length - r.length) r.length) (a:=x0.2.2) hr0 hx0.2;(Mg 0 (Mh lt0 (Mf (qq ((x0.2.2.1,x0.2.2.2.1,x0.2.2.2.2)) (by grind [jn]))))))) (fun w0 r0 hr0=>have lt0:=aD hx0.1 hr0;(have glt0:=aJ lt0;(have nt0:=ah (enc:=au) hx0.1 hr0;(have hj0:=aE (J:=fun r x=>x.2.1=x.2.2.length∧Q=x.2.2++jn (bG u l) l.length (l.length - r.length) r.length) (a:=x0.2.2) hr0 hx0.2;(have q0:x0.1<l.length:=(yf (hx0.1.trans hr0)).1;(Mg 0 (Mt lt0 (Mg 3 (Ml 12 (bb (x:=Int.ofNat x0.1+(1:Int)) (n:=x0.1+(1:Nat)) cq) (Mg 0 (MM (Nat × Unit) (Nat × Nat × Nat × List PPair) [0,1,4,5,7,8] (EZ u l Q x0) (uH u l Q x0) (EX u l Q x0) (EQ u l Q x0) (fun x=>l.length - x.1) (fun x=>l.length - x.1) (.inr ((x0.1+1,x0.2.2.1,x0.2.2.2.1,x0.2.2.2.2))) (ax ((uH u l Q x0) ((x0.1+1,x0.2.2.1,x0.2.2.2.1,x0.2.2.2.2)))) (by exact ⟨hj0.1,hj0.2.trans (by rw [HH (hx0.1.trans hr0)]),by omega⟩:x0.2.2.2.1=x0.2.2.2.2.length∧Q=x0.2.2.2.2++fx (bG u l) l.length x0.1 (x0.1+(1:Nat))∧x0.1+(1:Nat)≤l.length) (fun x1 hx1 nx1=>have hx1:Q=fx (bG u l) l.length x0.1 x1.1∧x1.1≤l.length:=hx1;(Mg 2 (Ml 15 (Le.len (f:=au) (l:=l)) (Mg 0 (Mb (ao (Int.ofNat x1.1) (Int.ofNat l.length)) (fun h7=>have gh7:=aJ h7;(Ms (bG u l x0.1 x1.1) (fun h8=>Mg 2 (Me (k2 (x0.1) (x1.1) q0 (by simp_all) h8) (Mg 1 (Ml 18 (bb (x:=Int.ofNat x1.1+(1:Int)) (n:=x1.1+(1:Nat)) cq) (Mg 0 (Mf (nx1 (.inr ((x1.1+1,0,1, [PPair.mk (Int.ofNat x0.1) (Int.ofNat x1.1)]))) (by exact ⟨rfl,hx1.1.trans (rR (by simp_all) (by omega)),by grind⟩:(1:Nat) = [PPair.mk (Int.ofNat x0.1) (Int.ofNat x1.1)].length∧Q = [PPair.mk (Int.ofNat x0.1) (Int.ofNat x1.1)]++fx (bG u l) l.length x0.1 (x1.1+(1:Nat))∧x1.1+(1:Nat)≤l.length) (by grind:l.length - (x1.1+(1:Nat))<l.length - x1.1)))))))) (fun h8=>Mg 2 (Me (k1 (x0.1) (x1.1) q0 (by simp_all) h8) (Mg 1 (Ml 18 (bb (x:=Int.ofNat x1.1+(1:Int)) (n:=x1.1+(1:Nat)) cq) (Mg 0 (Mf (nx1 (.inl ((x1.1+1,()))) (by grind [rS]:Q=fx (bG u l) l.length x0.1 (x1.1+(1:Nat))∧x1.1+(1:Nat)≤l.length) (by grind:l.length - (x1.1+(1:Nat))<l.length - x1.1)))))))))) (fun h7=>have gh7:=av h7;(Mg 0 (Ml 23 (bb (x:=Int.ofNat x0.1+(1:Int)) (n:=x0.1+(1:Nat)) cq) (Mg 0 (Mf (nx0 (.inl (x0.1+1,r0,())) (et (ay hx0.1 hr0) (by exact hx1.1.trans (yp (hx0.1.trans hr0) (by simp_all)):(Q=jn (bG u l) l.length (l.length - r0.length) r0.length))) (aO hr0)))))))))))) (fun x1 hx1 nx1=>have hx1:x1.2.2.1=x1.2.2.2.length∧Q=x1.2.2.2++fx (bG u l) l.length x0.1 x1.1∧x1.1≤l.length:=hx1;(Mg 2 (Ml 15 (Le.len (f:=au) (l:=l)) (Mg 0 (Mb (ao (Int.ofNat x1.1) (Int.ofNat l.length)) (fun h9=>have gh9:=aJ h9;(Ms (bG u l x0.1 x1.1) (fun h10=>Mg 2 (Me (k4 (x0.1) (x1.1) q0 (by simp_all) (x1.2.1) (x1.2.2.1) (x1.2.2.2) (by omega) (by grind) h10) (Mg 1 (Ml 18 (bb (x:=Int.ofNat x1.1+(1:Int)) (n:=x1.1+(1:Nat)) cq) (Mg 0 (Mf (nx1 (.inr ((x1.1+1,x1.2.1+1,x1.2.2.1+1,x1.2.2.2++ [PPair.mk (Int.ofNat x0.1) (Int.ofNat x1.1)]))) (by grind [rR]:x1.2.2.1+(1:Nat)=(x1.2.2.2++ [PPair.mk (Int.ofNat x0.1) (Int.ofNat x1.1)]).length∧Q=x1.2.2.2++ [PPair.mk (Int.ofNat x0.1) (Int.ofNat x1.1)]++fx (bG u l) l.length x0.1 (x1.1+(1:Nat))∧x1.1+(1:Nat)≤l.length) (by grind:l.length - (x1.1+(1:Nat))<l.length - x1.1)))))))) (fun h10=>Mg 2 (Me (k3 (x0.1) (x1.1) q0 (by simp_all) (x1.2.1) (x1.2.2.1) (x1.2.2.2) h10) (Mg 1 (Ml 18 (bb (x:=Int.ofNat x1.1+(1:Int)) (n:=x1.1+(1:Nat)) cq) (Mg 0 (Mf (nx1 (.inr ((x1.1+1,x1.2.1,x1.2.2.1,x1.2.2.2))) (by grind [rS]:x1.2.2.1=x1.2.2.2.length∧Q=x1.2.2.2++fx (bG u l) l.length x0.1 (x1.1+(1:Nat))∧x1.1+(1:Nat)≤l.length) (by grind:l.length - (x1.1+(1:Nat))<l.length - x1.1)))))))))) (fun h9=>have gh9:=av h9;(Mg 0 (Ml 23 (bb (x:=Int.ofNat x0.1+(1:Int)) (n:=x0.1+(1:Nat)) cq) (Mg 0 (Mf (nx0 (.inr (x0.1+1,r0,(x1.2.1,x1.2.2.1,x1.2.2.2))) (et (ay hx0.1 hr0) (by exact ⟨hx1.1,hx1.2.1.trans (by rw [yp (hx0.1.trans hr0) (by simp_all)])⟩:(x1.2.2.1=x1.2.2.2.length∧Q=x1.2.2.2++jn (bG u l) l.length (l.length - r0.length) r0.length))) (aO hr0))))))))))))))))))))))))))))
theorem xS (u:TUnit) (l:List PAct) (hL:OkL u l):kP 10 [eU u, .ls (l.map au)] (.ls ((jQ u l).map bY)):=by
  rcases List.eq_nil_or_concat (jQ u l) with he | ⟨p,x,he⟩
  · have h:=We u l hL he
    rw [he]
    exact b7 Tryz.func10 (Mg 5 (Me (h) (Mg 1 (Mf b9))))
  · have hne:jQ u l≠ []:=by simp_all
    have h:=Wd u l hL hne
    clear he
    generalize jQ u l=Q at *
    have rr0 : ∀ b',(h:(Q.map bY)=b':=by (rw [hy0.2]))→(Q.map bY)=b':=(fun _ h=>h);exact b7 Tryz.func10 (Mg 5 (Mq (h) fun y0 hy0=>Mg 1 (M2 (.fsl 0 [] 4 (y0.2.2.map bY)) ti (eR (ax (y0.1)) (c8 (f:=bY) (l:=y0.2.2) (n:=y0.2.1) (by omega:(y0.2.2).length=y0.2.1)) (aK Uh (y0.2.2))) (Ml 4 (ib (y0.2.2.map bY) (false) (aK Uh (y0.2.2))) (Mf (dY (rr0 (y0.2.2.map bY))))))))
noncomputable def GE (u:TUnit):Bool:=uv u 20 && mj u
theorem Q5 (u:TUnit) (h:kP 26 [eU u,iV 20] (.bool false)):kP 8 [eU u] (.bool false):=by
  exact b7 Tryz.func8 (Mg 2 (Mp (h) (Mg 2 (Mf (aW (dW false))))))
theorem Q4 (u:TUnit) (b:Bool) (h:kP 26 [eU u,iV 20] (.bool true)) (h3:kP 27 [eU u] (.bool b)):kP 8 [eU u] (.bool b):=by
  exact b7 Tryz.func8 (Mg 2 (Mp (h) (Mg 1 (Mp (h3) (Mg 1 (Mf (aW (dW b))))))))
theorem M9 (u:TUnit) (hf:oq u):kP 8 [eU u] (.bool (GE u)):=by
  have h:=Kd u 20 hf (by decide) (by decide)
  unfold GE
  cases hb:uv u 20 with
  | false=>rw [hb] at h;exact Q5 u h
  | true=>
    rw [hb] at h
    obtain ⟨h1,h2⟩:=Ia (n:=20) hb
    exact Q4 u _ h (Lx u (by omega) h2)
theorem Q3 {u:TUnit} (h:GE u=true):OkB u:=by
  unfold GE at h
  obtain ⟨h1,h2⟩:=qx.1 h
  obtain ⟨h3,h4⟩:=Ia (n:=20) h1
  exact NN h2 (by omega) h4
theorem Xg (u:TUnit) (l:List PAct) (x y:Int) (haw:kP 7 [] (.bool true)) (hb:kP 8 [eU u] (.bool false)):kP 3 [eU u, .ls (l.map au),iV x,iV y] (.bool true):=by
  exact b7 Tryz.func3 (Mg 1 (Mp (haw) (Mg 2 (Mp (hb) (Mg 10 (Mf (aW (dW true))))))))
theorem Xf (u:TUnit) (l:List PAct) (x y:Int) (haw:kP 7 [] (.bool true)) (hb:kP 8 [eU u] (.bool true)) (hw:kP 9 [.ls (l.map au),iV 4,iV 4] (.bool false)):kP 3 [eU u, .ls (l.map au),iV x,iV y] (.bool true):=by
  exact b7 Tryz.func3 (Mg 1 (Mp (haw) (Mg 2 (Mp (hb) (Mg 2 (Mp (hw) (Mg 9 (Mf (aW (dW true))))))))))
theorem Xl (u:TUnit) (l:List PAct) (x y:Int) (haw:kP 7 [] (.bool true)) (hb:kP 8 [eU u] (.bool true)) (hw:kP 9 [.ls (l.map au),iV 4,iV 4] (.bool true)) (g1:ao x 0=true):kP 3 [eU u, .ls (l.map au),iV x,iV y] (.bool true):=by
  exact b7 Tryz.func3 (Mg 1 (Mp (haw) (Mg 2 (Mp (hb) (Mg 2 (Mp (hw) (Mg 6 (Mt g1 (Mt g1 (Mt g1 (M1 (.pk true) g1 (Mg 3 (Mf (aW (dW true)))))))))))))))
theorem Xi (u:TUnit) (l:List PAct) (x y:Int) (haw:kP 7 [] (.bool true)) (hb:kP 8 [eU u] (.bool true)) (hw:kP 9 [.ls (l.map au),iV 4,iV 4] (.bool true)) (g1:ao x 0=false) (g2:ao x y=false):kP 3 [eU u, .ls (l.map au),iV x,iV y] (.bool true):=by
  exact b7 Tryz.func3 (Mg 1 (Mp (haw) (Mg 2 (Mp (hb) (Mg 2 (Mp (hw) (Mg 6 (Mh g1 (Mg 0 (Mh g1 (Mg 0 (Mh g1 (Mg 0 (M1 (.pk false) g1 (Mg 0 (Mt (ce g2) (Mt (ce g2) (Mt (ce g2) (Mt (ce g2) (M1 (.pk true) (ce g2) (Mg 1 (Mf (aW (dW true))))))))))))))))))))))))
theorem Xh (u:TUnit) (l:List PAct) (x y:Int) (haw:kP 7 [] (.bool true)) (hb:kP 8 [eU u] (.bool true)) (hw:kP 9 [.ls (l.map au),iV 4,iV 4] (.bool true)) (g1:ao x 0=false) (g2:ao x y=true) (g3:ao y (.ofNat l.length)=false):kP 3 [eU u, .ls (l.map au),iV x,iV y] (.bool true):=by
  exact b7 Tryz.func3 (Mg 1 (Mp (haw) (Mg 2 (Mp (hb) (Mg 2 (Mp (hw) (Mg 6 (Mh g1 (Mg 0 (Mh g1 (Mg 0 (Mh g1 (Mg 0 (M1 (.pk false) g1 (Mg 0 (Mh (cJ g2) (Mg 0 (Mh (cJ g2) (Mg 0 (Mh (cJ g2) (Mg 0 (Ml 34 (Le.len (f:=au) (l:=l)) (Mh (cJ g2) (Mg 0 (M1 (.pk false) (cJ g2) (Mt (ce g3) (Mg 0 (Mf (aW (dW true))))))))))))))))))))))))))))))
def TD (u:TUnit) (l:List PAct) (i:Nat) (k:Nat) (Q:List PPair) (c:Bool) (x0:Nat × List PPair × Bool):Prop:=(Q).drop x0.1=x0.2.1∧c=(x0.2.2 || x0.2.1.any (Nk (Int.ofNat i) (Int.ofNat k)))
noncomputable def KF (u:TUnit) (l:List PAct) (i:Nat) (k:Nat) (Q:List PPair) (c:Bool) (x0:Nat × List PPair × Bool):List AV × List AObj:=([AV.ls (l.map au),nV i,nV k,AV.pptr [AV.agg [iV u.act,iV u.item,iV u.n,iV u.kind,AV.str u.label,AV.ls (u.head.map aQ),AV.ls (u.words.map aQ),AV.ls (u.kids.map aX)]] 0 0,AV.ls (Q.map bY),AV.bool x0.2.2,nV x0.1], [])
theorem Xe (u:TUnit) (l:List PAct) (haw:kP 7 [] (.bool true)) (i k:Nat) (hik:i<k) (hk:k<l.length) (hb:kP 8 [eU u] (.bool true)) (hw:kP 9 [.ls (l.map au),iV 4,iV 4] (.bool true))
    (g1:ao (Int.ofNat i) 0=false) (g2:ao (Int.ofNat i) (Int.ofNat k)=true) (g3:ao (Int.ofNat k) (.ofNat l.length)=true) (hL:OkL u l):kP 3 [eU u, .ls (l.map au),nV i,nV k] (.bool true):=by
  have hp:=xS u l hL
  have hT : ∀ a b,a∈l→b∈l→kP 10 [eU u, .ps [au a,au b] true] (.ls ((jQ u [a,b]).map bY)):=fun a b ha hb=>
    (xS u [a,b] ⟨hL.u,(by show 2<2 ^ 10;decide),fun z hz=>by
      rcases gx.1 hz with rfl | hz
      · exact hL.a _ ha
      · rw [oI.1 hz];exact hL.a _ hb⟩).onArgs (.cons (Le.refl _) (.cons (Le.ps _ _ rfl) .nil))
  have hi:gD l i∈l:=gy (by omega)
  have hk':gD l k∈l:=gy hk
  have t1:=hT _ _ hi hk'
  have t2:=hT _ _ hk' hi
  rw [HG] at t1 t2
  rw [ID u (gD l k) (gD l i)] at t2
  have hany:(jQ u l).any (Nk (.ofNat i) (.ofNat k))=iT u (gD l i) (gD l k):=by
    unfold jQ
    rw [G2 _ i k _ hik hk,show Nat.ble 0 i=true from mW (bN _),show Nat.blt i (0+l.length)=true from mW (by omega)];rfl
  obtain ⟨T,hTq⟩ : ∃ T:List PPair,T=bif iT u (gD l i) (gD l k) then [⟨0,1⟩] else []:=⟨_,rfl⟩
  rw [← hTq] at t1 t2
  have hlen:az (Int.ofNat T.length) 1=iT u (gD l i) (gD l k):=by
    rw [hTq];cases iT u (gD l i) (gD l k) <;> rfl
  have hlen2:az (Int.ofNat T.length) (Int.ofNat T.length)=true:=bF _
  have hn:(jQ u l).length≤2 ^ 20:=bL (zL _ _ _ _) (by
    have:=hL.n
    have:l.length * l.length≤2 ^ 10 * 2 ^ 10:=AL (by omega) (by omega)
    simpa using this)
  generalize jQ u l=Q at *
  generalize iT u (gD l i) (gD l k)=c at *
  clear hT hTq
  have rr0 : ∀ b',(h:(true)=b':=by (have z:=hj0;rw [List.any_nil,Bool.or_false] at z;simp only [lM,hlen2,hlen,← z,aS,aV,bS,beq_self_eq_true];first | done | rfl))→(true)=b':=(fun _ h=>h);exact b7 Tryz.func3 (Mg 1 (Mp (haw) (Mg 2 (Mp (hb) (Mg 2 (Mp (hw) (Mg 11 (Mh (cJ g2) (Mg 0 (Mh (cJ g2) (Mg 0 (Mh (cJ g2) (Mg 0 (Ml 34 (Le.len (f:=au) (l:=l)) (Mh (cJ g2) (Mg 0 (M1 (.pk false) (cJ g2) (Mh (cJ g3) (Mg 1 (Mp (hp) (Mg 2 (M1 (.frz 0 [1,2,3,4,9,10,11]) ti (ML (Nat × List PPair × Bool) [1,2,3,4,9,10,11] (KF u l i k Q c) (TD u l i k Q c) (fun x=>x.2.1.length) (0,Q,false) (ax ((KF u l i k Q c) (0,Q,false))) (et (rfl:List.drop 0 (Q)=Q) (by (rw [Bool.false_or];exact hany.symm):(c=(false || Q.any (Nk (Int.ofNat i) (Int.ofNat k)))))) (fun x0 hx0 nx0=>Mc x0.2.1 (fun hr0=>have lt0:=ai hx0.1 hr0;(have hj0:=aF (J:=fun r b=>c=(b || r.any (Nk (Int.ofNat i) (Int.ofNat k)))) (a:=x0.2.2) hr0 hx0.2;(Mg 2 (Ml 42 (Le.len (f:=bY) (l:=Q)) (Mg 0 (Mh lt0 (Mg 2 (Mx (cj au (by omega:k<(l).length)) (Mg 2 (Mx (cj au (by omega:i<(l).length)) (Mg 1 (Mp (t2) (Mg 3 (Mx (cj au (by omega:i<(l).length)) (Mg 2 (Mx (cj au (by omega:k<(l).length)) (Mg 1 (Mp (t1) (Mg 2 (Mt (by simp only [lM];exact hlen2:(az (Int.ofNat (T.map bY).length) (Int.ofNat (T.map bY).length))=true) (Mg 0 (Mt (by simp only [lM];exact hlen2:(az (Int.ofNat (T.map bY).length) (Int.ofNat (T.map bY).length))=true) (Mg 0 (Mt (by simp only [lM];exact hlen2:(az (Int.ofNat (T.map bY).length) (Int.ofNat (T.map bY).length))=true) (Mg 0 (Mt (by simp only [lM];exact hlen2:(az (Int.ofNat (T.map bY).length) (Int.ofNat (T.map bY).length))=true) (Mg 0 (Mt (by simp only [lM];exact hlen2:(az (Int.ofNat (T.map bY).length) (Int.ofNat (T.map bY).length))=true) (Mx (cj au (by omega:i<(l).length)) (Mt (by simp only [lM];exact hlen2:(az (Int.ofNat (T.map bY).length) (Int.ofNat (T.map bY).length))=true) (Mg 0 (Mt (by simp only [lM];exact hlen2:(az (Int.ofNat (T.map bY).length) (Int.ofNat (T.map bY).length))=true) (Mg 0 (Mt (by simp only [lM];exact hlen2:(az (Int.ofNat (T.map bY).length) (Int.ofNat (T.map bY).length))=true) (Mg 0 (Mt (by simp only [lM];exact hlen2:(az (Int.ofNat (T.map bY).length) (Int.ofNat (T.map bY).length))=true) (Mx (cj au (by omega:k<(l).length)) (Mt (by simp only [lM];exact hlen2:(az (Int.ofNat (T.map bY).length) (Int.ofNat (T.map bY).length))=true) (Mg 0 (Mt (by simp only [lM];exact hlen2:(az (Int.ofNat (T.map bY).length) (Int.ofNat (T.map bY).length))=true) (Mg 0 (Mt (by simp only [lM];exact hlen2:(az (Int.ofNat (T.map bY).length) (Int.ofNat (T.map bY).length))=true) (Mp (t1) (Mt (by simp only [lM];exact hlen2:(az (Int.ofNat (T.map bY).length) (Int.ofNat (T.map bY).length))=true) (Mg 0 (Mt (by simp only [lM];exact hlen2:(az (Int.ofNat (T.map bY).length) (Int.ofNat (T.map bY).length))=true) (Mg 0 (Mt (by simp only [lM];exact hlen2:(az (Int.ofNat (T.map bY).length) (Int.ofNat (T.map bY).length))=true) (Mg 0 (M1 (.pk true) (by simp only [lM];exact hlen2:(az (Int.ofNat (T.map bY).length) (Int.ofNat (T.map bY).length))=true) (Mg 0 (Mf (aq (rr0 (x0.2.2 == az (Int.ofNat (T.map bY).length) 1))))))))))))))))))))))))))))))))))))))))))))))))))))))) (fun w0 r0 hr0=>have lt0:=aD hx0.1 hr0;(have glt0:=aJ lt0;(have nt0:=ah (enc:=bY) hx0.1 hr0;(have hj0:=aE (J:=fun r b=>c=(b || r.any (Nk (Int.ofNat i) (Int.ofNat k)))) (a:=x0.2.2) hr0 hx0.2;(Mg 2 (Ml 42 (Le.len (f:=bY) (l:=Q)) (Mg 0 (Mt lt0 (Mg 1 (Mb x0.2.2 (fun h0=>Mt h0 (Mt h0 (Mt h0 (Mt h0 (Mt h0 (Mt h0 (Mt h0 (M1 (.pk true) h0 (Mg 2 (Ml 45 (Le.wr (x:=Int.ofNat x0.1+1) cq) (Mg 0 (Mf (nx0 (x0.1+1,r0,true) (et (ay hx0.1 hr0) (by (rw [hj0,List.any_cons];simp only [Nk,aS,aV,bS, *];done):(c=(true || r0.any (Nk (Int.ofNat i) (Int.ofNat k)))))) (aO hr0)))))))))))))) (fun h0=>Mg 0 (Mh h0 (Mg 0 (Mh h0 (Mx nt0 (Mh h0 (Mg 0 (Mh h0 (Mg 0 (Mh h0 (Mg 0 (Mh h0 (Mg 0 (Mh h0 (Mv (cA (d:=(Tryz.prog).underlying 35) (n:=2) (l:=(0,1)::(1,1):: []) (xs:= [iV w0.a,iV w0.b]) (ys:= [nV i,nV k]) (H:=ae []) rfl (bj (e:=az w0.a (Int.ofNat i)) rfl rfl rfl (da (e:=az w0.b (Int.ofNat k)) rfl rfl rfl rfl))) (M1 (.pk false) h0 (Mg 2 (Ml 45 (Le.wr (x:=Int.ofNat x0.1+1) cq) (Mg 0 (Mf (nx0 (x0.1+1,r0,az w0.a (Int.ofNat i) && az w0.b (Int.ofNat k)) (et (ay hx0.1 hr0) (by (rw [hj0,List.any_cons];simp only [Nk,aS,aV,bS, *];done):(c=(az w0.a (Int.ofNat i) && az w0.b (Int.ofNat k) || r0.any (Nk (Int.ofNat i) (Int.ofNat k)))))) (aO hr0))))))))))))))))))))))))))))))))))))))))))))))))))))))))
theorem TE (u:TUnit) (l:List PAct) (x y:Int) (hu:oq u) (hl:l.length<2 ^ 60∧∀ a,a∈l→FP a) (haw:kP 7 [] (.bool true)):kP 3 [eU u, .ls (l.map au),iV x,iV y] (.bool true):=by
  have hb:=M9 u hu
  have hw:=Qj l hl.1 hl.2 4 4
  cases h1:GE u with
  | false=>rw [h1] at hb;exact Xg u l x y haw hb
  | true=>
    rw [h1] at hb
    cases h2:Kf l 4 4 with
    | false=>rw [h2] at hw;exact Xf u l x y haw hb hw
    | true=>
      rw [h2] at hw
      cases g1:ao x 0 with
      | true=>exact Xl u l x y haw hb hw g1
      | false=>cases g2:ao x y with
        | false=>exact Xi u l x y haw hb hw g1 g2
        | true=>cases g3:ao y (.ofNat l.length) with
          | false=>exact Xh u l x y haw hb hw g1 g2 g3
          | true=>
            have k1:=av g1
            have k2:=aJ g2
            have k3:=aJ g3
            obtain ⟨i,rfl⟩:=Int.eq_ofNat_of_zero_le k1
            obtain ⟨k,rfl⟩:=Int.eq_ofNat_of_zero_le (show 0≤y by omega)
            unfold Kf at h2
            obtain ⟨e1,e2⟩:=qx.1 h2
            have e1:=fM e1
            simp only [oN] at e1 k2 k3
            exact Xe u l haw i k (by omega) (by omega) hb hw g1 g2 g3 ⟨Q3 h1,by omega,fun a ha=>U6 (n:=4) (hl.2 a ha) (by decide) (jp.1 e2 a ha)⟩
section
variable (m : List (PKey × Bool))
noncomputable abbrev oE:AObj:= .map (be bP AV.bool m 0) m.length
noncomputable abbrev ou:AObj:= .row 1 false 0 [.map 0]
noncomputable abbrev Ue:AV:= .func (.func 321) [] [.ptr 1 0 0 0]
noncomputable abbrev bO (i:Nat):AV:=bP (gD m i).1
noncomputable abbrev oP (bx:AV) (seen:List Nat) (rows:List AObj):List AObj:=oE m::ou:: .row 1 false 0 [bx]:: .miter (.map 0) m.length seen::rows
noncomputable abbrev nE (e:Nat) (seen:List Nat):AObj:= .row 6 true e (seen.map (bO m))
noncomputable abbrev Cf (e:Nat) (seen:List Nat):AV:= .slice 4 e 0 seen.length none
noncomputable abbrev Xq:List (Nat × AV):= [(0, .nils),(1,Ue),(2, .ptr 2 0 0 0),(4, .nils),(6,Ue)]
noncomputable abbrev AR:Fr:=co 13 Xq
/-- The iterator's state between two rounds. -/
noncomputable def NT (l:Nat) (bx:AV) (seen:List Nat) (rows:List AObj):St:=⟨co 14 [(0, .func (.yield l) [] []),(5, .ptr 3 0 0 0)],ae (oP m bx seen rows)⟩

noncomputable abbrev yv (l:Nat):AV:= .func (.yield l) [] []
noncomputable abbrev rA (i:Nat):AV:= .bool (gD m i).2
noncomputable def Yn (l:Nat) (bx:AV) (seen:List Nat) (rows:List AObj):St:=⟨co 14 [(0,yv l),(5, .ptr 3 0 0 0),(6, .tuple [.bool false]),(7, .bool false)],ae (oP m bx seen rows)⟩
noncomputable abbrev YA (l i:Nat):List (Nat × AV):= [(0,yv l),(5, .ptr 3 0 0 0),(6, .tuple [.bool true,bO m i,rA m i]),(7, .bool true)]
noncomputable def Ym (l:Nat) (bx:AV) (seen:List Nat) (rows:List AObj) (i:Nat):St:=⟨co 14 (YA m l i),ae (oP m bx (seen++ [i]) rows)⟩
noncomputable abbrev Tj (l i n:Nat):List (Nat × AV):=YA m l i++ [(8, .tuple [bO m i,rA m i]),(9,bO m i),(3, .ptr n 0 0 0)]
noncomputable def Wq (l:Nat) (bx:AV) (seen:List Nat) (rows:List AObj) (i n:Nat):St:=⟨co 14 (Tj m l i n),ae (oP m bx (seen++ [i]) (rows++ [.row 6 false 0 [bO m i]]))⟩
noncomputable abbrev YC (i n:Nat):List (Nat × AV):=Xq++ [(7,bO m i),(5, .ptr n 0 0 0)]
noncomputable def Yo (bx:AV) (seen:List Nat) (rows:List AObj) (i n:Nat):St:=⟨co 13 (YC m i n),ae (oP m bx (seen++ [i]) (rows++ [.row 6 false 0 [bO m i], .row 6 false 0 [bO m i]]))⟩
noncomputable def Wz (bx bx':AV) (seen:List Nat) (rows:List AObj) (i n:Nat):St:=⟨co 13 (YC m i n++ [(8,bx),(9,bO m i),(10, .ps [bO m i] true),(11,bx')]),ae (oP m bx' (seen++ [i]) rows)⟩
/-- The range goes on. -/
def YX (l:Nat) (bx:AV) (seen:List Nat) (rows:List AObj) (s:St):Prop:=(s=Yn m l bx seen rows∧∀ i,i<m.length→i∈seen)∨∃ i,(i<m.length∧¬ i∈seen)∧s=Ym m l bx seen rows i
def Rg (l:Nat) (bx:AV) (seen:List Nat) (rows:List AObj):Prop:=(m.length=m.length∧∀ e,e∈be bP AV.bool m 0→e.born<m.length∧(e.born∈seen∨∃ y,(y<m.length∧¬ y∈seen)∧e.key=bO m y∧e.val=rA m y∧e.born=y))∧
  ((∀ e,e∈be bP AV.bool m 0→e.born∈seen)→YX m l bx seen rows (Yn m l bx seen rows))∧∀ y,(y<m.length∧¬ y∈seen)→YX m l bx seen rows (Ym m l bx seen rows y)
def Yg (l:Nat) (n:Nat) (s:St):Prop:=∃ seen:List Nat,(seen.Nodup∧(∀ i,i∈seen→i<m.length)∧n=m.length - seen.length)∧
  ((seen = []∧s=NT m l .nils [] [])∨∃ e,seen≠ []∧s=NT m l (Cf e seen) seen [nE m e seen])

/-- What the iterator leaves. -/
def Yh (h:AHeap):Prop:=∃ seen:List Nat,(seen.Nodup∧(∀ i,i∈seen→i<m.length)∧∀ i,i<m.length→i∈seen)∧
  ((seen = []∧h=ae (oP m .nils [] []))∨∃ e,seen≠ []∧h=ae (oP m (Cf e seen) seen [nE m e seen]))
end

theorem pJ (m:List (PKey × Bool)):(oE m).top=0:=mf m 0
theorem xt (m:List (PKey × Bool)) (e:Nat) (s:List Nat):(nE m e s).top=0:=aK (fun i=>zV _) s
theorem Uq (m:List (PKey × Bool)) (l:Nat) (bx:AV) (seen:List Nat) (rows:List AObj):Rg m l bx seen rows:=⟨Ig,fun h=> .inl ⟨rfl,Ih h⟩,fun y hy=> .inr ⟨y,hy,rfl⟩⟩
theorem zD (m:List (PKey × Bool)) (hm:m.length≤2 ^ 30):kC 366 [.nils,Ue] (ae [oE m,ou])
    (fun v h=>∃ seen:List Nat,(seen.Nodup∧(∀ i,i∈seen→i<m.length)∧∀ i,i<m.length→i∈seen)∧
      ((seen = []∧v = .nils∧h=ae [oE m,ou])∨∃ e,seen≠ []∧v = .slice 2 e 0 seen.length none∧h=ae [oE m,ou,nE m e seen])):=by
  refine Dt (fn:=Tryz.f366) (fk:=Tryz.f321) (caps:= [.ptr 1 0 0 0]) (AR:=AR) (sA:=⟨co 13 [(0, .nils),(1,Ue),(2, .ptr 2 0 0 0),(4, .nils)],ae [oE m,ou, .row 1 false 0 [.nils]]⟩) (hB:=ae [oE m,ou, .row 1 false 0 [.nils]]) (ΨK:=Yh m) 2
    Tryz.func366 (by kernel_rfl) rfl ⟨by kernel_rfl,by kernel_rfl⟩ Tryz.func321 (by kernel_rfl) rfl ⟨by kernel_rfl,by kernel_rfl⟩ rfl
    (rY io eP (ev 40) (.go 1 .fin) (by kernel_rfl)) (rY io eP (ev 40) (.go 0 .fin) (by kernel_rfl)) (by kernel_rfl) ?_ ?_ ?_
  · intro l r hrd hpe hpar ha hbo
    have hB3 : ∀ h0 pl0 M0 w0,YB 3 l r AR h0 pl0 M0 w0→tq (some 3) h0 pl0:=fun _ _ _ _ h=>h.1
    refine bi.seq (bi.of hB3 (am.mono (rY io eP (ev 40) (s':=⟨co 14 [(0,yv l),(1, .ptr 1 0 0 0),(4, .map 0),(5, .ptr 3 0 0 0)],ae (oP m .nils [] [])⟩) (.go 1 .fin) (by kernel_rfl)) ?_))
    rintro _ _ ⟨rfl,rfl⟩
    refine bi.weak (s':=NT m l .nils [] []) hB3 (DS eP (by kernel_rfl) (.ren [0,1,2,3] [0] [0,5] .fin) (W:=(oE m).top=0∧NT m l .nils [] []=NT m l .nils [] []) ⟨pJ m,rfl⟩ (by kernel_rfl)) ?_
    refine bi.block (bi.loop (Yg m l) m.length ⟨[],⟨List.nodup_nil,by simp,by simp⟩, .inl ⟨rfl,rfl⟩⟩ ?_)
    rintro n s ⟨seen,⟨hnd,hlt,hn⟩,⟨rfl,rfl⟩ | ⟨e,hne,rfl⟩⟩
    · refine bi.seq (bi.of hB3 (am.mono (ma eP (ev 40) (Ψ:=YX m l .nils [] []) (.nxt Nat (bO m) (rA m) (fun i=>i) (fun i=>i<m.length∧¬ i∈([]:List Nat)) (.go 0 .fin) (fun i=> .go 0 .fin)) (W:=Rg m l .nils [] []) (Uq m l .nils [] []) (by kernel_rfl)) ?_))
      rintro _ s ⟨rfl,⟨rfl,hd⟩ | ⟨i,hi,rfl⟩⟩
      · refine bi.seq (bi.cond (t:=false) (by kernel_rfl) (fun h=>by cases h) fun _=>bi.exit ?_)
        refine ⟨fun id h=>(by cases h),_,fun _ _ _ _ _ _ _ _ h=>h, [],⟨hnd,hlt,hd⟩, .inl ⟨rfl,rfl⟩⟩
      · 
        refine bi.seq (bi.cond (t:=true) (by kernel_rfl) (fun _=>bi.skip ?_) fun h=>by cases h)
        refine bi.block (bi.seq (bi.of hB3 (am.mono (ma eP (ev 40) (Ψ:=fun s=>s=Wq m l .nils [] [] i 4) (.ent (.tuple [bO m i,rA m i]) (.go 2 .fin)) (W:=(m.length=m.length∧DZ (vI (be bP AV.bool m 0) (sw ([]++ [i])))=some (.tuple [bO m i,rA m i]))∧Wq m l .nils [] [] i 4=Wq m l .nils [] [] i 4) ⟨vp hi.1,rfl⟩ (by kernel_rfl)) ?_)))
        rintro _ _ ⟨rfl,rfl⟩
        refine bi.seq (rn (AR1:=co 13 (Xq++ [(7,bO m i)])) (A0:=co 14 (Tj m l i 4++ [(10,yv l)])) (A1:=co 14 (Tj m l i 4++ [(10,yv l),(11,bO m i)])) (A2:=co 14 (Tj m l i 4++ [(10,yv l),(11,bO m i),(12, .bool true)])) (A3:=co 14 (Tj m l i 4++ [(10,yv l),(11,bO m i),(12, .bool true),(13, .bool false)]))
          (kv:=bO m i) (v0:=yv l) (v1:=bO m i) (v3:= .bool false) (s1:=Yo m .nils [] [] i (4+1)) (s2:=Wz m .nils (.slice 6 0 0 1 none) [] [.row 6 false 0 [bO m i], .row 6 false 0 [bO m i], .row 6 true 0 [bO m i]] i 5)
          hrd hpe (by decide) rfl rfl rfl rfl (fun _ h=>by cases h) (fun _ h=>by cases h) (fun _ h=>by cases h) (by kernel_rfl) (by kernel_rfl) (by kernel_rfl) (by kernel_rfl) rfl (by kernel_rfl) (by kernel_rfl) hpar (by kernel_rfl) ha hbo (by simp) (by simp)
          (Kj eP (ev 40) (.go 1 .fin) (by kernel_rfl)) (PI eP (ev 40) (.go 2 (.apl (.go 0 .fin))) (W:=(([bO m i]:List AV)≠ []∧dh 6 [bO m i]=true)∧(small 1 56=true∧Wz m .nils (.slice 6 0 0 1 none) [] [.row 6 false 0 [bO m i], .row 6 false 0 [bO m i], .row 6 true 0 [bO m i]] i 5=Wz m .nils (.slice 6 0 0 1 none) [] [.row 6 false 0 [bO m i], .row 6 false 0 [bO m i], .row 6 true 0 [bO m i]] i 5)) ⟨⟨qz _ _,by kernel_rfl⟩,by kernel_rfl,rfl⟩ (by kernel_rfl)) (by kernel_rfl) (by kernel_rfl) (by kernel_rfl) ?_)
        refine bi.cond (t:=false) (by kernel_rfl) (fun h=>by cases h) fun _=>bi.weak (s':=NT m l (Cf 0 [i]) [i] [nE m 0 [i]]) hB3 (DS eP (by kernel_rfl) (.ren [0,1,2,3,6] [0,6] [0,5] .fin) (W:=(oE m).top=0∧(AObj.row 6 true 0 [bO m i]).top=0∧NT m l (Cf 0 [i]) [i] [nE m 0 [i]]=NT m l (Cf 0 [i]) [i] [nE m 0 [i]]) ⟨pJ m,xt m 0 [i],rfl⟩ (by kernel_rfl)) (bi.skip ?_)
        exact ⟨m.length - [i].length,by have:=hi.1;simp only [lC,lN] at hn ⊢;omega, [i],⟨by simp,by simpa using hi.1,rfl⟩, .inr ⟨0,by simp,rfl⟩⟩
    · refine bi.seq (bi.of hB3 (am.mono (ma eP (ev 40) (Ψ:=YX m l (Cf e seen) seen [nE m e seen]) (.nxt Nat (bO m) (rA m) (fun i=>i) (fun i=>i<m.length∧¬ i∈(seen:List Nat)) (.go 0 .fin) (fun i=> .go 0 .fin)) (W:=Rg m l (Cf e seen) seen [nE m e seen]) (Uq m l (Cf e seen) seen [nE m e seen]) (by kernel_rfl)) ?_))
      rintro _ s ⟨rfl,⟨rfl,hd⟩ | ⟨i,hi,rfl⟩⟩
      · refine bi.seq (bi.cond (t:=false) (by kernel_rfl) (fun h=>by cases h) fun _=>bi.exit ?_)
        refine ⟨fun id h=>(by cases h),_,fun _ _ _ _ _ _ _ _ h=>h,seen,⟨hnd,hlt,hd⟩, .inr ⟨e,hne,rfl⟩⟩
      · have hln:=N8 hnd hlt hi.1 hi.2;have he:seen.map (bO m)++ [bO m i]=(seen++ [i]).map (bO m):=by rw [mB];rfl
        refine bi.seq (bi.cond (t:=true) (by kernel_rfl) (fun _=>bi.skip ?_) fun h=>by cases h)
        refine bi.block (bi.seq (bi.of hB3 (am.mono (ma eP (ev 40) (Ψ:=fun s=>s=Wq m l (Cf e seen) seen [nE m e seen] i 5) (.ent (.tuple [bO m i,rA m i]) (.go 2 .fin)) (W:=(m.length=m.length∧DZ (vI (be bP AV.bool m 0) (sw (seen++ [i])))=some (.tuple [bO m i,rA m i]))∧Wq m l (Cf e seen) seen [nE m e seen] i 5=Wq m l (Cf e seen) seen [nE m e seen] i 5) ⟨vp hi.1,rfl⟩ (by kernel_rfl)) ?_)))
        rintro _ _ ⟨rfl,rfl⟩
        refine bi.seq (rn (AR1:=co 13 (Xq++ [(7,bO m i)])) (A0:=co 14 (Tj m l i 5++ [(10,yv l)])) (A1:=co 14 (Tj m l i 5++ [(10,yv l),(11,bO m i)])) (A2:=co 14 (Tj m l i 5++ [(10,yv l),(11,bO m i),(12, .bool true)])) (A3:=co 14 (Tj m l i 5++ [(10,yv l),(11,bO m i),(12, .bool true),(13, .bool false)]))
          (kv:=bO m i) (v0:=yv l) (v1:=bO m i) (v3:= .bool false) (s1:=Yo m (Cf e seen) seen [nE m e seen] i (5+1)) (s2:=Wz m (Cf e seen) (.slice 4 (e+1) 0 (seen.length+1) none) seen [.row 6 true (e+1) (seen.map (bO m)++ [bO m i]), .row 6 false 0 [bO m i], .row 6 false 0 [bO m i]] i 6)
          hrd hpe (by decide) rfl rfl rfl rfl (fun _ h=>by cases h) (fun _ h=>by cases h) (fun _ h=>by cases h) (by kernel_rfl) (by kernel_rfl) (by kernel_rfl) (by kernel_rfl) rfl (by kernel_rfl) (by kernel_rfl) hpar (by kernel_rfl) ha hbo (by simp) (by simp)
          (Kj eP (ev 40) (.go 1 .fin) (by kernel_rfl)) (PI eP (ev 40) (.go 2 (.apl (.go 0 .fin))) (W:=(([bO m i]:List AV)≠ []∧dh 6 [bO m i]=true)∧((e=e∧seen.length=(seen.map (bO m)).length∧small (seen.length+1) 56=true)∧Wz m (Cf e seen) (.slice 4 (e+1) 0 (seen.length+1) none) seen [.row 6 true (e+1) (seen.map (bO m)++ [bO m i]), .row 6 false 0 [bO m i], .row 6 false 0 [bO m i]] i 6=Wz m (Cf e seen) (.slice 4 (e+1) 0 (seen.length+1) none) seen [.row 6 true (e+1) (seen.map (bO m)++ [bO m i]), .row 6 false 0 [bO m i], .row 6 false 0 [bO m i]] i 6)) ⟨⟨qz _ _,by kernel_rfl⟩,⟨rfl,(eZ ..).symm,aA (m:=2 ^ 31) (by omega) (by omega) (by omega)⟩,rfl⟩ (by kernel_rfl)) (by kernel_rfl) (by kernel_rfl) (by kernel_rfl) ?_)
        refine bi.cond (t:=false) (by kernel_rfl) (fun h=>by cases h) fun _=>bi.weak (s':=NT m l (.slice 4 (e+1) 0 (seen.length+1) none) (seen++ [i]) [.row 6 true (e+1) (seen.map (bO m)++ [bO m i])]) hB3 (DS eP (by kernel_rfl) (.ren [0,1,2,3,4] [0,4] [0,5] .fin) (W:=(oE m).top=0∧(AObj.row 6 true (e+1) (seen.map (bO m)++ [bO m i])).top=0∧NT m l (.slice 4 (e+1) 0 (seen.length+1) none) (seen++ [i]) [.row 6 true (e+1) (seen.map (bO m)++ [bO m i])]=NT m l (.slice 4 (e+1) 0 (seen.length+1) none) (seen++ [i]) [.row 6 true (e+1) (seen.map (bO m)++ [bO m i])]) ⟨pJ m,(by rw [he];exact xt m (e+1) (seen++ [i])),rfl⟩ (by kernel_rfl)) (bi.skip ?_)
        exact ⟨m.length - (seen++ [i]).length,by simp only [lA,lC,lN];omega,seen++ [i],⟨yZ hnd hi.2,fun j hj=>(kO.1 hj).elim (hlt j) fun h=>(oI.1 h) ▸ hi.1,rfl⟩, .inr ⟨e+1,by simp,by rw [he];simp only [Cf,lA,lC,lN,gK]⟩⟩
  · simp
  · rintro hK ⟨seen,h1,⟨rfl,rfl⟩ | ⟨e,h2,rfl⟩⟩
    · refine ⟨⟨co 13 [(0, .nils),(1,Ue),(2, .ptr 2 0 0 0),(4, .nils),(6,Ue),(12, .nils)],ae (oP m .nils [] [])⟩,Kj eP (ev 40) (.go 1 .fin) (by kernel_rfl),
        ⟨co 13 [(4, .nils)],ae [oE m,ou]⟩,DS eP (by kernel_rfl) (.ren [0,1] [0] [4] .fin) (W:=(oE m).top=0∧(⟨co 13 [(4, .nils)],ae [oE m,ou]⟩:St)=⟨co 13 [(4, .nils)],ae [oE m,ou]⟩) ⟨pJ m,rfl⟩ (by kernel_rfl), .nils,by kernel_rfl, [],h1, .inl ⟨rfl,rfl,rfl⟩⟩
    · refine ⟨⟨co 13 [(0, .nils),(1,Ue),(2, .ptr 2 0 0 0),(4,Cf e seen),(6,Ue),(12,Cf e seen)],ae (oP m (Cf e seen) seen [nE m e seen])⟩,Kj eP (ev 40) (.go 1 .fin) (by kernel_rfl),
        ⟨co 13 [(4, .slice 2 e 0 seen.length none)],ae [oE m,ou,nE m e seen]⟩,DS eP (by kernel_rfl) (.ren [0,1,4] [0,4] [4] .fin) (W:=(oE m).top=0∧(nE m e seen).top=0∧(⟨co 13 [(4, .slice 2 e 0 seen.length none)],ae [oE m,ou,nE m e seen]⟩:St)=⟨co 13 [(4, .slice 2 e 0 seen.length none)],ae [oE m,ou,nE m e seen]⟩) ⟨pJ m,xt m e seen,rfl⟩ (by kernel_rfl), .slice 2 e 0 seen.length none,by kernel_rfl,seen,h1, .inr ⟨e,h2,rfl,rfl⟩⟩
theorem BI (x:Int):kP 217 [iV x] (.bool false):=by
  have rr0 : ∀ b',(h:(false)=b':=by simp [bF])→(false)=b':=(fun _ h=>h);exact wk Tryz.func217 (.go 4 .fin) (aq (rr0 (aV (az x x))))
theorem yH (x:aP):kP 276 [.str x] (.bool false):=by
  have rr0 : ∀ b',(h:(false)=b':=by simp [nX])→(false)=b':=(fun _ h=>h);exact wk Tryz.func276 (.go 4 .fin) (aq (rr0 (aV (dS x x))))
theorem sr (x y:Int):kP 113 [iV x,iV y] (iV (l8 x y)):=by
  have rr0 : ∀ b',(h:(l8 x y)=b':=by simp [l8, *])→(l8 x y)=b':=(fun _ h=>h);exact b7 Tryz.func113 (Mg 1 (Mp (BI x) (Mg 1 (Mp (BI y) (Mg 7 (Mb (ao x y) (fun h0=>(Mg 0 (Mf (aj (k:= .i64) (rr0 (-1)))))) (fun h0=>(Mg 2 (Mb (ao y x) (fun h1=>(Mg 0 (Mf (aj (k:= .i64) (rr0 (1)))))) (fun h1=>(Mg 0 (Mf (aj (k:= .i64) (rr0 (0)))))))))))))))
theorem Qk (x y:aP):kP 209 [.str x, .str y] (iV (nq x y)):=by
  have rr0 : ∀ b',(h:(nq x y)=b':=by first | (simp [nq, *];done) | (have q:=Yu x y;rw [h1] at q;simp [nq,q,h0];done))→(nq x y)=b':=(fun _ h=>h);exact b7 Tryz.func209 (Mg 1 (Mp (yH x) (Mg 1 (Mp (yH y) (Mg 7 (Mb (DF x y) (fun h0=>Mg 0 (Mf (aj (k:= .i64) (rr0 (-1))))) (fun h0=>Mg 2 (Mn (DF x y || dS x y) (fun h1=>Mg 0 (Mf (aj (k:= .i64) (rr0 (1))))) (fun h1=>Mg 0 (Mf (aj (k:= .i64) (rr0 (0)))))))))))))
noncomputable def Ko (n:Int):AV:=iV n
def Vp (xs:List Int) (x0:Nat × List Int × Unit):Prop:=(xs).drop x0.1=x0.2.1∧wl xs=wl x0.2.1
noncomputable def P9 (xs:List Int) (x0:Nat × List Int × Unit):List AV × List AObj:=([iV 0,AV.ls (xs.map Ko),nV xs.length,nV x0.1], [])
theorem Vo (xs:List Int) (hl:xs.length<2 ^ 60):kP 112 [.ls (xs.map Ko)] (iV (wl xs)):=by
  have rr0 : ∀ b',(h:(wl xs)=b':=by (simp only [*,wl];done))→(wl xs)=b':=(fun _ h=>h);exact b7 Tryz.func112 (Mg 3 (Ml 7 (Le.len (f:=Ko) (l:=xs)) (Mg 0 (ML (Nat × List Int × Unit) [3,6,7,8] (P9 xs) (Vp xs) (fun x=>x.2.1.length) (0,xs,()) (ax ((P9 xs) (0,xs,()))) (et (rfl:List.drop 0 (xs)=xs) (by rfl:(wl xs=wl xs))) (fun x0 hx0 nx0=>Mc x0.2.1 (fun hr0=>have lt0:=ai hx0.1 hr0;(have hj0:=aF (J:=fun r x=>wl xs=wl r) (a:=x0.2.2) hr0 hx0.2;(Mg 0 (Mh lt0 (Mg 1 (Mf (aj (k:= .i64) (rr0 (0))))))))) (fun w0 r0 hr0=>have lt0:=aD hx0.1 hr0;(have glt0:=aJ lt0;(have nt0:=ah (enc:=Ko) hx0.1 hr0;(have hj0:=aE (J:=fun r x=>wl xs=wl r) (a:=x0.2.2) hr0 hx0.2;(Mg 0 (Mt lt0 (Mx nt0 (Mg 4 (Mn (az w0 0) (fun h0=>have gh0:=iS h0;(Mg 1 (Mf (aj (k:= .i64) (rr0 (w0)))))) (fun h0=>have gh0:=eJ h0;(Mg 0 (Ml 16 (Le.wr (x:=Int.ofNat x0.1+1) cq) (Mg 0 (Mf (nx0 (x0.1+1,r0,()) (et (ay hx0.1 hr0) (by (simp only [wl, *] at *;rfl):(wl xs=wl r0))) (aO hr0)))))))))))))))))))))
theorem Tw (a b c d e f:Int):kP 112 [.ps [iV a,iV b,iV c,iV d,iV e,iV f] true] (iV (wl [a,b,c,d,e,f])):=
  bw.onArgs (.cons (Le.ps _ _ rfl) .nil) (Vo [a,b,c,d,e,f] (by simp))
theorem L5 (a b:PKey):kP 265 [bP a,bP b] (iV (rk a b)):=by
  exact b7 Tryz.func265 (Mg 6 (Mp (sr (a.kind) (b.kind)) (Mg 5 (Mp (sr (a.act) (b.act)) (Mg 5 (Mp (sr (a.item) (b.item)) (Mg 5 (Mp (sr (a.n) (b.n)) (Mg 5 (Mp (sr (a.nk) (b.nk)) (Mg 5 (Mp (Qk (a.nl) (b.nl)) (Mg 0 (Mp (Tw (l8 a.kind b.kind) (l8 a.act b.act) (l8 a.item b.item) (l8 a.n b.n) (l8 a.nk b.nk) (nq a.nl b.nl)) (Mg 0 (Mf (aW (iV (wl [l8 a.kind b.kind,l8 a.act b.act,l8 a.item b.item,l8 a.n b.n,l8 a.nk b.nk,nq a.nl b.nl])))))))))))))))))))
theorem IQ (O:List AObj) (l:List PKey) (ep n:Nat) (hO:O.length=2) (hn:n=l.length) (hz:0<l.length) (hb:l.length<2 ^ 40) (hg:(ae (O++ [.row 6 true ep (l.map bP)])).get 2=some (.row 6 true ep (l.map bP))) (hp:(ae (O++ [.row 6 true ep (l.map bP)])).put 2 (.row 6 true ep ((gL l).map bP))=ae (O++ [.row 6 true ep ((gL l).map bP)])) :
    kD 98 [.slice 2 ep 0 n none, .func (.func 265) [] []] (ae (O++ [.row 6 true ep (l.map bP)])) (.tuple []) (ae (O++ [.row 6 true ep ((gL l).map bP)])):=by
  subst hn
  refine (Aq (f:=98) (g:=265) (sz:=6) eP (Go.Proofs.Tryz.lkey.f6.enters rfl) (Go.Proofs.enters_of Tryz.func265 (by kernel_rfl) rfl)
    (fun m enc cf blk off cap d w hk h1 hO hc hH hblk hsz=>Go.Proofs.AnyQ.slices_SortFunc Go.Proofs.Tryz.lkey 6 Tryz.isAgg114 Tryz.sizeOf114 enc hk h1 cf hO 265 #[] blk off cap d w (Go.Proofs.enters_of Tryz.func265 (by kernel_rfl) rfl) hc hH hblk hsz)
    bP rk YK (fun a=>⟨_,rfl⟩) (fun a=>rfl) l (fun a _ b _=>L5 a b) (op:=true) hg hz (by omega)).mono fun v h ⟨l',⟨h1,h2⟩,h3,h4⟩=>?_
  have e:l'=gL l:=BK h1 (h2.imp fun {a b} h=>(Yw a b).1 h)
  subst e
  exact ⟨h3,h4.trans hp⟩
theorem FU:kP 98 [.nils, .func (.func 265) [] []] (.tuple []):=
  td (Go.Proofs.Tryz.lkey.f6.enters rfl) fun p cap fv w=>Go.Proofs.AnyF.slices_SortFunc_none { Go.Proofs.Tryz.lkey with } p cap fv w
def Cq (m:List (PKey × Bool)) (y:Nat × List PKey):Prop:=y.2.Perm (m.map (·.1))∧y.2.length=m.length
theorem TS (m:List (PKey × Bool)) (hm:m.length≤2 ^ 30) (hz:0<m.length):aB Tryz.prog G 366 [.nils, .func (.func 321) [] [.ptr 1 0 0 0]] (ae [.map (be bP AV.bool m 0) m.length, .row 1 false 0 [.map 0]])
    (fun v h=>∃ y:Nat × List PKey,Cq m y∧v = .slice 2 y.1 0 m.length none∧h=ae [.map (be bP AV.bool m 0) m.length, .row 1 false 0 [.map 0], .row 6 true y.1 (y.2.map bP)]):=
  (zD m hm).mono fun v h ⟨seen,⟨h1,h2,h3⟩,h4⟩=>by
    have hp:(seen.map fun i=>(gD m i).1).Perm (m.map (·.1)):=by
      refine ((Rx h1 h2 h3).map fun i=>(gD m i).1).trans (.of_eq ?_)
      have:=congrArg (List.map Prod.fst) (Ll m)
      rw [List.map_map] at this
      exact this
    have hl:seen.length=m.length:=by have:=hp.length_eq;simpa using this
    rcases h4 with ⟨rfl,_,_⟩ | ⟨e,_,rfl,rfl⟩
    · simp at hl;omega
    · exact ⟨(e,seen.map fun i=>(gD m i).1),⟨hp,by simpa using hl⟩,by rw [hl],by simp only [List.map_map];rfl⟩
theorem Q9:kD 366 [.nils, .func (.func 321) [] [.ptr 1 0 0 0]] (ae [.map [] 0, .row 1 false 0 [.map 0]]) .nils (ae [.map [] 0, .row 1 false 0 [.map 0]]):=
  (zD [] (by decide)).mono fun v h ⟨seen,⟨h1,h2,h3⟩,h4⟩=>by
    rcases h4 with ⟨rfl,h4,h5⟩ | ⟨e,hne,_,_⟩
    · exact ⟨h4,h5⟩
    · cases seen with
      | nil=>exact absurd rfl hne
      | cons i r=>exact absurd (h2 i (by simp)) (by simp)
theorem TG (m:List (PKey × Bool)) (hm:m.length≤2 ^ 30) (hz:0<m.length):kC 320 [.func (.func 321) [] [.ptr 1 0 0 0]] (ae [.map (be bP AV.bool m 0) m.length, .row 1 false 0 [.map 0]])
    (fun v h=>∃ y:Nat × List PKey,Cq m y∧v = .slice 2 y.1 0 m.length none∧h=ae [.map (be bP AV.bool m 0) m.length, .row 1 false 0 [.map 0], .row 6 true y.1 (y.2.map bP)]):=by
  have ha:=TS m hm hz
  exact vT Tryz.func320 (fun qq=>Mg 1 (Mq (ha) fun y0 hy0=>Mg 0 (Mf (qq ((y0.1,y0.2)) (by assumption)))))
theorem QL:kD 320 [.func (.func 321) [] [.ptr 1 0 0 0]] (ae [.map [] 0, .row 1 false 0 [.map 0]]) .nils (ae [.map [] 0, .row 1 false 0 [.map 0]]):=by
  exact gI Tryz.func320 (fun qq=>Mg 1 (Me (Q9) (Mg 0 (Mf qq))))
theorem YV (m:List (PKey × Bool)) (hm:m.length≤2 ^ 30) (hz:0<m.length) (y:Nat × List PKey) (hy:Cq m y):kD 98 [.slice 2 y.1 0 m.length none, .func (.func 265) [] []] (ae [.map (be bP AV.bool m 0) m.length, .row 1 false 0 [.map 0], .row 6 true y.1 (y.2.map bP)]) (.tuple []) (ae [.map (be bP AV.bool m 0) m.length, .row 1 false 0 [.map 0], .row 6 true y.1 ((gL (m.map (·.1))).map bP)]):=by
  have e:gL y.2=gL (m.map (·.1)):=BK ((nD y.2).trans hy.1) (nC y.2)
  have h:=IQ [.map (be bP AV.bool m 0) m.length, .row 1 false 0 [.map 0]] y.2 y.1 m.length rfl hy.2.symm (by have:=hy.2;omega) (by have:=hy.2;omega) rfl rfl
  rw [e] at h
  exact h
theorem N0 (m:List (PKey × Bool)) (hm:m.length≤2 ^ 30) (hz:0<m.length):kC 263 [.func (.func 321) [] [.ptr 1 0 0 0], .func (.func 265) [] []] (ae [.map (be bP AV.bool m 0) m.length, .row 1 false 0 [.map 0]])
    (fun v h=>∃ y:Nat × List PKey,Cq m y∧v = .slice 2 y.1 0 m.length none∧h=ae [.map (be bP AV.bool m 0) m.length, .row 1 false 0 [.map 0], .row 6 true y.1 ((gL (m.map (·.1))).map bP)]):=by
  have hc:=TG m hm hz
  have hs:=YV m hm hz
  exact vT Tryz.func263 (fun qq=>Mg 1 (Mq (hc) fun y0 hy0=>Mg 2 (Me (hs y0 hy0) (Mg 1 (Mf (qq ((y0.1,y0.2)) (by assumption)))))))
theorem Lw:kD 263 [.func (.func 321) [] [.ptr 1 0 0 0], .func (.func 265) [] []] (ae [.map [] 0, .row 1 false 0 [.map 0]]) .nils (ae [.map [] 0, .row 1 false 0 [.map 0]]):=by
  exact gI Tryz.func263 (fun qq=>Mg 1 (Me (QL) (Mg 2 (Mp (FU) (Mg 1 (Mf qq))))))
theorem FY (m:List (PKey × Bool)):kD 264 [.map 0] (ae [.map (be bP AV.bool m 0) m.length]) (.func (.func 321) [] [.ptr 1 0 0 0]) (ae [.map (be bP AV.bool m 0) m.length, .row 1 false 0 [.map 0]]):=by
  exact gI Tryz.func264 (fun qq=>Mg 3 (Mf qq))
theorem L4:kD 264 [.map 0] (ae [.map [] 0]) (.func (.func 321) [] [.ptr 1 0 0 0]) (ae [.map [] 0, .row 1 false 0 [.map 0]]):=FY []
theorem OY:kD 198 [.map 0] (ae [.map [] 0]) .nils (ae [.map [] 0]):=by
  exact gI Tryz.func198 (fun qq=>Mg 1 (Me (L4) (Me (Lw) (Mg 0 (M1 (.frz 1 [2]) (et rt ti) (Mf qq))))))
theorem RT (m:List (PKey × Bool)) (hm:m.length≤2 ^ 30) (hz:0<m.length):kD 198 [.map 0] (ae [.map (be bP AV.bool m 0) m.length]) (.ls ((gL (m.map (·.1))).map bP)) (ae [.map (be bP AV.bool m 0) m.length]):=by
  have hk:=FY m
  have hs:=N0 m hm hz
  have ht:=mf m 0
  have hsl:(gL (m.map (·.1))).length=m.length:=by rw [(nD _).length_eq,lM]
  have htk:(gL (m.map (·.1))).take m.length=gL (m.map (·.1)):=re (by omega)
  exact Yi Tryz.func198 (.go 1 (.efd (bg (bf 321) [] [AV.ptr 1 0 0 0]) (ae [AObj.map (be bP dW m 0) m.length,aw 1 false 0 [AV.map 0]]) (.eff (Nat × List PKey) (fun y0=>dt 2 y0.1 0 m.length none) (fun y0=>ae [AObj.map (be bP dW m 0) m.length,aw 1 false 0 [AV.map 0],aw 6 true y0.1 ((gL (m.map (fun x=>x.1))).map bP)]) (fun y0=>Cq m y0) (fun y0=>(.go 0 (.fsl 1 [] 2 ((gL (m.map (fun x=>x.1))).map bP) (.le 2 (aU ((gL (m.map (fun x=>x.1))).map bP)) .fin))))))) (fun qq=>(eR (hk) (hs) (fun (y0:Nat × List PKey) (hy0:Cq m y0)=>(mu (et (Cw (c:=m.length) (n:=1) (by assumption:dT (be bP dW m 0)=0)) ti) (eR (ax (y0.1)) (c8 (f:=bP) (l:=gL (m.map (fun x=>x.1))) (n:=m.length) (by assumption:(gL (m.map (fun x=>x.1))).length=m.length)) (aK zV (gL (m.map (fun x=>x.1))))) (ib ((gL (m.map (fun x=>x.1))).map bP) (false) (aK zV (gL (m.map (fun x=>x.1))))) qq))))
end Go.Proofs.YtefibmgdgameaaaGreatDoor
