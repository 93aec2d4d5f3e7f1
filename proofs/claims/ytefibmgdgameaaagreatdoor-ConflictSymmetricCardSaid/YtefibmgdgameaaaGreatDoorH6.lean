/- Functions walked: what each of them answers, for the law of acts that conflict: part 6. Conditions: those that each theorem names. -/
import Derived.Test.YtefibmgdgameaaaGreatDoorH5
namespace Go.Proofs.YtefibmgdgameaaaGreatDoor
open Go Go.Ev
noncomputable abbrev A8 (l:List PWord):AObj:= .row 4 true 0 (l.map aQ)
noncomputable def D7:TypeInfo:=(Tryz.prog.info? 121).getD default
theorem D6:Tryz.prog.info? 121=some D7:=by kernel_rfl
theorem xW:D7.size=4:=by kernel_rfl
theorem uF:D7.bytes=40:=by kernel_rfl
theorem Uf (l:List PWord):dh 4 (l.map aQ)=true:=fa (fun w=>by cases w;rfl) l
/-- A copy of words: a row of its own. -/
theorem YI (ws:List PWord) (hl:ws.length≤2 ^ 20) (a b c d:AObj):kD 180 [.ls (ws.map aQ)] (ae [a,b,c,d]) (.sl0 4 0 ws.length none) (ae [a,b,c,d,A8 ws]):=by
  by_cases hne:ws = []
  · subst hne
    have hE:(ae [a,b,c,d]).push (A8 [])=ae [a,b,c,d,A8 []]:=by kernel_rfl
    have h:=aB.psh (o:=A8 []) (u:= .sl0 4 0 0 none) (pR [] (by omega) (ae [a,b,c,d])) Do
    simp_all
  have hn:ws.map aQ≠ []:=fun h=>hne (List.map_eq_nil_iff.1 h)
  have hf:=Uf ws
  have hsm:small (ws.map aQ).length 40=true:=by grind [aA]
  have hlen:ws.length=(ws.map aQ).length:=(eZ ..).symm
  unfold A8
  rw [hlen]
  generalize ws.map aQ=L at hn hf hsm
  refine (aB.less (Ψ:=fun v h=>v = .slice 4 0 0 L.length none∧h=ae [a,b,c,d, .row 4 true 0 L]) ?_ fun v h ⟨h1,h2⟩=>⟨_,h1 ▸ Le.sl0,rfl,h2⟩)
  refine aB.enter 2 (fn:=Tryz.f180) Tryz.func180 (by kernel_rfl) rfl ⟨by kernel_rfl,by kernel_rfl⟩ ?_
  refine am.seq (am.mono (rY io eP (ev 40) (s':=⟨co 8 [(0, .ls L),(2, .nils)],ae [a,b,c,d]⟩) (.go 0 .fin) (by kernel_rfl)) ?_)
  rintro _ _ ⟨rfl,rfl⟩
  refine am.seq (am.seq (am.mono (ma eP (ev 40) (Ψ:=fun s=>s=⟨co 8 [(0, .ls L),(2, .nils),(3, .ps L false),(4, .bool false)],ae [a,b,c,d]⟩) (.go 0 (.nz 3 .abs (.go 0 .fin)))
    (W:=(L = []→False)∧(⟨co 8 [(0, .ls L),(2, .nils),(3, .ps L false),(4, .bool false)],ae [a,b,c,d]⟩:St)=⟨co 8 [(0, .ls L),(2, .nils),(3, .ps L false),(4, .bool false)],ae [a,b,c,d]⟩) ⟨hn,rfl⟩ (by kernel_rfl)) ?_))
  rintro _ _ ⟨rfl,rfl⟩
  refine am.cond (t:=false) (by kernel_rfl) (fun h=>by grind) fun _=>am.skip ?_
  refine am.seq (am.region ?_)
  show b6 _ _ _ _ [_,_,_,_] _ _
  refine b6.one (s':=⟨co 8 [(0, .ls L),(2, .nils),(3, .ps L false),(4, .bool false),(5, .ps [] true)],ae [a,b,c,d]⟩) (ev 40) (by kernel_rfl) ?_
  refine b6.one (s':=⟨co 8 [(0, .ls L),(2, .nils),(3, .ps L false),(4, .bool false),(5, .ps [] true),(6, .ls L)],ae [a,b,c,d]⟩) (ev 40) (by kernel_rfl) ?_
  refine qW (I:=fun k:Nat=>k=0) (r:=fun _=> .slice 4 0 0 L.length none) (H:=fun _=>ae [a,b,c,d, .row 4 true 0 L]) (by kernel_rfl)
    (fun pl M a w g1 g2 g3=>vN (z:=aQ ⟨[],0,0,0⟩) (z0:=aQ ⟨[],0,0,0⟩) (xs:=L) (t:=24) (tx:=24) (e:=121) (i:=D7) xW uF (by kernel_rfl) ⟨121,by kernel_rfl⟩ D6 (by kernel_rfl) (Le.refl _) (by kernel_rfl) (by kernel_rfl) hn hf (by kernel_rfl) hsm (by omega) pl M a w g1 g2 g3) fun k _=>?_
  refine ⟨co 8 [(0, .ls L),(2, .nils),(3, .ps L false),(4, .bool false),(5, .ps [] true),(6, .ls L),(7, .slice 4 0 0 L.length none)],by kernel_rfl,?_⟩
  refine b6.one (s':=⟨co 8 [(0, .ls L),(2, .slice 4 0 0 L.length none),(3, .ps L false),(4, .bool false),(5, .ps [] true),(6, .ls L),(7, .slice 4 0 0 L.length none)],ae [a,b,c,d, .row 4 true 0 L]⟩) (ev 40) (by kernel_rfl) (b6.nil (am.ret ⟨fun id h=>(by grind), .slice 4 0 0 L.length none,by kernel_rfl,by kernel_rfl,by kernel_rfl⟩))
theorem YH (ws:List PWord) (hl:ws.length≤2 ^ 20) (a b c d e:AObj):kD 180 [.ls (ws.map aQ)] (ae [a,b,c,d,e]) (.sl0 5 0 ws.length none) (ae [a,b,c,d,e,A8 ws]):=by
  by_cases hne:ws = []
  · subst hne
    have hE:(ae [a,b,c,d,e]).push (A8 [])=ae [a,b,c,d,e,A8 []]:=by kernel_rfl
    have h:=aB.psh (o:=A8 []) (u:= .sl0 5 0 0 none) (pR [] (by omega) (ae [a,b,c,d,e])) Do
    simp_all
  have hn:ws.map aQ≠ []:=fun h=>hne (List.map_eq_nil_iff.1 h)
  have hf:=Uf ws
  have hsm:small (ws.map aQ).length 40=true:=by grind [aA]
  have hlen:ws.length=(ws.map aQ).length:=(eZ ..).symm
  unfold A8
  rw [hlen]
  generalize ws.map aQ=L at hn hf hsm
  refine (aB.less (Ψ:=fun v h=>v = .slice 5 0 0 L.length none∧h=ae [a,b,c,d,e, .row 4 true 0 L]) ?_ fun v h ⟨h1,h2⟩=>⟨_,h1 ▸ Le.sl0,rfl,h2⟩)
  refine aB.enter 2 (fn:=Tryz.f180) Tryz.func180 (by kernel_rfl) rfl ⟨by kernel_rfl,by kernel_rfl⟩ ?_
  refine am.seq (am.mono (rY io eP (ev 40) (s':=⟨co 8 [(0, .ls L),(2, .nils)],ae [a,b,c,d,e]⟩) (.go 0 .fin) (by kernel_rfl)) ?_)
  rintro _ _ ⟨rfl,rfl⟩
  refine am.seq (am.seq (am.mono (ma eP (ev 40) (Ψ:=fun s=>s=⟨co 8 [(0, .ls L),(2, .nils),(3, .ps L false),(4, .bool false)],ae [a,b,c,d,e]⟩) (.go 0 (.nz 3 .abs (.go 0 .fin)))
    (W:=(L = []→False)∧(⟨co 8 [(0, .ls L),(2, .nils),(3, .ps L false),(4, .bool false)],ae [a,b,c,d,e]⟩:St)=⟨co 8 [(0, .ls L),(2, .nils),(3, .ps L false),(4, .bool false)],ae [a,b,c,d,e]⟩) ⟨hn,rfl⟩ (by kernel_rfl)) ?_))
  rintro _ _ ⟨rfl,rfl⟩
  refine am.cond (t:=false) (by kernel_rfl) (fun h=>by grind) fun _=>am.skip ?_
  refine am.seq (am.region ?_)
  show b6 _ _ _ _ [_,_,_,_] _ _
  refine b6.one (s':=⟨co 8 [(0, .ls L),(2, .nils),(3, .ps L false),(4, .bool false),(5, .ps [] true)],ae [a,b,c,d,e]⟩) (ev 40) (by kernel_rfl) ?_
  refine b6.one (s':=⟨co 8 [(0, .ls L),(2, .nils),(3, .ps L false),(4, .bool false),(5, .ps [] true),(6, .ls L)],ae [a,b,c,d,e]⟩) (ev 40) (by kernel_rfl) ?_
  refine qW (I:=fun k:Nat=>k=0) (r:=fun _=> .slice 5 0 0 L.length none) (H:=fun _=>ae [a,b,c,d,e, .row 4 true 0 L]) (by kernel_rfl)
    (fun pl M a w g1 g2 g3=>vN (z:=aQ ⟨[],0,0,0⟩) (z0:=aQ ⟨[],0,0,0⟩) (xs:=L) (t:=24) (tx:=24) (e:=121) (i:=D7) xW uF (by kernel_rfl) ⟨121,by kernel_rfl⟩ D6 (by kernel_rfl) (Le.refl _) (by kernel_rfl) (by kernel_rfl) hn hf (by kernel_rfl) hsm (by omega) pl M a w g1 g2 g3) fun k _=>?_
  refine ⟨co 8 [(0, .ls L),(2, .nils),(3, .ps L false),(4, .bool false),(5, .ps [] true),(6, .ls L),(7, .slice 5 0 0 L.length none)],by kernel_rfl,?_⟩
  refine b6.one (s':=⟨co 8 [(0, .ls L),(2, .slice 5 0 0 L.length none),(3, .ps L false),(4, .bool false),(5, .ps [] true),(6, .ls L),(7, .slice 5 0 0 L.length none)],ae [a,b,c,d,e, .row 4 true 0 L]⟩) (ev 40) (by kernel_rfl) (b6.nil (am.ret ⟨fun id h=>(by grind), .slice 5 0 0 L.length none,by kernel_rfl,by kernel_rfl,by kernel_rfl⟩))
noncomputable abbrev Cn (u:TUnit) (k:AV):AV:= .agg [iV u.act,iV u.item,iV u.n,iV u.kind, .str u.label, .sl0 3 0 u.head.length none, .sl0 4 0 u.words.length none,k]
noncomputable abbrev TL (u:TUnit) (i j:Nat) (k:AV):AObj:= .row 8 false 0 [.agg [iV u.act,iV u.item,iV u.n,iV u.kind, .str u.label, .sl0 i 0 u.head.length none, .sl0 j 0 u.words.length none,k]]
def Iu (u:TUnit) (x0:Nat × List TUnit × Unit):Prop:=(u.kids).drop x0.1=x0.2.1∧x0.2.1=u.kids
noncomputable def zc (u:TUnit) (x0:Nat × List TUnit × Unit):List AV × List AObj:=([AV.ptr 2 0 0 0,AV.ptr 3 0 0 0,AV.nils,AV.ls (u.kids.map aX),nV u.kids.length,nV x0.1], [AObj.row 8 false 0 [AV.agg [iV u.act,iV u.item,iV u.n,iV u.kind,AV.str u.label,AV.ls (u.head.map aQ),AV.ls (u.words.map aQ),AV.ls (u.kids.map aX)]],AObj.row 8 false 0 [AV.agg [iV 0,iV 0,iV 0,iV 0,AV.str [],AV.nils,AV.nils,AV.nils]],AObj.row 8 false 0 [AV.agg [iV u.act,iV u.item,iV u.n,iV u.kind,AV.str u.label,AV.sl0 4 0 u.head.length none,AV.sl0 5 0 u.words.length none,AV.ls (u.kids.map aX)]],AObj.row 8 false 0 [AV.agg [iV 0,iV 0,iV 0,iV 0,AV.str [],AV.nils,AV.nils,AV.nils]],AObj.row 4 true 0 (u.head.map aQ),AObj.row 4 true 0 (u.words.map aQ)])
def It (u:TUnit) (x0:Nat × List TUnit × Nat × Nat × List TUnit):Prop:=(u.kids).drop x0.1=x0.2.1∧x0.2.2.2.1=x0.2.2.2.2.length∧(0:Nat)<x0.2.2.2.2.length∧x0.2.2.2.2++x0.2.1=u.kids∧x0.2.2.2.2.length+x0.2.1.length=u.kids.length
noncomputable def Is (u:TUnit) (x0:Nat × List TUnit × Nat × Nat × List TUnit):List AV × List AObj:=([AV.ptr 2 0 0 0,AV.ptr 3 0 0 0,AV.slice 6 x0.2.2.1 0 x0.2.2.2.1 none,AV.ls (u.kids.map aX),nV u.kids.length,nV x0.1], [AObj.row 8 false 0 [AV.agg [iV u.act,iV u.item,iV u.n,iV u.kind,AV.str u.label,AV.ls (u.head.map aQ),AV.ls (u.words.map aQ),AV.ls (u.kids.map aX)]],AObj.row 8 false 0 [AV.agg [iV 0,iV 0,iV 0,iV 0,AV.str [],AV.nils,AV.nils,AV.nils]],AObj.row 8 false 0 [AV.agg [iV u.act,iV u.item,iV u.n,iV u.kind,AV.str u.label,AV.sl0 4 0 u.head.length none,AV.sl0 5 0 u.words.length none,AV.ls (u.kids.map aX)]],AObj.row 8 false 0 [AV.agg [iV 0,iV 0,iV 0,iV 0,AV.str [],AV.nils,AV.nils,AV.nils]],AObj.row 4 true 0 (u.head.map aQ),AObj.row 4 true 0 (u.words.map aQ),AObj.row 8 true x0.2.2.1 (x0.2.2.2.2.map aX)])
theorem Xc (u:TUnit) (hk:0<u.kids.length) (hn:nU u≤2 ^ 20) (ht : ∀ x,x∈bB u→x.head.length≤2 ^ 20∧x.words.length≤2 ^ 20):kC 90 [eU u] (ae [uG u,uC])
    (fun v h=>∃ y:Nat × Nat × List TUnit,(y.2.1=u.kids.length∧y.2.2=u.kids)∧v=Cn u (.slice 5 y.1 0 y.2.1 none)∧h=ae [uG u,uC,TL u 3 4 (.slice 5 y.1 0 y.2.1 none),A8 u.head,A8 u.words, .row 8 true y.1 (y.2.2.map aX)]):=by
  have hkl:=bq u
  have c1:=(ht u (dJ u)).1
  have c2:=(ht u (dJ u)).2
  have ihk : ∀ k,k∈u.kids→kP 90 [eU k] (eU k):=fun k hk=>Gm k (bL (mU (fW hk)) hn) (fun x hx=>⟨wN (ht x (bC hk hx)).1 (by omega),wN (ht x (bC hk hx)).2 (by omega)⟩)
  let q1:= [ab [iV u.act,iV u.item,iV u.n,iV u.kind,af u.label,aU (u.head.map aQ),aU (u.words.map aQ),aU (u.kids.map aX)]];let q2:= [ab [iV 0,iV 0,iV 0,iV 0,af [],aR,aR,aR]];let q3:=aw 8 false 0 q2;let q4:=aw 8 false 0 q1;let q5:=List.map aQ u.head;let q6:=aw 4 true 0 q5;exact vT Tryz.func90 (fun qq=>Mg 3 (M3 (.efx true (AV.sl0 4 0 u.head.length none) (ae [aw 8 false 0 q1,aw 8 false 0 q2,aw 8 false 0 q1,aw 8 false 0 q2,aw 4 true 0 q5])) (Qy rt rt rt rt ti) (Qy (ax (some q3)) (ax (some q4)) (ax (some q3)) (ax (some q4)) ti) (YI (u.head) c1 q4 q3 q4 q3) (Mg 1 (M3 (.efx true (AV.sl0 5 0 u.words.length none) (ae [aw 8 false 0 q1,aw 8 false 0 q2,aw 8 false 0 q1,aw 8 false 0 q2,aw 4 true 0 q5,aw 4 true 0 (u.words.map aQ)])) (Qv (bZ (sz:=4) (op:=true) (ep:=0) (n:=5) (aK iB (u.head))) rt rt rt rt ti) (Qv (ax (some q6)) (ax (some q3)) (ax (some q4)) (ax (some q3)) (ax (some q4)) ti) (YH (u.words) c2 q4 q3 q4 q3 q6) (Mg 7 (Ml 16 (Le.len (f:=aX) (l:=u.kids)) (Mg 0 (MM (Nat × List TUnit × Unit) (Nat × List TUnit × Nat × Nat × List TUnit) [1,2,3,15,16,17] (zc u) (Is u) (Iu u) (It u) (fun x=>x.2.1.length) (fun x=>x.2.1.length) (.inl (0,u.kids,())) (ax ((zc u) (0,u.kids,()))) (et (rfl:List.drop 0 (u.kids)=u.kids) (by rfl:(u.kids=u.kids))) (fun x0 hx0 nx0=>Mc x0.2.1 (fun hr0=>have lt0:=ai hx0.1 hr0;(have hj0:=aF (J:=fun r x=>r=u.kids) (a:=x0.2.2) hr0 hx0.2;(Mg 0 (Mh lt0 (Mg 4 (Mw .abs (by simp_all:False))))))) (fun w0 r0 hr0=>have lt0:=aD hx0.1 hr0;(have glt0:=aJ lt0;(have nt0:=(ah (enc:=aX) hx0.1 hr0).trans (congrArg some (aC w0));(have hj0:=aE (J:=fun r x=>r=u.kids) (a:=x0.2.2) hr0 hx0.2;(Mg 0 (Mt lt0 (Mx nt0 (Mg 4 (Mp (ihk w0 (by grind)) (Mg 1 (M1 (.obj 7 (aw 8 true 0 (List.map aX [w0]))) (congrArg (aw 8 true (0)) (SF (f:=aX) (g:=Go.Ev.eU) (ws:= [w0]) aC)) (Mg 1 (Ml 26 (Le.wr (x:=Int.ofNat x0.1+1) cq) (Mg 0 (Mw (.ren [0,1,2,3,4,5,7,6] [4,5,7] [1,2,3,15,16,17] (.frz 7 [1,2,3,15,16,17] .fin)) (Qy (kY (sz:=4) (op:=true) (ep:=0) (aK iB (u.head))) (kY (sz:=4) (op:=true) (ep:=0) (aK iB (u.words))) (kY (sz:=8) (op:=true) (ep:=0) (aK gN ([w0]))) (YF (bZ (sz:=8) (op:=true) (ep:=0) (n:=7) (aK gN ([w0]))) (bZ (sz:=4) (op:=true) (ep:=0) (n:=7) (aK iB (u.words))) (bZ (sz:=4) (op:=true) (ep:=0) (n:=7) (aK iB (u.head))) rt rt rt rt ti) (nx0 (.inr (x0.1+1,r0,(0,1, [w0]))) (et (ay hx0.1 hr0) (by (refine ⟨rfl,by simp,?_,?_⟩ <;> (rw [← hj0]) <;> (first | rfl | grind)):((1:Nat) = [w0].length∧(0:Nat) < [w0].length∧ [w0]++r0=u.kids∧ [w0].length+r0.length=u.kids.length))) (aO hr0))))))))))))))))))) (fun x0 hx0 nx0=>Mc x0.2.1 (fun hr0=>have lt0:=ai hx0.1 hr0;(have hj0:=aF (J:=fun r x=>x.2.1=x.2.2.length∧(0:Nat)<x.2.2.length∧x.2.2++r=u.kids∧x.2.2.length+r.length=u.kids.length) (a:=x0.2.2) hr0 hx0.2;(Mg 0 (Mh lt0 (Mg 4 (Mw (.ren [0,1,3,4,5,6,2] [4,5,6] [2] (.frz 6 [2] .fin)) (Qy (kY (sz:=4) (op:=true) (ep:=0) (aK iB (u.head))) (kY (sz:=4) (op:=true) (ep:=0) (aK iB (u.words))) (kY (sz:=8) (op:=true) (ep:=x0.2.2.1) (aK gN (x0.2.2.2.2))) (YG (bZ (sz:=8) (op:=true) (ep:=x0.2.2.1) (n:=6) (aK gN (x0.2.2.2.2))) (bZ (sz:=4) (op:=true) (ep:=0) (n:=6) (aK iB (u.words))) (bZ (sz:=4) (op:=true) (ep:=0) (n:=6) (aK iB (u.head))) rt rt rt ti) (qq ((x0.2.2.1,x0.2.2.2.1,x0.2.2.2.2)) (by simp_all))))))))) (fun w0 r0 hr0=>have lt0:=aD hx0.1 hr0;(have glt0:=aJ lt0;(have nt0:=(ah (enc:=aX) hx0.1 hr0).trans (congrArg some (aC w0));(have hj0:=aE (J:=fun r x=>x.2.1=x.2.2.length∧(0:Nat)<x.2.2.length∧x.2.2++r=u.kids∧x.2.2.length+r.length=u.kids.length) (a:=x0.2.2) hr0 hx0.2;(Mg 0 (Mt lt0 (Mx nt0 (Mg 4 (Mp (ihk w0 (by grind)) (Mg 0 (M1 .app (eR (ax (x0.2.2.1)) (by simp_all:x0.2.2.2.1=(x0.2.2.2.2.map aX).length) (by (refine aA (m:=2 ^ 21) ?_ ?_ ?_ <;> omega):small (x0.2.2.2.1+1) 120=true)) (M1 (.obj 6 (aw 8 true (x0.2.2.1+1) ((x0.2.2.2.2++ [w0]).map aX))) (congrArg (aw 8 true (x0.2.2.1+1)) (wt (f:=aX) (g:=Go.Ev.eU) (l:=x0.2.2.2.2) (ws:= [w0]) aC)) (Mg 1 (Ml 26 (Le.wr (x:=Int.ofNat x0.1+1) cq) (Mg 0 (M1 (.frz 7 [1,2,3,15,16,17]) (YF (bZ (sz:=8) (op:=true) (ep:=x0.2.2.1+1) (n:=7) (aK gN (x0.2.2.2.2++ [w0]))) (bZ (sz:=4) (op:=true) (ep:=0) (n:=7) (aK iB (u.words))) (bZ (sz:=4) (op:=true) (ep:=0) (n:=7) (aK iB (u.head))) rt rt rt rt ti) (Mf (nx0 (.inr (x0.1+1,r0,(x0.2.2.1+1,x0.2.2.2.1+1,x0.2.2.2.2++ [w0]))) (et (ay hx0.1 hr0) (by (refine ⟨by simp_all,by simp,?_,?_⟩ <;> first | (rw [← hj0.2.2.1];simp;done) | grind):(x0.2.2.2.1+(1:Nat)=(x0.2.2.2.2++ [w0]).length∧(0:Nat)<(x0.2.2.2.2++ [w0]).length∧x0.2.2.2.2++ [w0]++r0=u.kids∧(x0.2.2.2.2++ [w0]).length+r0.length=u.kids.length))) (aO hr0))))))))))))))))))))))))))))
theorem Xd (u:TUnit) (hk:u.kids = []) (ht : ∀ x,x∈bB u→x.head.length≤2 ^ 20∧x.words.length≤2 ^ 20):kD 90 [eU u] (ae [uG u,uC]) (Cn u .nils) (ae [uG u,uC,TL u 3 4 .nils,A8 u.head,A8 u.words]):=by
  have c1:=(ht u (dJ u)).1
  have c2:=(ht u (dJ u)).2
  have hz:ao 0 (Int.ofNat u.kids.length)=false:=by rw [hk];rfl
  let q:= [ab [iV u.act,iV u.item,iV u.n,iV u.kind,af u.label,aU (u.head.map aQ),aU (u.words.map aQ),aU (u.kids.map aX)]];let q1:= [ab [iV 0,iV 0,iV 0,iV 0,af [],aR,aR,aR]];let q2:= [aw 8 false 0 q,aw 8 false 0 q1,aw 8 false 0 [ab [iV u.act,iV u.item,iV u.n,iV u.kind,af u.label,AV.sl0 4 0 u.head.length none,AV.sl0 5 0 u.words.length none,aU (u.kids.map aX)]],aw 8 false 0 q1,aw 4 true 0 (u.head.map aQ),aw 4 true 0 (u.words.map aQ)];let q3:=aw 8 false 0 q1;let q4:=aw 8 false 0 q;let q5:= [AV.ptr 2 0 0 0,AV.ptr 3 0 0 0,aR,aU (u.kids.map aX),nV u.kids.length,iV 0];let q6:=List.map aQ u.head;let q7:=aw 4 true 0 q6;exact gI Tryz.func90 (fun qq=>Mg 3 (M3 (.efx true (AV.sl0 4 0 u.head.length none) (ae [aw 8 false 0 q,aw 8 false 0 q1,aw 8 false 0 q,aw 8 false 0 q1,aw 4 true 0 q6])) (Qy rt rt rt rt ti) (Qy (ax (some q3)) (ax (some q4)) (ax (some q3)) (ax (some q4)) ti) (YI (u.head) c1 q4 q3 q4 q3) (Mg 1 (M3 (.efx true (AV.sl0 5 0 u.words.length none) (ae [aw 8 false 0 q,aw 8 false 0 q1,aw 8 false 0 q,aw 8 false 0 q1,aw 4 true 0 q6,aw 4 true 0 (u.words.map aQ)])) (Qv (bZ (sz:=4) (op:=true) (ep:=0) (n:=5) (aK iB (u.head))) rt rt rt rt ti) (Qv (ax (some q7)) (ax (some q3)) (ax (some q4)) (ax (some q3)) (ax (some q4)) ti) (YH (u.words) c2 q4 q3 q4 q3 q7) (Mg 7 (Ml 16 (Le.len (f:=aX) (l:=u.kids)) (Mg 0 (ML Unit [1,2,3,15,16,17] (fun _=>(q5,q2)) (fun _=>True) (fun _=>0) () (ax ((q5,q2):List AV × List AObj)) ti (fun _ _ nx=>Mg 0 (Mh hz (Mg 4 (M2 (.ren [0,1,3,4,5,2] [4,5] [2]) (kY (sz:=4) (op:=true) (ep:=0) (aK iB (u.head))) (kY (sz:=4) (op:=true) (ep:=0) (aK iB (u.words))) (M1 (.frz 5 [2]) (Qv (bZ (sz:=4) (op:=true) (ep:=0) (n:=5) (aK iB (u.words))) (bZ (sz:=4) (op:=true) (ep:=0) (n:=5) (aK iB (u.head))) rt rt rt ti) (Mf qq))))))))))))))
noncomputable abbrev YQ (ep:Nat) (l:List TUnit):AObj:= .row 8 true ep (l.map aX)
theorem KZ (u:TUnit) {k k':AV} (h:Le k k') (h2:cM k=true):Le (Cn u k) (Cn u k'):=bX (.cons (Le.refl _) (.cons (Le.refl _) (.cons (Le.refl _) (.cons (Le.refl _) (.cons (Le.refl _) (.cons (Le.refl _) (.cons (Le.refl _) (.cons h .nil)))))))) (by simp only [jo,List.all_nil,h2];rfl)
theorem Xb (u:TUnit) (hn:nU u≤2 ^ 20) (ht : ∀ x,x∈bB u→x.head.length≤2 ^ 20∧x.words.length≤2 ^ 20):kC 90 [eU u] (ae [uG u,uC])
    (fun v h=>∃ ep:Nat,True∧v=Cn u (.sl0 5 ep u.kids.length none)∧h=ae [uG u,uC, .dead,A8 u.head,A8 u.words,YQ ep u.kids]):=by
  rcases Nat.eq_zero_or_pos u.kids.length with hk | hk
  · have hk:=List.length_eq_zero_iff.1 hk
    refine aB.dead (i:=2) (JZ (Ψ':=fun v h=>v=Cn u (.sl0 5 0 0 none)∧h=ae [uG u,uC,TL u 3 4 .nils,A8 u.head,A8 u.words,YQ 0 u.kids]) (YQ 0 u.kids) (Xd u hk ht) fun v h' ⟨h1,h2⟩=>⟨Cn u (.sl0 5 0 0 none),h1 ▸ KZ u Le.sl0n rfl,rfl,?_⟩) (ar 2) (by omega) fun v h' ⟨h1,h2⟩=>⟨0,trivial,by simp_all,?_⟩
    · rw [h2];kernel_rfl
    · rw [h2];kernel_rfl
  · refine aB.dead (i:=2) (aB.less (Ψ':=fun v h=>∃ ep:Nat,v=Cn u (.sl0 5 ep u.kids.length none)∧h=ae [uG u,uC,TL u 3 4 (.slice 5 ep 0 u.kids.length none),A8 u.head,A8 u.words,YQ ep u.kids]) (Xc u hk hn ht) fun v h' ⟨y,⟨e1,e2⟩,h1,h2⟩=>⟨Cn u (.sl0 5 y.1 u.kids.length none),?_,y.1,rfl,?_⟩) (ar 2) (by omega) fun v h' ⟨ep,h1,h2⟩=>⟨ep,trivial,h1,?_⟩
    · rw [h1,e1];exact KZ u Le.sl0 rfl
    · simp_all
    · rw [h2];kernel_rfl
/-- The first 'i' elements changed by 'f'. -/
def ij {α:Type} (f:α→α) (l:List α) (i:Nat):List α:=(l.take i).map f++l.drop i
theorem uK {α:Type} {f:α→α} {l:List α} {i:Nat} : (ij f l i).length=l.length:=by
  grind [ij]
theorem uV {α:Type} {f:α→α} {l:List α} {i:Nat} (h:l.length≤i):ij f l i=l.map f:=by
  grind [ij, List.take_of_length_le]
theorem yw {α:Type} [Inhabited α] {f:α→α} {l:List α} {i:Nat} (h:i<l.length):gD (ij f l i) i=gD l i:=by
  have e:((l.take i).map f).length=i:=by grind
  simp_all [ij, gD, om]
theorem Br {α:Type} [Inhabited α] {f:α→α} {l:List α} {i:Nat} (h:i<l.length):(ij f l i).set i (f (gD l i))=ij f l (i+1):=by
  have e:((l.take i).map f).length=i:=by grind
  have hg:gD l i=l[i]:=by unfold gD;simp_all
  unfold ij
  rw [List.set_append_right _ _ (by omega),e,Nat.sub_self,hg,JJ h,List.set_cons_zero,Jq h,mB,oM]
  rfl
theorem yk {l:List PWord} {i:Nat} (h:i<l.length):(ij dE l i).set i ⟨(gD (ij dE l i) i).text,0,0,0⟩=ij dE l (i+1):=by
  rw [yw h];exact Br h
def Ha (u:TUnit) (y0:Nat) (x1:Nat × List PWord):Prop:=x1.1≤u.head.length∧x1.2=ij dE u.head x1.1
noncomputable def xj (u:TUnit) (y0:Nat) (x1:Nat × List PWord):List AV × List AObj:=([AV.ptr 0 0 0 0,AV.ptr 1 0 0 0,AV.sl0 3 0 u.head.length none,AV.ps [AV.sl0 3 0 u.head.length none,AV.sl0 4 0 u.words.length none] true,iV 2,iV 0,nV u.head.length,nV x1.1], [AObj.row 8 false 0 [AV.agg [iV 0,iV 0,iV 0,iV u.kind,AV.str u.label,AV.sl0 3 0 u.head.length none,AV.sl0 4 0 u.words.length none,AV.sl0 5 y0 u.kids.length none]],AObj.row 8 false 0 [AV.agg [iV 0,iV 0,iV 0,iV 0,AV.str [],AV.nils,AV.nils,AV.nils]],AObj.dead,AObj.row 4 true 0 (x1.2.map aQ),AObj.row 4 true 0 (u.words.map aQ),AObj.row 8 true y0 (u.kids.map aX)])
def Hy (u:TUnit) (y0:Nat) (x1:Nat × List PWord) (x2:Nat × List PWord):Prop:=x2.1≤u.words.length∧x2.2=ij dE u.words x2.1
noncomputable def xz (u:TUnit) (y0:Nat) (x1:Nat × List PWord) (x2:Nat × List PWord):List AV × List AObj:=([AV.ptr 0 0 0 0,AV.ptr 1 0 0 0,AV.sl0 4 0 u.words.length none,AV.ps [AV.sl0 3 0 u.head.length none,AV.sl0 4 0 u.words.length none] true,iV 2,iV 1,nV u.words.length,nV x2.1], [AObj.row 8 false 0 [AV.agg [iV 0,iV 0,iV 0,iV u.kind,AV.str u.label,AV.sl0 3 0 u.head.length none,AV.sl0 4 0 u.words.length none,AV.sl0 5 y0 u.kids.length none]],AObj.row 8 false 0 [AV.agg [iV 0,iV 0,iV 0,iV 0,AV.str [],AV.nils,AV.nils,AV.nils]],AObj.dead,AObj.row 4 true 0 (x1.2.map aQ),AObj.row 4 true 0 (x2.2.map aQ),AObj.row 8 true y0 (u.kids.map aX)])
def Hv (u:TUnit) (y0:Nat) (x1:Nat × List PWord) (x2:Nat × List PWord) (x3:Nat × List TUnit):Prop:=x3.1≤u.kids.length∧x3.2=ij cY u.kids x3.1
noncomputable def xq (u:TUnit) (y0:Nat) (x1:Nat × List PWord) (x2:Nat × List PWord) (x3:Nat × List TUnit):List AV × List AObj:=([AV.ptr 0 0 0 0,AV.ptr 1 0 0 0,nV u.kids.length,nV x3.1], [AObj.row 8 false 0 [AV.agg [iV 0,iV 0,iV 0,iV u.kind,AV.str u.label,AV.sl0 3 0 u.head.length none,AV.sl0 4 0 u.words.length none,AV.sl0 5 y0 u.kids.length none]],AObj.row 8 false 0 [AV.agg [iV 0,iV 0,iV 0,iV 0,AV.str [],AV.nils,AV.nils,AV.nils]],AObj.dead,AObj.row 4 true 0 (x1.2.map aQ),AObj.row 4 true 0 (x2.2.map aQ),AObj.row 8 true y0 (x3.2.map aX)])
theorem NH : ∀ u:TUnit,nU u≤2 ^ 20→(∀ x,x∈bB u→x.head.length≤2 ^ 20∧x.words.length≤2 ^ 20)→kP 353 [eU u] (eU (cY u)):=by
  refine TUnit.ind fun u ih hn ht=>?_
  have hkl:=bq u
  have c1:=(ht u (dJ u)).1
  have c2:=(ht u (dJ u)).2
  have hc:=Xb u hn ht
  have ihk : ∀ k,k∈u.kids→kP 353 [eU k] (eU (cY k)):=fun k hk=>ih k hk (bL (mU (fW hk)) hn) (fun x hx=>ht x (bC hk hx))
  rw [lU]
  have rr0 : ∀ b',(h:(List.map aQ (TUnit.mk 0 0 0 u.kind u.label (u.head.map dE) (u.words.map dE) (u.kids.map cY)).head)=b':=by (rw [hx1.2,uV (by (simp only [oN] at *;omega))];rfl))→(List.map aQ (TUnit.mk 0 0 0 u.kind u.label (u.head.map dE) (u.words.map dE) (u.kids.map cY)).head)=b':=(fun _ h=>h);have rr1 : ∀ b',(h:(List.map aQ (TUnit.mk 0 0 0 u.kind u.label (u.head.map dE) (u.words.map dE) (u.kids.map cY)).words)=b':=by (rw [hx2.2,uV (by (simp only [oN] at *;omega))];rfl))→(List.map aQ (TUnit.mk 0 0 0 u.kind u.label (u.head.map dE) (u.words.map dE) (u.kids.map cY)).words)=b':=(fun _ h=>h);have rr2 : ∀ b',(h:(List.map aX (TUnit.mk 0 0 0 u.kind u.label (u.head.map dE) (u.words.map dE) (u.kids.map cY)).kids)=b':=by (rw [hx3.2,uV (by (simp only [oN] at *;omega))];rfl))→(List.map aX (TUnit.mk 0 0 0 u.kind u.label (u.head.map dE) (u.words.map dE) (u.kids.map cY)).kids)=b':=(fun _ h=>h);exact b7 Tryz.func353 (Mg 2 (Mq (hc) fun y0 hy0=>Mg 10 (M0 (.un 2) (Mg 7 (ML (Nat × List PWord) [1,2,4,15,16,17,22,23] (xj u y0) (Ha u y0) (fun x=>u.head.length - x.1) ((0,u.head)) (ax ((xj u y0) ((0,u.head)))) (by exact ⟨bN _,rfl⟩:(0:Nat)≤u.head.length∧u.head=ij dE u.head (0:Nat)) (fun x1 hx1 nx1=>have hx1:x1.1≤u.head.length∧x1.2=ij dE u.head x1.1:=hx1;(have hl1:x1.2.length=u.head.length:=(by grind [uK]);(Mg 0 (Mb (ao (Int.ofNat x1.1) (Int.ofNat u.head.length)) (fun h2=>have gh2:=aJ h2;(Mg 4 (M1 .rix (et (ax (0)) (by simp_all:x1.1<u.head.length)) (Mg 0 (M1 (.rst (aQ (gD x1.2 x1.1)) ((x1.2.set x1.1 (PWord.mk (gD x1.2 x1.1).text 0 0 0)).map aQ)) (eR (ax (0)) (cj aQ (by simp_all:x1.1<(x1.2).length)) (Hh (f:=aQ) (l:=x1.2) (i:=x1.1) (w:=PWord.mk (gD x1.2 x1.1).text 0 0 0))) (Mg 0 (Ml 31 (bb (x:=Int.ofNat x1.1+(1:Int)) (n:=x1.1+(1:Nat)) cq) (Mg 0 (Mf (nx1 ((x1.1+1,x1.2.set x1.1 (PWord.mk (gD x1.2 x1.1).text 0 0 0))) (by grind [yk]:x1.1+(1:Nat)≤u.head.length∧x1.2.set x1.1 (PWord.mk (gD x1.2 x1.1).text (0:Int) (0:Int) (0:Int))=ij dE u.head (x1.1+(1:Nat))) (by grind:u.head.length - (x1.1+(1:Nat))<u.head.length - x1.1))))))))))) (fun h2=>have gh2:=av h2;(Mg 9 (ML (Nat × List PWord) [1,2,4,15,16,17,22,23] (xz u y0 x1) (Hy u y0 x1) (fun x=>u.words.length - x.1) ((0,u.words)) (ax ((xz u y0 x1) ((0,u.words)))) (by exact ⟨bN _,rfl⟩:(0:Nat)≤u.words.length∧u.words=ij dE u.words (0:Nat)) (fun x2 hx2 nx2=>have hx2:x2.1≤u.words.length∧x2.2=ij dE u.words x2.1:=hx2;(have hl2:x2.2.length=u.words.length:=(by grind [uK]);(Mg 0 (Mb (ao (Int.ofNat x2.1) (Int.ofNat u.words.length)) (fun h4=>have gh4:=aJ h4;(Mg 4 (M1 .rix (et (ax (0)) (by simp_all:x2.1<u.words.length)) (Mg 0 (M1 (.rst (aQ (gD x2.2 x2.1)) ((x2.2.set x2.1 (PWord.mk (gD x2.2 x2.1).text 0 0 0)).map aQ)) (eR (ax (0)) (cj aQ (by simp_all:x2.1<(x2.2).length)) (Hh (f:=aQ) (l:=x2.2) (i:=x2.1) (w:=PWord.mk (gD x2.2 x2.1).text 0 0 0))) (Mg 0 (Ml 31 (bb (x:=Int.ofNat x2.1+(1:Int)) (n:=x2.1+(1:Nat)) cq) (Mg 0 (Mf (nx2 ((x2.1+1,x2.2.set x2.1 (PWord.mk (gD x2.2 x2.1).text 0 0 0))) (by grind [yk]:x2.1+(1:Nat)≤u.words.length∧x2.2.set x2.1 (PWord.mk (gD x2.2 x2.1).text (0:Int) (0:Int) (0:Int))=ij dE u.words (x2.1+(1:Nat))) (by grind:u.words.length - (x2.1+(1:Nat))<u.words.length - x2.1))))))))))) (fun h4=>have gh4:=av h4;(Mg 7 (ML (Nat × List TUnit) [1,2,35,36] (xq u y0 x1 x2) (Hv u y0 x1 x2) (fun x=>u.kids.length - x.1) ((0,u.kids)) (ax ((xq u y0 x1 x2) ((0,u.kids)))) (by exact ⟨bN _,rfl⟩:(0:Nat)≤u.kids.length∧u.kids=ij cY u.kids (0:Nat)) (fun x3 hx3 nx3=>have hx3:x3.1≤u.kids.length∧x3.2=ij cY u.kids x3.1:=hx3;(have hl3:x3.2.length=u.kids.length:=(by grind [uK]);(have ihc:x3.1<u.kids.length→kP (353:FuncId) [eU (gD x3.2 x3.1)] (eU (cY (gD x3.2 x3.1))):=(fun h=>ihk _ (by grind [yw, gy]));(Mg 0 (Mb (ao (Int.ofNat x3.1) (Int.ofNat u.kids.length)) (fun h6=>have gh6:=aJ h6;(Mg 7 (M1 .rix (et (ax (y0)) (by simp_all:x3.1<u.kids.length)) (Mr (et (ax (y0)) (pB aX (g:=Go.Ev.eU) aC (by simp_all:x3.1<(x3.2).length))) (Mp (ihc (by simp_all)) (M1 .rix (et (ax (y0)) (by simp_all:x3.1<u.kids.length)) (M3 (.rst (ab [iV (gD x3.2 x3.1).act,iV (gD x3.2 x3.1).item,iV (gD x3.2 x3.1).n,iV (gD x3.2 x3.1).kind,af (gD x3.2 x3.1).label,aU (List.map aQ (gD x3.2 x3.1).head),aU (List.map aQ (gD x3.2 x3.1).words),aU (List.map aX (gD x3.2 x3.1).kids)]) ((x3.2.set x3.1 (cY (gD x3.2 x3.1))).map aX)) rt (kJ (bZ (sz:=8) (op:=true) (ep:=y0) (n:=6) (aK gN (x3.2))) rt) (eR (ax (y0)) (pB aX (g:=Go.Ev.eU) aC (by simp_all:x3.1<(x3.2).length)) (Cg (f:=aX) (g:=Go.Ev.eU) aC (l:=x3.2) (i:=x3.1) (w:=cY (gD x3.2 x3.1)))) (Mg 0 (Ml 49 (bb (x:=Int.ofNat x3.1+(1:Int)) (n:=x3.1+(1:Nat)) cq) (Mg 0 (Mf (nx3 ((x3.1+1,x3.2.set x3.1 (cY (gD x3.2 x3.1)))) (by grind [yw, Br]:x3.1+(1:Nat)≤u.kids.length∧x3.2.set x3.1 (cY (gD x3.2 x3.1))=ij cY u.kids (x3.1+(1:Nat))) (by grind:u.kids.length - (x3.1+(1:Nat))<u.kids.length - x3.1))))))))))))) (fun h6=>have gh6:=av h6;(M2 (.fza 0 7 5 [1,2] (x3.2.map aX)) (Qv (bZ (sz:=4) (op:=true) (ep:=0) (n:=5) (aK iB (x2.2))) (bZ (sz:=4) (op:=true) (ep:=0) (n:=5) (aK iB (x1.2))) rt rt rt ti) (eR (ax (y0)) (c8 (f:=aX) (l:=x3.2) (n:=u.kids.length) (by omega:(x3.2).length=u.kids.length)) (aK gN (x3.2))) (M2 (.fza 0 6 4 [1,2] (x2.2.map aQ)) (Qy (bZ (sz:=4) (op:=true) (ep:=0) (n:=4) (aK iB (x1.2))) rt rt rt ti) (eR (ax (0)) (c8 (f:=aQ) (l:=x2.2) (n:=u.words.length) (by omega:(x2.2).length=u.words.length)) (aK iB (x2.2))) (M2 (.fza 0 5 3 [1,2] (x1.2.map aQ)) (mu rt rt rt ti) (eR (ax (0)) (c8 (f:=aQ) (l:=x1.2) (n:=u.head.length) (by omega:(x1.2).length=u.head.length)) (aK iB (x1.2))) (Mg 1 (Mf ((bX (.cons (aW _) (.cons (aW _) (.cons (aW _) (.cons (aW _) (.cons (aW _) (.cons (dY (rr0 (x1.2.map aQ))) (.cons (dY (rr1 (x2.2.map aQ))) (.cons (dY (rr2 (x3.2.map aX))) .nil)))))))) (by kernel_rfl)):Le _ (ab [iV 0,iV 0,iV 0,iV u.kind,af u.label,aU (x1.2.map aQ),aU (x2.2.map aQ),aU (x3.2.map aX)]))))))))))))))))))))))))))))))))
theorem PJ:Go.Proofs.Builder.Extra Tryz.prog Tryz.ljoin_ren:=by
  repeat' (first | kernel_rfl | (intro w;kernel_rfl) | decide | constructor)
theorem KU (l:List aP) (sep:aP) (h1:l.length≤140737488355328) (h2:(Lib.join l sep).length≤140737488355328):kP 212 [.ls (l.map lT), .str sep] (.str (Lib.join l sep)):=
  L6 (Go.Proofs.enters_of Tryz.func212 (by kernel_rfl) rfl) (fun bk o c xs sep w a b d e g=>Go.Proofs.Any.strings_Join Go.Proofs.Tryz.ljoin PJ bk o c xs sep w a b d e g) (fun a c sep w=>Go.Proofs.Any.strings_Join_none Go.Proofs.Tryz.ljoin PJ a c sep w) l sep h1 h2
theorem W5:Go.Proofs.Builder.Extra Tryz.prog Tryz.lrep_ren:=by
  repeat' (first | kernel_rfl | (intro w;kernel_rfl) | decide | constructor)
theorem UR (s:aP) (c:Nat) (h1:c≤9223372036854775807) (h2:s.length * c≤140737488355328):kP 379 [.str s,nV c] (.str (Lib.repeatL s c)):=
  EA (Go.Proofs.enters_of Tryz.func379 (by kernel_rfl) rfl) (fun s c w a b=>Go.Proofs.Any.strings_Repeat Go.Proofs.Tryz.lrep W5 s c w a b) s c h1 h2
def HC (s:aP) (ws:List PWord) (x0:Nat × List PWord × aP):Prop:=(ws).drop x0.1=x0.2.1∧iN x0.2.2 x0.2.1=iN s ws∧List.length x0.2.2+(26:Nat) * x0.2.1.length≤2 ^ 40
noncomputable def xL (s:aP) (ws:List PWord) (x0:Nat × List PWord × aP):List AV × List AObj:=([AV.str x0.2.2,AV.ls (ws.map aQ),nV ws.length,nV x0.1], [])
theorem Oc (s:aP) (ws:List PWord) (hw : ∀ w,w∈ws→1≤w.text.length∧w.text.length≤24) (hb:s.length+26 * ws.length≤2 ^ 40) (hn:ws.length≤2 ^ 20):kP 381 [.str s, .ls (ws.map aQ)] (.str (iN s ws)):=by
  have rr0 : ∀ b',(h:(iN s ws)=b':=by first | rfl | (exact hj0.1.symm))→(iN s ws)=b':=(fun _ h=>h);exact b7 Tryz.func381 (Mg 2 (Ml 8 (Le.len (f:=aQ) (l:=ws)) (Mg 0 (ML (Nat × List PWord × aP) [0,7,8,9] (xL s ws) (HC s ws) (fun x=>x.2.1.length) (0,ws,s) (ax ((xL s ws) (0,ws,s))) (et (rfl:List.drop 0 (ws)=ws) (by first | rfl | (first | exact ⟨rfl,hb⟩ | (refine ⟨by (rw [← hj0.1,nj];first | rw [Dl h1] | rw [Di h1 h2] | rw [Dh h1 h2]),?_⟩;have q:=hj0.2;simp only [lA,lC,lN] at *;omega)):(iN s ws=iN s ws∧List.length s+(26:Nat) * ws.length≤2 ^ 40))) (fun x0 hx0 nx0=>Mc x0.2.1 (fun hr0=>have lt0:=ai hx0.1 hr0;(have hj0:=aF (J:=fun r x=>iN x r=iN s ws∧List.length x+(26:Nat) * r.length≤2 ^ 40) (a:=x0.2.2) hr0 hx0.2;(Mg 0 (Mh lt0 (Mg 1 (Mf (Le.str (rr0 (x0.2.2))))))))) (fun w0 r0 hr0=>let q1:= [aw 4 false 0 [ab [af w0.text,iV w0.act,iV w0.item,iV w0.at_]]];have lt0:=aD hx0.1 hr0;(have glt0:=aJ lt0;(have nt0:=ah (enc:=aQ) hx0.1 hr0;(have hj0:=aE (J:=fun r x=>iN x r=iN s ws∧List.length x+(26:Nat) * r.length≤2 ^ 40) (a:=x0.2.2) hr0 hx0.2;(have hq0:(1:Nat)≤List.length w0.text∧List.length w0.text≤(24:Nat):=(hw w0 (bJ hx0.1 hr0));(Mg 0 (Mt lt0 (Mx nt0 (Mg 3 (Mv (iy (s:=x0.2.2) (u:= [32]) (H:=ae q1) (by (first | first | assumption | omega | (simp only [lA,lC,lN] at *;omega)):(x0.2.2).length+([32]).length≤2 ^ 62)) (Mg 2 (M1 (.chr (gD w0.text 0)) (kL (by first | omega | (simp only [oN,lM,lS] at *;omega) | (simp only [oN,lM,lS,lA,lR,lC,lN] at * <;> omega):0<(w0.text).length)) (Mg 1 (Mb (az (Int.ofNat (gD w0.text 0).toNat) 124) (fun h1=>have gh1:=eJ h1;(Mt h1 (Mt h1 (Mt h1 (M1 (.pk true) h1 (Mg 1 (Mv (iy (s:=x0.2.2++ [32]) (u:= [92]) (H:=ae q1) (by (first | first | assumption | omega | (simp only [lA,lC,lN] at *;omega)):(x0.2.2++ [32]).length+([92]).length≤2 ^ 62)) (Mg 3 (Mv (iy (s:=x0.2.2++ [32]++ [92]) (u:=w0.text) (H:=ae q1) (by (first | first | assumption | omega | (simp only [lA,lC,lN] at *;omega)):(x0.2.2++ [32]++ [92]).length+(w0.text).length≤2 ^ 62)) (Mg 1 (Ml 31 (Le.wr (x:=Int.ofNat x0.1+1) cq) (Mg 0 (M1 (.frz 0 [0,7,8,9]) ti (Mf (nx0 (x0.1+1,r0,x0.2.2++ [32]++ [92]++w0.text) (et (ay hx0.1 hr0) (by first | exact ⟨rfl,hb⟩ | (refine ⟨by (rw [← hj0.1,nj];first | rw [Dl h1] | rw [Di h1 h2] | rw [Dh h1 h2]),?_⟩;have q:=hj0.2;simp only [lA,lC,lN] at *;omega):(iN (x0.2.2++ [(32:UInt8)]++ [(92:UInt8)]++w0.text) r0=iN s ws∧List.length (x0.2.2++ [(32:UInt8)]++ [(92:UInt8)]++w0.text)+(26:Nat) * r0.length≤2 ^ 40))) (aO hr0)))))))))))))))) (fun h1=>have gh1:=iS h1;(Mg 0 (Mh h1 (Mg 0 (Mh h1 (M1 (.chr (gD w0.text 0)) (kL (by first | omega | (simp only [oN,lM,lS] at *;omega) | (simp only [oN,lM,lS,lA,lR,lC,lN] at * <;> omega):0<(w0.text).length)) (Mh h1 (Mg 0 (M1 (.pk false) h1 (Mb (az (Int.ofNat (gD w0.text 0).toNat) 92) (fun h2=>have gh2:=eJ h2;(Mg 0 (Mv (iy (s:=x0.2.2++ [32]) (u:= [92]) (H:=ae q1) (by (first | first | assumption | omega | (simp only [lA,lC,lN] at *;omega)):(x0.2.2++ [32]).length+([92]).length≤2 ^ 62)) (Mg 3 (Mv (iy (s:=x0.2.2++ [32]++ [92]) (u:=w0.text) (H:=ae q1) (by (first | first | assumption | omega | (simp only [lA,lC,lN] at *;omega)):(x0.2.2++ [32]++ [92]).length+(w0.text).length≤2 ^ 62)) (Mg 1 (Ml 31 (Le.wr (x:=Int.ofNat x0.1+1) cq) (Mg 0 (M1 (.frz 0 [0,7,8,9]) ti (Mf (nx0 (x0.1+1,r0,x0.2.2++ [32]++ [92]++w0.text) (et (ay hx0.1 hr0) (by first | exact ⟨rfl,hb⟩ | (refine ⟨by (rw [← hj0.1,nj];first | rw [Dl h1] | rw [Di h1 h2] | rw [Dh h1 h2]),?_⟩;have q:=hj0.2;simp only [lA,lC,lN] at *;omega):(iN (x0.2.2++ [(32:UInt8)]++ [(92:UInt8)]++w0.text) r0=iN s ws∧List.length (x0.2.2++ [(32:UInt8)]++ [(92:UInt8)]++w0.text)+(26:Nat) * r0.length≤2 ^ 40))) (aO hr0)))))))))))) (fun h2=>have gh2:=iS h2;(Mg 2 (Mv (iy (s:=x0.2.2++ [32]) (u:=w0.text) (H:=ae q1) (by (first | first | assumption | omega | (simp only [lA,lC,lN] at *;omega)):(x0.2.2++ [32]).length+(w0.text).length≤2 ^ 62)) (Mg 1 (Ml 31 (Le.wr (x:=Int.ofNat x0.1+1) cq) (Mg 0 (M1 (.frz 0 [0,7,8,9]) ti (Mf (nx0 (x0.1+1,r0,x0.2.2++ [32]++w0.text) (et (ay hx0.1 hr0) (by first | exact ⟨rfl,hb⟩ | (refine ⟨by (rw [← hj0.1,nj];first | rw [Dl h1] | rw [Di h1 h2] | rw [Dh h1 h2]),?_⟩;have q:=hj0.2;simp only [lA,lC,lN] at *;omega):(iN (x0.2.2++ [(32:UInt8)]++w0.text) r0=iN s ws∧List.length (x0.2.2++ [(32:UInt8)]++w0.text)+(26:Nat) * r0.length≤2 ^ 40))) (aO hr0)))))))))))))))))))))))))))))))))))))))
theorem qA {u:TUnit} (h:ll u):ll (cY u):=by
  obtain ⟨h1,h2⟩:=Lq u
  refine ⟨by rw [h1];exact h.1,fun x hx=>?_⟩
  obtain ⟨y,hy,rfl⟩:=h2 x hx
  obtain ⟨a,b,c,d,e⟩:=h.2 y hy
  rw [lU]
  refine ⟨by simpa [TUnit.head] using a,by simpa [TUnit.words] using b,c,fun w hw=>?_,fun w hw=>?_⟩
  · obtain ⟨v,hv,rfl⟩:=ky.1 hw;exact d v hv
  · obtain ⟨v,hv,rfl⟩:=ky.1 hw;exact e v hv
theorem BX {u:TUnit} (h:li u):ll (rI u):=by
  have e:bB (rI u) = [rI u]:=by rw [dx];exact congrArg _ fG
  refine ⟨by rw [iz];exact bL (wO (congrArg (1 + ·) kq)) (by decide),fun x hx=>?_⟩
  rw [e] at hx
  rw [oI.1 hx];exact h
theorem Cc (u:TUnit) (h:ll u):kP 353 [eU u] (eU (cY u)):=
  NH u (bL h.1 (by decide)) fun x hx=>⟨bL (h.2 x hx).1 (by decide),bL (h.2 x hx).2.1 (by decide)⟩
theorem O9 (u:TUnit) (d:Nat) (hd:d≤2 ^ 20) (h:li u):kP 378 [eU u,nV d] (.bool (yx u d)):=by
  have h1:=Cc (rI u) (BX h)
  have h2:=ww (cY (rI u)) (qA (BX h))
  have hz:=U9 d
  have rr0 : ∀ b',(h:(yx u d)=b':=by first | rfl | (unfold yx;simp only [aS,aV,bS, *];done))→(yx u d)=b':=(fun _ h=>h);exact b7 Tryz.func378 (Mg 13 (Mn (ao 8 (Int.ofNat d)) (fun h0=>(Mg 0 (Mt (ce h0) (Mp (bw.onArgs (.cons (bX (.cons (aW _) (.cons (aW _) (.cons (aW _) (.cons (aW _) (.cons (aW _) (.cons (aW _) (.cons (aW _) (.cons b9 .nil)))))))) (by kernel_rfl)) .nil) (h1):kP 353 [ab [iV 0,iV 0,iV 0,iV u.kind,af u.label,aU (u.head.map aQ),aU (u.words.map aQ),aR]] _) (Mt (ce h0) (Mp (h2) (M1 (.pk true) (ce h0) (Mg 0 (Mf (aq (rr0 (jz (cY (rI u)))))))))))))) (fun h0=>(Mh (cJ h0) (Mh (cJ h0) (M1 (.pk false) (cJ h0) (Mg 0 (Mf (aq (rr0 (false)))))))))))
theorem Vz (u:TUnit) (d:Nat) (hd:d≤2 ^ 20) (h:li u) (hm:yx u d=false):kP 355 [eU u,nV d] (.str (ej u d)):=by
  have h1:=O9 u d hd h
  rw [hm] at h1
  have e:ej u d = []:=by unfold ej;rw [hm];rfl
  rw [e]
  exact b7 Tryz.func355 (Mg 3 (Mp (h1) (Mg 2 (Mf (aW (af []))))))
def L2 (u:TUnit) (d:Nat) (z18:aP):Prop:=(z18=bif aV (az u.kind (0:Int)) then Lib.repeatL [(32:UInt8),(32:UInt8)] d++dZ u.kind++([(32:UInt8)]++u.label) else Lib.repeatL [(32:UInt8),(32:UInt8)] d++dZ u.kind)∧List.length z18≤(40:Nat)
noncomputable def L1 (u:TUnit) (d:Nat) (z18:aP):List AV × List AObj:=([AV.ptr 0 0 0 0,AV.str z18], [AObj.row 8 false 0 [AV.agg [iV u.act,iV u.item,iV u.n,iV u.kind,AV.str u.label,AV.ls (u.head.map aQ),AV.ls (u.words.map aQ),AV.ls (u.kids.map aX)]]])
def L0 (u:TUnit) (z18:aP) (z27:aP):Prop:=(z27=bif ao (0:Int) (Int.ofNat u.head.length) then iN (z18++ [(58:UInt8)]) u.head else z18)∧List.length z27≤(6700:Nat)
noncomputable def LS (u:TUnit) (z18:aP) (z27:aP):List AV × List AObj:=([AV.ptr 0 0 0 0,AV.str z27], [AObj.row 8 false 0 [AV.agg [iV u.act,iV u.item,iV u.n,iV u.kind,AV.str u.label,AV.ls (u.head.map aQ),AV.ls (u.words.map aQ),AV.ls (u.kids.map aX)]]])
theorem Vq (u:TUnit) (d:Nat) (hd:d≤2 ^ 20) (h:li u) (hm:yx u d=true):kP 355 [eU u,nV d] (.str (ej u d)):=by
  have h1:=O9 u d hd h
  obtain ⟨hd8,hlb,⟨hh1,hh2⟩,hw1,hw2⟩:=J3 hm
  have hrl:=Lib.repeatL_length [32,32] d
  simp only [lC,lN] at hrl
  have h2:=UR [32,32] d (by omega) (by simp only [lC,lN];omega)
  have hk:=vz u.kind
  have hkl:=yh u.kind
  have hp1 : ∀ s:aP,s.length≤2 ^ 14→kP 381 [.str s, .ls (u.head.map aQ)] (.str (iN s u.head)):=fun s hs=>Oc s u.head hh2 (by omega) (by omega)
  have hp2 : ∀ s:aP,s.length≤2 ^ 14→kP 381 [.str s, .ls (u.words.map aQ)] (.str (iN s u.words)):=fun s hs=>Oc s u.words hw2 (by omega) (by omega)
  rw [hm] at h1
  have rr0 : ∀ b',(h:(ej u d)=b':=by first | rfl | (unfold ej;rw [hm];simp only [aV,cond_false];rw [← hz18.1,← hz27.1];first | (rw [h3];rfl) | (rw [h4];rfl) | (rw [h5];rfl) | (rw [h6];rfl) | (rw [h7];rfl)))→(ej u d)=b':=(fun _ h=>h);let q1:= [aw 8 false 0 [ab [iV u.act,iV u.item,iV u.n,iV u.kind,af u.label,aU (u.head.map aQ),aU (u.words.map aQ),aU (u.kids.map aX)]]];exact b7 Tryz.func355 (Mg 3 (Mp (h1) (Mg 2 (Mp (h2) (Mg 1 (Mp (hk) (Mv (iy (s:=Lib.repeatL [32,32] d) (u:=dZ u.kind) (H:=(AHeap.mk 1000000 Tr.nil)) (by (first | first | assumption | ((try simp only [lA,lC,lN]);omega) | (simp only [lA,lC,lN] at *;omega)):(Lib.repeatL [32,32] d).length+(dZ u.kind).length≤2 ^ 62)) (Mg 0 (Mj (aP) [2,5] (L1 u d) (L2 u d) (fun nj18=>Mg 2 (Mn (az u.kind 0) (fun h1=>(Mg 2 (Mv (iy (s:= [32]) (u:=u.label) (H:=ae q1) (by (first | first | assumption | ((try simp only [lA,lC,lN]);omega) | (simp only [lA,lC,lN] at *;omega)):([32]).length+(u.label).length≤2 ^ 62)) (Mv (iy (s:=Lib.repeatL [32,32] d++dZ u.kind) (u:=32::u.label) (H:=ae q1) (by (first | first | assumption | ((try simp only [lA,lC,lN]);omega) | (simp only [lA,lC,lN] at *;omega)):(Lib.repeatL [32,32] d++dZ u.kind).length+(32::u.label).length≤2 ^ 62)) (Mg 0 (Mf (nj18 (Lib.repeatL [32,32] d++dZ u.kind++32::u.label) (by (refine ⟨by first | (rw [h1];rfl) | (rw [h2];rfl) | (rw [h3];rfl) | (rw [h0];rfl),?_⟩;simp only [lA,lC,lN];omega):(Lib.repeatL [(32:UInt8),(32:UInt8)] d++dZ u.kind++(32:UInt8)::u.label=bif aV (az u.kind (0:Int)) then Lib.repeatL [(32:UInt8),(32:UInt8)] d++dZ u.kind++([(32:UInt8)]++u.label) else Lib.repeatL [(32:UInt8),(32:UInt8)] d++dZ u.kind)∧(Lib.repeatL [(32:UInt8),(32:UInt8)] d++dZ u.kind++(32:UInt8)::u.label).length≤(40:Nat))))))))) (fun h1=>(Mf (nj18 (Lib.repeatL [32,32] d++dZ u.kind) (by (refine ⟨by first | (rw [h1];rfl) | (rw [h2];rfl) | (rw [h3];rfl) | (rw [h0];rfl),?_⟩;simp only [lA,lC,lN];omega):(Lib.repeatL [(32:UInt8),(32:UInt8)] d++dZ u.kind=bif aV (az u.kind (0:Int)) then Lib.repeatL [(32:UInt8),(32:UInt8)] d++dZ u.kind++([(32:UInt8)]++u.label) else Lib.repeatL [(32:UInt8),(32:UInt8)] d++dZ u.kind)∧(Lib.repeatL [(32:UInt8),(32:UInt8)] d++dZ u.kind).length≤(40:Nat))))))) fun z18 hz18=>have hz18:(z18=bif aV (az u.kind (0:Int)) then Lib.repeatL [(32:UInt8),(32:UInt8)] d++dZ u.kind++([(32:UInt8)]++u.label) else Lib.repeatL [(32:UInt8),(32:UInt8)] d++dZ u.kind)∧List.length z18≤(40:Nat):=hz18;(Mj (aP) [2,5] (LS u z18) (L0 u z18) (fun nj27=>Mg 2 (Ml 26 (Le.len (f:=aQ) (l:=u.head)) (Mg 0 (Mb (ao 0 (Int.ofNat u.head.length)) (fun h3=>(Mg 0 (Mv (iy (s:=z18) (u:= [58]) (H:=ae q1) (by (first | first | assumption | ((try simp only [lA,lC,lN]);omega) | (simp only [lA,lC,lN] at *;omega)):(z18).length+([58]).length≤2 ^ 62)) (Mg 1 (Mp (hp1 (z18++ [58]) (by first | assumption | ((try simp only [lA,lC,lN]);omega))) (Mg 0 (Mf (nj27 (iN (z18++ [58]) u.head) (by (refine ⟨by first | (rw [h3];rfl) | (rw [h2];rfl) | (rw [h4];rfl) | (rw [h5];rfl),?_⟩;first | omega | (have q:=tV (fun w hw=>(hh2 w hw).2) (z18++ [58]);simp only [lA,lC,lN] at q;omega)):(iN (z18++ [(58:UInt8)]) u.head=bif ao (0:Int) (Int.ofNat u.head.length) then iN (z18++ [(58:UInt8)]) u.head else z18)∧List.length (iN (z18++ [(58:UInt8)]) u.head)≤(6700:Nat)))))))))) (fun h3=>(Mf (nj27 (z18) (by (refine ⟨by first | (rw [h3];rfl) | (rw [h2];rfl) | (rw [h4];rfl) | (rw [h5];rfl),?_⟩;first | omega | (have q:=tV (fun w hw=>(hh2 w hw).2) (z18++ [58]);simp only [lA,lC,lN] at q;omega)):(z18=bif ao (0:Int) (Int.ofNat u.head.length) then iN (z18++ [(58:UInt8)]) u.head else z18)∧List.length z18≤(6700:Nat))))))))) fun z27 hz27=>have hz27:(z27=bif ao (0:Int) (Int.ofNat u.head.length) then iN (z18++ [(58:UInt8)]) u.head else z18)∧List.length z27≤(6700:Nat):=hz27;(Mg 2 (Ml 35 (Le.len (f:=aQ) (l:=u.words)) (Mg 0 (Mb (ao 0 (Int.ofNat u.words.length)) (fun h4=>(Mg 0 (Mv (iy (s:=z27) (u:= [32,124]) (H:=ae q1) (by (first | first | assumption | ((try simp only [lA,lC,lN]);omega) | (simp only [lA,lC,lN] at *;omega)):(z27).length+([32,124]).length≤2 ^ 62)) (Mg 1 (Mp (hp2 (z27++ [32,124]) (by first | assumption | ((try simp only [lA,lC,lN]);omega))) (Mg 2 (Mf (Le.str (rr0 (iN (z27++ [32,124]) u.words)))))))))) (fun h4=>(Mg 1 (Mf (Le.str (rr0 (z27))))))))))))))))))))
theorem KQ (u:TUnit) (d:Nat) (hd:d≤2 ^ 20) (h:li u):kP 355 [eU u,nV d] (.str (ej u d)):=by
  cases hm:yx u d
  · exact Vz u d hd h hm
  · exact Vq u d hd h hm
noncomputable abbrev GA (ep n:Nat):AObj:= .row 1 false 0 [.slice 2 ep 0 n none]
noncomputable abbrev Da:AObj:= .row 1 false 0 [.func (.func 354) [] [.ptr 0 0 0 0, .ptr 1 0 0 0]]
noncomputable abbrev Ex (ep:Nat) (l:List aP):AObj:= .row 1 true ep (l.map lT)
def rX (u:TUnit) (d:Nat) (l:List aP) (x0:Nat × List TUnit × Nat × Nat × List aP):Prop:=(u.kids).drop x0.1=x0.2.1∧x0.2.2.2.1=x0.2.2.2.2.length∧x0.2.2.2.2++cn (d+(1:Nat)) x0.2.1=l++ [ej u d]++cn (d+(1:Nat)) u.kids∧x0.2.2.2.2.length+cV x0.2.1≤2 ^ 20
noncomputable def rZ (u:TUnit) (d:Nat) (l:List aP) (x0:Nat × List TUnit × Nat × Nat × List aP):List AV × List AObj:=([nV d,AV.ptr 1 0 0 0,AV.ls (u.kids.map aX),nV u.kids.length,nV x0.1], [AObj.row 1 false 0 [AV.slice 2 x0.2.2.1 0 x0.2.2.2.1 none],AObj.row 1 false 0 [AV.func (Fn.func 354) [] [AV.ptr 0 0 0 0,AV.ptr 1 0 0 0]],AObj.row 1 true x0.2.2.1 (x0.2.2.2.2.map lT)])
theorem W6 : ∀ (u:TUnit) (d ep n:Nat) (l:List aP),n=l.length→l.length+nU u≤2 ^ 20→d+nU u≤2 ^ 20→(∀ x,x∈bB u→li x)→kC 354 [eU u,nV d, .ptr 0 0 0 0, .ptr 1 0 0 0] (ae [GA ep n,Da,Ex ep l])
    (fun v h=>∃ y:Nat × Nat × List aP,(y.2.1=y.2.2.length∧y.2.2=l++dI d u)∧v = .tuple []∧h=ae [GA y.1 y.2.1,Da,Ex y.1 y.2.2]):=by
  refine TUnit.ind fun u ih d ep n l hn hl hd ht=>?_
  have hq:=iz u
  have hkl:=bq u
  have hf:=KQ u d (by omega) (ht u (dJ u))
  have ihk : ∀ k,k∈u.kids→∀ (d ep n:Nat) (l:List aP),n=l.length→l.length+nU k≤2 ^ 20→d+nU k≤2 ^ 20→kC 354 [eU k,nV d, .ptr 0 0 0 0, .ptr 1 0 0 0] (ae [GA ep n,Da,Ex ep l])
    (fun v h=>∃ y:Nat × Nat × List aP,(y.2.1=y.2.2.length∧y.2.2=l++dI d k)∧v = .tuple []∧h=ae [GA y.1 y.2.1,Da,Ex y.1 y.2.2]):=fun k hk d ep n l a b c=>ih k hk d ep n l a b c (fun x hx=>ht x (bC hk hx))
  exact vT Tryz.func354 (fun qq=>Mg 3 (Mp (hf) (Mg 0 (Mw (.apx ((l++ [ej u d]).map lT) (.go 3 (.le 16 (nV u.kids.length) (.go 0 (.frz 3 [1,3,15,16,17] (.loop (Nat × List TUnit × Nat × Nat × List aP) [1,3,15,16,17] (rZ u d l) (rX u d l) (fun x=>x.2.1.length) (0,u.kids,(ep+1,n+1,l++ [ej u d])) (fun x0=> .cs (TUnit) x0.2.1 (.go 0 (.ff .fin)) (fun w0 r0=>(.go 0 (.tt (.elem (eU w0) (.go 6 (.le 24 (nV (d+1)) (.frz 3 [1,3,15,16,17,21,22,24] (.eff (Nat × Nat × List aP) (fun y1=>fQ []) (fun y1=>ae [GA y1.1 y1.2.1,Da,Ex y1.1 y1.2.2]) (fun y1=>y1.2.1=y1.2.2.length∧y1.2.2=x0.2.2.2.2++dI (d+(1:Nat)) w0) (fun y1=>(.go 0 (.le 26 (nV (x0.1+1)) (.go 0 .fin))))))))))))))))))) (ZQ rt (kJ (bZ (sz:=1) (op:=true) (ep:=ep) (n:=4) (aK Im (l))) rt) (et (qz _ _:([af (ej u d)]:List AV)≠ []) rt) (et (eR (ax (ep)) (by first | assumption | omega | (simp only [lM];omega) | (refine aA (m:=2 ^ 31) ?_ ?_ ?_ <;> (try simp only [lM,lC,lN]) <;> omega):n=(l.map lT).length) (by first | assumption | omega | (simp only [lM];omega) | (refine aA (m:=2 ^ 31) ?_ ?_ ?_ <;> (try simp only [lM,lC,lN]) <;> omega):small (n+([af (ej u d)]).length) 16=true)) (iI (f:=lT) (l:=l) (ws:= [ej u d]))) (Le.len (f:=aX) (l:=u.kids)) (mu (bZ (sz:=1) (op:=true) (ep:=ep+1) (n:=3) (aK Im (l++ [ej u d]))) rt rt ti) (ax ((rZ u d l) (0,u.kids,(ep+1,n+1,l++ [ej u d])))) (et (rfl:List.drop 0 (u.kids)=u.kids) (by first | rfl | (first | exact ⟨by simp [hn],rfl,by simp;omega⟩ | (have h1:=hj0.2.1;have h2:=hj0.2.2;rw [bm] at h2;rw [lW] at h1;exact ⟨hy1.1,(by rw [hy1.2,← h1];simp),(by rw [hy1.2,lA,j8];omega)⟩)):(n+(1:Nat)=(l++ [ej u d]).length∧l++ [ej u d]++cn (d+(1:Nat)) u.kids=l++ [ej u d]++cn (d+(1:Nat)) u.kids∧(l++ [ej u d]).length+cV u.kids≤2 ^ 20))) (fun (x0:Nat × List TUnit × Nat × Nat × List aP) (hx0:(rX u d l) x0)=>et (fun (hr0:x0.2.1 = [])=>have lt0:=ai hx0.1 hr0;have hj0:=aF (J:=fun r x=>x.2.1=x.2.2.length∧x.2.2++cn (d+(1:Nat)) r=l++ [ej u d]++cn (d+(1:Nat)) u.kids∧x.2.2.length+cV r≤2 ^ 20) (a:=x0.2.2) hr0 hx0.2;(et lt0 (qq ((x0.2.2.1,x0.2.2.2.1,x0.2.2.2.2)) (by first | (refine ⟨hj0.1,?_⟩;have:=hj0.2.1;rw [vY,eE] at this;rw [this,Bt];simp) | rfl)))) (fun (w0:TUnit) (r0:List TUnit) (hr0:x0.2.1=w0::r0)=>have lt0:=aD hx0.1 hr0;have glt0:=aJ lt0;have nt0:=(ah (enc:=aX) hx0.1 hr0).trans (congrArg some (aC w0));have hj0:=aE (J:=fun r x=>x.2.1=x.2.2.length∧x.2.2++cn (d+(1:Nat)) r=l++ [ej u d]++cn (d+(1:Nat)) u.kids∧x.2.2.length+cV r≤2 ^ 20) (a:=x0.2.2) hr0 hx0.2;(have q0:w0∈u.kids:=bJ hx0.1 hr0;(have q1:x0.2.2.2.2.length+nU w0≤2 ^ 20:=(by have:=hj0.2.2;rw [bm] at this;omega);(have q2:d+(1:Nat)+nU w0≤2 ^ 20:=(by have:=fW q0;omega);(Qv lt0 nt0 (bb (x:=Int.ofNat d+(1:Int)) (n:=d+(1:Nat)) cq) (mu (bZ (sz:=1) (op:=true) (ep:=x0.2.2.1) (n:=3) (aK Im (x0.2.2.2.2))) rt rt ti) (ihk w0 q0 (d+1) (x0.2.2.1) (x0.2.2.2.1) (x0.2.2.2.2) (by first | assumption | omega | (simp only [lM];omega) | (refine aA (m:=2 ^ 31) ?_ ?_ ?_ <;> (try simp only [lM,lC,lN]) <;> omega)) q1 q2) (fun (y1:Nat × Nat × List aP) (hy1:y1.2.1=y1.2.2.length∧y1.2.2=x0.2.2.2.2++dI (d+(1:Nat)) w0)=>(et (bb (x:=Int.ofNat x0.1+(1:Int)) (n:=x0.1+(1:Nat)) cq) (Nx.mk (I:=(rX u d l)) (m:=(fun x=>x.2.1.length)) (S:=(rZ u d l)) (x:=x0) (x0.1+1,r0,(y1.1,y1.2.1,y1.2.2)) (et (ay hx0.1 hr0) (by first | exact ⟨by simp [hn],rfl,by simp;omega⟩ | (have h1:=hj0.2.1;have h2:=hj0.2.2;rw [bm] at h2;rw [lW] at h1;exact ⟨hy1.1,(by rw [hy1.2,← h1];simp),(by rw [hy1.2,lA,j8];omega)⟩):(y1.2.1=y1.2.2.length∧y1.2.2++cn (d+(1:Nat)) r0=l++ [ej u d]++cn (d+(1:Nat)) u.kids∧y1.2.2.length+cV r0≤2 ^ 20))) (aO hr0)))))))))))))))
def H4 (u:TUnit) (d:Nat) (x0:Nat × List TUnit × Nat × Nat × List aP):Prop:=(u.kids).drop x0.1=x0.2.1∧x0.2.2.2.1=x0.2.2.2.2.length∧x0.2.2.2.2++cn (d+(1:Nat)) x0.2.1 = [ej u d]++cn (d+(1:Nat)) u.kids∧x0.2.2.2.2.length+cV x0.2.1≤2 ^ 20
noncomputable def yd (u:TUnit) (d:Nat) (x0:Nat × List TUnit × Nat × Nat × List aP):List AV × List AObj:=([nV d,AV.ptr 1 0 0 0,AV.ls (u.kids.map aX),nV u.kids.length,nV x0.1], [AObj.row 1 false 0 [AV.slice 2 x0.2.2.1 0 x0.2.2.2.1 none],AObj.row 1 false 0 [AV.func (Fn.func 354) [] [AV.ptr 0 0 0 0,AV.ptr 1 0 0 0]],AObj.row 1 true x0.2.2.1 (x0.2.2.2.2.map lT)])
theorem W7 (u:TUnit) (d:Nat) (hl:nU u≤2 ^ 19) (hd:d+nU u≤2 ^ 20) (ht : ∀ x,x∈bB u→li x):kC 354 [eU u,nV d, .ptr 0 0 0 0, .ptr 1 0 0 0] (ae [.row 1 false 0 [.nils],Da])
    (fun v h=>∃ y:Nat × Nat × List aP,(y.2.1=y.2.2.length∧y.2.2=dI d u)∧v = .tuple []∧h=ae [GA y.1 y.2.1,Da,Ex y.1 y.2.2]):=by
  have hq:=iz u
  have hkl:=bq u
  have hf:=KQ u d (by omega) (ht u (dJ u))
  have ihk : ∀ k,k∈u.kids→∀ (d ep n:Nat) (l:List aP),n=l.length→l.length+nU k≤2 ^ 20→d+nU k≤2 ^ 20→kC 354 [eU k,nV d, .ptr 0 0 0 0, .ptr 1 0 0 0] (ae [GA ep n,Da,Ex ep l])
    (fun v h=>∃ y:Nat × Nat × List aP,(y.2.1=y.2.2.length∧y.2.2=l++dI d k)∧v = .tuple []∧h=ae [GA y.1 y.2.1,Da,Ex y.1 y.2.2]):=fun k hk d ep n l a b c=>W6 k d ep n l a b c (fun x hx=>ht x (bC hk hx))
  exact vT Tryz.func354 (fun qq=>Mg 3 (Mp (hf) (Mg 5 (Ml 16 (Le.len (f:=aX) (l:=u.kids)) (Mg 0 (M0 (.ren [0,1,3,2] [] [1,3,15,16,17]) (M1 (.frz 3 [1,3,15,16,17]) (mu rt rt rt ti) (ML (Nat × List TUnit × Nat × Nat × List aP) [1,3,15,16,17] (yd u d) (H4 u d) (fun x=>x.2.1.length) (0,u.kids,(0,1, [ej u d])) (ax ((yd u d) (0,u.kids,(0,1, [ej u d])))) (et (rfl:List.drop 0 (u.kids)=u.kids) (by first | rfl | (first | exact ⟨by simp [hl],rfl,by simp;omega⟩ | (have h1:=hj0.2.1;have h2:=hj0.2.2;rw [bm] at h2;rw [lW] at h1;exact ⟨hy1.1,(by rw [hy1.2,← h1];simp),(by rw [hy1.2,lA,j8];omega)⟩)):((1:Nat) = [ej u d].length∧ [ej u d]++cn (d+(1:Nat)) u.kids = [ej u d]++cn (d+(1:Nat)) u.kids∧ [ej u d].length+cV u.kids≤2 ^ 20))) (fun x0 hx0 nx0=>Mc x0.2.1 (fun hr0=>have lt0:=ai hx0.1 hr0;(have hj0:=aF (J:=fun r x=>x.2.1=x.2.2.length∧x.2.2++cn (d+(1:Nat)) r = [ej u d]++cn (d+(1:Nat)) u.kids∧x.2.2.length+cV r≤2 ^ 20) (a:=x0.2.2) hr0 hx0.2;(Mg 0 (Mh lt0 (Mf (qq ((x0.2.2.1,x0.2.2.2.1,x0.2.2.2.2)) (by first | (refine ⟨hj0.1,?_⟩;have:=hj0.2.1;rw [vY,eE] at this;rw [this,Bt];simp) | rfl))))))) (fun w0 r0 hr0=>have lt0:=aD hx0.1 hr0;(have glt0:=aJ lt0;(have nt0:=(ah (enc:=aX) hx0.1 hr0).trans (congrArg some (aC w0));(have hj0:=aE (J:=fun r x=>x.2.1=x.2.2.length∧x.2.2++cn (d+(1:Nat)) r = [ej u d]++cn (d+(1:Nat)) u.kids∧x.2.2.length+cV r≤2 ^ 20) (a:=x0.2.2) hr0 hx0.2;(have q0:w0∈u.kids:=bJ hx0.1 hr0;(have q1:x0.2.2.2.2.length+nU w0≤2 ^ 20:=(by have:=hj0.2.2;rw [bm] at this;omega);(have q2:d+(1:Nat)+nU w0≤2 ^ 20:=(by have:=fW q0;omega);(Mg 0 (Mt lt0 (Mx nt0 (Mg 6 (Ml 24 (bb (x:=Int.ofNat d+(1:Int)) (n:=d+(1:Nat)) cq) (M1 (.frz 3 [1,3,15,16,17,21,22,24]) (mu (bZ (sz:=1) (op:=true) (ep:=x0.2.2.1) (n:=3) (aK Im (x0.2.2.2.2))) rt rt ti) (Mq (ihk w0 q0 (d+1) (x0.2.2.1) (x0.2.2.2.1) (x0.2.2.2.2) (by first | assumption | omega) q1 q2) fun y1 hy1=>Mg 0 (Ml 26 (bb (x:=Int.ofNat x0.1+(1:Int)) (n:=x0.1+(1:Nat)) cq) (Mg 0 (Mf (nx0 (x0.1+1,r0,(y1.1,y1.2.1,y1.2.2)) (et (ay hx0.1 hr0) (by first | exact ⟨by simp [hl],rfl,by simp;omega⟩ | (have h1:=hj0.2.1;have h2:=hj0.2.2;rw [bm] at h2;rw [lW] at h1;exact ⟨hy1.1,(by rw [hy1.2,← h1];simp),(by rw [hy1.2,lA,j8];omega)⟩):(y1.2.1=y1.2.2.length∧y1.2.2++cn (d+(1:Nat)) r0 = [ej u d]++cn (d+(1:Nat)) u.kids∧y1.2.2.length+cV r0≤2 ^ 20))) (aO hr0))))))))))))))))))))))))))))
theorem VU (u:TUnit) (h:ll u) (hv:jz (cY u)=false):kP 306 [eU u] (.ls (([]:List aP).map lT)):=by
  have h1:=Cc u h
  have h2:=ww (cY u) (qA h)
  exact b7 Tryz.func306 (Mg 2 (Mp (h1) (Mp (h2) (Mg 0 (Mt (ce hv) (Mg 0 (Mf b9)))))))
theorem VY (u:TUnit) (h:ll u) (hv:jz (cY u)=true):kP 306 [eU u] (.ls ((dI 0 u).map lT)):=by
  have h1:=Cc u h
  have h2:=ww (cY u) (qA h)
  have h3:=W7 u 0 h.1 (by have:=h.1;omega) h.2
  have rr0 : ∀ b',(h:((dI 0 u).map lT)=b':=by first | rfl | (rw [hy0.2]))→((dI 0 u).map lT)=b':=(fun _ h=>h);exact b7 Tryz.func306 (Mg 2 (Mp (h1) (Mp (h2) (Mg 0 (Mh (cJ hv) (Mg 5 (M0 (.ren [1,2,0] [] [3,10,11]) (M1 (.frz 2 [3,10,11]) (eR rt rt ti) (Mq (h3) fun y0 hy0=>Mg 1 (M2 (.fsl 0 [] 2 (y0.2.2.map lT)) ti (eR (ax (y0.1)) (c8 (f:=lT) (l:=y0.2.2) (n:=y0.2.1) (by first | assumption | omega:(y0.2.2).length=y0.2.1)) (aK Im (y0.2.2))) (Ml 2 (ib (y0.2.2.map lT) (false) (aK Im (y0.2.2))) (Mf (dY (rr0 (y0.2.2.map lT)))))))))))))))
theorem Xx (u:TUnit) (h:ll u) (hv:jz (cY u)=false):kP 246 [eU u] (.tuple [.str (wV u).1,iV (wV u).2]):=by
  have h1:=VU u h hv
  have e:wV u=([],1):=by unfold wV;rw [hv];rfl
  rw [e]
  exact b7 Tryz.func246 (Mg 3 (Mp (h1) (Mg 6 (Mf (aW (fQ [af [],iV 1]))))))
theorem Xz (u:TUnit) (h:ll u) (hv:jz (cY u)=true):kP 246 [eU u] (.tuple [.str (wV u).1,iV (wV u).2]):=by
  have h1:=VY u h hv
  have hlen:=j8 0 u
  have hq:=iz u
  have hm:=h.1
  have hjl:=Pw (sep:= [10]) (B:=2 ^ 14) (l:=dI 0 u) (fun s hs=>ye 0 u s hs)
  rw [hlen] at hjl
  have hj2:(Lib.join (dI 0 u) [10]).length≤140737488355328:=bL hjl (bL (fz _ hm) (by decide))
  have hj3:(Lib.join (dI 0 u) [10]).length≤2 ^ 40:=bL hjl (bL (fz _ hm) (by decide))
  have hj:=KU (dI 0 u) [10] (by omega) hj2
  have hz:az (.ofNat (dI 0 u).length) 0=false:=by rw [hlen,hq];exact Ql (by omega)
  have e:wV u=(bif ao 16384 (.ofNat (Lib.join (dI 0 u) [10]++ [10]).length) then ([],6) else (Lib.join (dI 0 u) [10]++ [10],0)):=by unfold wV;rw [hv];rfl
  rw [e]
  clear e
  generalize Lib.join (dI 0 u) [10]=J at *
  cases hb:ao 16384 (.ofNat (J++ [10]).length)
  · have hb2:ao 16384 (.ofNat (J++ [10]).length)=false:=hb
    exact b7 Tryz.func246 (Mg 3 (Mp (h1) (Mg 2 (Ml 9 (Le.len (f:=lT) (l:=dI 0 u)) (Mg 0 (Mh hz (Mg 0 (Mp (hj) (Mv (iy (s:=J) (u:= [10]) (H:=ae [aw 8 false 0 [ab [iV u.act,iV u.item,iV u.n,iV u.kind,af u.label,aU (u.head.map aQ),aU (u.words.map aQ),aU (u.kids.map aX)]]]) (by (first | first | assumption | (simp only [lA,lC,lN];omega) | omega | (simp only [lA,lC,lN] at *;omega)):(J).length+([10]).length≤2 ^ 62)) (Mg 3 (Mh hb (Mg 2 (Mf (aW (fQ [af (J++ [10]),iV 0])))))))))))))))
  · have hb2:ao 16384 (.ofNat (J++ [10]).length)=true:=hb
    exact b7 Tryz.func246 (Mg 3 (Mp (h1) (Mg 2 (Ml 9 (Le.len (f:=lT) (l:=dI 0 u)) (Mg 0 (Mh hz (Mg 0 (Mp (hj) (Mv (iy (s:=J) (u:= [10]) (H:=ae [aw 8 false 0 [ab [iV u.act,iV u.item,iV u.n,iV u.kind,af u.label,aU (u.head.map aQ),aU (u.words.map aQ),aU (u.kids.map aX)]]]) (by (first | first | assumption | (simp only [lA,lC,lN];omega) | omega | (simp only [lA,lC,lN] at *;omega)):(J).length+([10]).length≤2 ^ 62)) (Mg 3 (Mt hb (Mg 1 (Mf (aW (fQ [af [],iV 6])))))))))))))))
theorem Vr (u:TUnit) (h:ll u):kP 246 [eU u] (.tuple [.str (wV u).1,iV (wV u).2]):=by
  cases hv:jz (cY u)
  · exact Xx u h hv
  · exact Xz u h hv
def Uw (u:TUnit):Bool:=CX u && (aV (az u.kind 0) && az (wV u).2 0)
theorem Vw (u:TUnit) (h:ll u):kP 152 [eU u] (.bool (Uw u)):=by
  have q1:=Vr u h
  have q2:=WW u h
  have rr0 : ∀ b',(h:(Uw u)=b':=by first | rfl | (unfold Uw;rw [h0];rfl) | (unfold Uw;rw [h0,h1];rfl) | (unfold Uw;rw [h0,h1,h2];rfl))→(Uw u)=b':=(fun _ h=>h);exact b7 Tryz.func152 (Mg 2 (Mp (q1) (Mg 5 (Mp (q2) (Mg 0 (Mb (CX u) (fun h0=>Mg 0 (Mt h0 (Mg 0 (Mt h0 (Mg 0 (M1 (.pk true) h0 (Mg 0 (Mn (az u.kind 0) (fun h1=>(Mg 0 (Mt (ce h1) (Mg 0 (M1 (.pk true) (ce h1) (Mg 0 (Mf (aq (rr0 (az (wV u).2 0)))))))))) (fun h1=>(Mh (cJ h1) (M1 (.pk false) (cJ h1) (Mg 0 (Mf (aq (rr0 (false)))))))))))))))) (fun h0=>Mh h0 (Mh h0 (M1 (.pk false) h0 (Mg 2 (Mf (aq (rr0 (false))))))))))))))
/-- What an item must be, so that the walks can count. -/
def JN (x:PItem):Prop:=qK x∧(x.at_.length<2 ^ 40∧∀ s,s∈x.at_→s.label.length≤2 ^ 39)∧(x.to.length<2 ^ 40∧∀ s,s∈x.to→s.label.length≤2 ^ 39)∧(x.old.length<2 ^ 40∧∀ s,s∈x.old→s.length≤2 ^ 39)∧(x.new.length<2 ^ 40∧∀ s,s∈x.new→s.length≤2 ^ 39)∧x.label.length≤2 ^ 39∧x.for_.length≤2 ^ 39∧x.start.event.length≤2 ^ 39∧ll x.unit
/-- What a valid item is known to be. -/
def yB (x:PItem):Prop:=(x.kind=0∨x.kind=6→gj x.where_=true)∧(x.kind=0→Uw x.unit=true)∧(x.kind=2∨x.kind=3→lX x.old=true∧wK x.nth_=true)∧(x.kind=2∨x.kind=3∨x.kind=4→lX x.new=true)
theorem o6 {l:List aP} {n:Int} (h:mp l n=true):lX l=true:=by
  unfold mp at h;rw [ba] at h;exact h.1
theorem UC (x:PItem) (hx:JN x) (h0:0≤x.kind) (h6:x.kind≤6) : ∃ b,kP 46 [eI x] (.bool b)∧(b=true→yB x):=by
  obtain ⟨k,a,t,w,n,u,o,ne,l,f,s,ac,im,d,e,bs⟩:=x
  obtain ⟨hf,⟨ha,has⟩,⟨ht,hts⟩,⟨ho,hos⟩,⟨hn,hns⟩,hl,hfo,hse,hu⟩:=hx
  have hz:oq bu:=⟨by decide,by decide,by decide,trivial⟩
  have n0:(0:Nat)<2 ^ 60:=by decide
  obtain ⟨f1,f2,f3,f4,f5,f6,f7⟩:=hf
  have hff : ∀ k w n,qK ⟨k,a,t,w,n,u,o,ne,l,f,s,ac,im,d,e,bs⟩:=fun _ _ _=>⟨f1,f2,f3,f4,f5,f6,f7⟩
  have h0:0≤k:=h0
  have h6:k≤6:=h6
  have hk:k=0∨k=1∨k=2∨k=3∨k=4∨k=5∨k=6:=by omega
  rcases hk with rfl | rfl | rfl | rfl | rfl | rfl | rfl
  · refine ⟨_,np ⟨0,a,t,w,n,u,o,ne,l,f,s,ac,im,d,e,bs⟩ (mA ⟨0,a,t,w,n,u,o,ne,l,f,s,ac,im,d,e,bs⟩ 0) 149 150 _ _ rfl rfl (TB _) (rV _ (hff _ _ _) (vb ⟨0,a,t,w,n,u,o,ne,l,f,s,ac,im,d,e,bs⟩ (mA ⟨0,a,t,w,n,u,o,ne,l,f,s,ac,im,d,e,bs⟩ 0)) ⟨f1,n0,n0,n0,n0,f6,trivial⟩) (SD a t w n u o ne l f s ac im d e bs (Uw u) (Vw u hu)) ha has hfo hse,fun h=>?_⟩
    simp only [ba] at h
    exact ⟨fun _=>h.2.2.2.2.1,fun _=>h.2.2.2.2.2,fun q=>(by rcases q with q | q <;> cases q),fun q=>(by rcases q with q | q | q <;> cases q)⟩
  · refine ⟨_,np ⟨1,a,t,w,n,u,o,ne,l,f,s,ac,im,d,e,bs⟩ (mA ⟨1,a,t,w,n,u,o,ne,l,f,s,ac,im,d,e,bs⟩ 1) 153 154 _ _ rfl rfl (TA _) (rV _ (hff _ _ _) (vb ⟨1,a,t,w,n,u,o,ne,l,f,s,ac,im,d,e,bs⟩ (mA ⟨1,a,t,w,n,u,o,ne,l,f,s,ac,im,d,e,bs⟩ 1)) ⟨f1,n0,n0,n0,n0,hz,trivial⟩) (SC a t w n u o ne l f s ac im d e bs) ha has hfo hse,fun h=>?_⟩
    exact ⟨fun q=>(by rcases q with q | q <;> cases q),fun q=>(by cases q),fun q=>(by rcases q with q | q <;> cases q),fun q=>(by rcases q with q | q | q <;> cases q)⟩
  · refine ⟨_,np ⟨2,a,t,w,n,u,o,ne,l,f,s,ac,im,d,e,bs⟩ (mA ⟨2,a,t,w,n,u,o,ne,l,f,s,ac,im,d,e,bs⟩ 2) 155 156 _ _ rfl rfl (Tu _) (rV _ (hff _ _ _) (vb ⟨2,a,t,w,n,u,o,ne,l,f,s,ac,im,d,e,bs⟩ (mA ⟨2,a,t,w,n,u,o,ne,l,f,s,ac,im,d,e,bs⟩ 2)) ⟨f1,n0,f3,f4,n0,hz,trivial⟩) (SB a t w n u o ne l f s ac im d e bs ho hn hos hns) ha has hfo hse,fun h=>?_⟩
    simp only [ba] at h
    exact ⟨fun q=>(by rcases q with q | q <;> cases q),fun q=>(by cases q),fun _=>⟨o6 h.2.2.2.2.1,h.2.2.2.2.2.2⟩,fun _=>o6 h.2.2.2.2.2.1⟩
  · refine ⟨_,np ⟨3,a,t,w,n,u,o,ne,l,f,s,ac,im,d,e,bs⟩ (mA ⟨3,a,t,w,n,u,o,ne,l,f,s,ac,im,d,e,bs⟩ 3) 159 160 _ _ rfl rfl (Tt _) (rV _ (hff _ _ _) (vb ⟨3,a,t,w,n,u,o,ne,l,f,s,ac,im,d,e,bs⟩ (mA ⟨3,a,t,w,n,u,o,ne,l,f,s,ac,im,d,e,bs⟩ 3)) ⟨f1,n0,f3,f4,n0,hz,trivial⟩) (SA a t w n u o ne l f s ac im d e bs ho hn hos hns) ha has hfo hse,fun h=>?_⟩
    simp only [ba] at h
    exact ⟨fun q=>(by rcases q with q | q <;> cases q),fun q=>(by cases q),fun _=>⟨o6 h.2.2.2.2.1,h.2.2.2.2.2.2.1⟩,fun _=>o6 h.2.2.2.2.2.1⟩
  · refine ⟨_,np ⟨4,a,t,w,n,u,o,ne,l,f,s,ac,im,d,e,bs⟩ (mA ⟨4,a,t,w,n,u,o,ne,l,f,s,ac,im,d,e,bs⟩ 4) 161 162 _ _ rfl rfl (Ts _) (rV _ (hff _ _ _) (vb ⟨4,a,t,w,n,u,o,ne,l,f,s,ac,im,d,e,bs⟩ (mA ⟨4,a,t,w,n,u,o,ne,l,f,s,ac,im,d,e,bs⟩ 4)) ⟨f1,n0,n0,f4,n0,hz,trivial⟩) (Su a t w n u o ne l f s ac im d e bs hn hns) ha has hfo hse,fun h=>?_⟩
    simp only [ba] at h
    exact ⟨fun q=>(by rcases q with q | q <;> cases q),fun q=>(by cases q),fun q=>(by rcases q with q | q <;> cases q),fun _=>o6 h.2.2.2.2⟩
  · refine ⟨_,np ⟨5,a,t,w,n,u,o,ne,l,f,s,ac,im,d,e,bs⟩ (mA ⟨5,a,t,w,n,u,o,ne,l,f,s,ac,im,d,e,bs⟩ 5) 163 164 _ _ rfl rfl (Tp _) (rV _ (hff _ _ _) (vb ⟨5,a,t,w,n,u,o,ne,l,f,s,ac,im,d,e,bs⟩ (mA ⟨5,a,t,w,n,u,o,ne,l,f,s,ac,im,d,e,bs⟩ 5)) ⟨f1,n0,n0,n0,n0,hz,trivial⟩) (Ss a t w n u o ne l f s ac im d e bs hl) ha has hfo hse,fun h=>?_⟩
    exact ⟨fun q=>(by rcases q with q | q <;> cases q),fun q=>(by cases q),fun q=>(by rcases q with q | q <;> cases q),fun q=>(by rcases q with q | q | q <;> cases q)⟩
  · refine ⟨_,np ⟨6,a,t,w,n,u,o,ne,l,f,s,ac,im,d,e,bs⟩ (mA ⟨6,a,t,w,n,u,o,ne,l,f,s,ac,im,d,e,bs⟩ 6) 166 167 _ _ rfl rfl (To _) (rV _ (hff _ _ _) (vb ⟨6,a,t,w,n,u,o,ne,l,f,s,ac,im,d,e,bs⟩ (mA ⟨6,a,t,w,n,u,o,ne,l,f,s,ac,im,d,e,bs⟩ 6)) ⟨f1,f2,n0,n0,n0,hz,trivial⟩) (Sr a t w n u o ne l f s ac im d e bs ht hts) ha has hfo hse,fun h=>?_⟩
    simp only [ba] at h
    exact ⟨fun _=>h.2.2.2.2.1,fun q=>(by cases q),fun q=>(by rcases q with q | q <;> cases q),fun q=>(by rcases q with q | q | q <;> cases q)⟩
theorem vX {u:TUnit} (h:OkB u) : ∀ x,x∈bB u→x.head.length<2 ^ 30∧x.words.length<2 ^ 30:=fun x hx=>⟨wN (h.w x hx).1 (by decide),wN (h.w x hx).2 (by decide)⟩
theorem Cs (p:PId) (u:TUnit) (hn:nU u≤1024) : -1≤nM p u∧nM p u≤2 ^ 20:=by
  cases h:jY p u with
  | false=>rw [Ou h];decide
  | true=>
    obtain ⟨q,i,h1,_,h3,h4,_⟩:=tL u h
    have:=dD h1
    have:=bq q
    rw [h3];simp only [oN];omega
theorem wA (w:Int) (u:TUnit) (p:PId) (hn:nU u≤1024) : -1≤(dj w u p).1.at_∧(dj w u p).1.at_≤2 ^ 41:=by
  have hb:=Cs p u hn
  have key : ∀ n:Int,0≤n→n≤1→ -1≤(mi u p n).1.at_∧(mi u p n).1.at_≤2 ^ 41:=fun n h0 h1=>by
    unfold mi
    cases jY p u
    · exact ⟨by show (-1:Int)≤0;decide,by show (0:Int)≤_;decide⟩
    · show -1≤nM p u+n∧nM p u+n≤2 ^ 41;omega
  unfold dj
  cases az w 0
  · cases az w 1
    · cases az w 2
      · exact key 0 (by decide) (by decide)
      · exact key 1 (by decide) (by decide)
    · show -1≤Int.ofNat _∧Int.ofNat _≤2 ^ 41
      have:(eW p u).kids.length≤1024:=by
        cases h:cb p u with
        | true=>
          have:=dD (tH h).1
          have:=bq (eW p u)
          omega
        | false=>unfold eW;rw [h];exact bN _
      simp only [oN];omega
  · exact ⟨by show (-1:Int)≤0;decide,by show (0:Int)≤_;decide⟩
theorem uj {u:TUnit} (hu:OkB u) (p:PId):kP 48 [eU u,aZ p] (.tuple [eU (eW p u), .bool (cb p u)]):=QW p u (bL hu.n (by decide)) (vX hu)
theorem jE {u:TUnit} (hu:OkB u) (p:PId):kP 146 [eU u,aZ p] (.tuple [aZ (qL p u),iV (nM p u), .bool (jY p u)]):=On p u (bL hu.n (by decide))
theorem vZ {u:TUnit} (hu:OkB u) (p:List PStep) (hp:p.length<2 ^ 40∧∀ s,s∈p→s.label.length≤2 ^ 39):kP 47 [eU u, .ls (p.map ak)] (.tuple [aZ (aG u p).1,iV (aG u p).2]):=
  MJ u p (Tk u p (bL hu.n (by decide)) hp.1 hp.2) (bL hu.n (by decide))
theorem KK {u:TUnit} (hu:OkB u) (p:PId):kP 343 [eU u,aZ p] (.tuple [fK (dj 0 u p).1,iV (dj 0 u p).2]):=Pz u _ p _ (uj hu p)
theorem KJ {u:TUnit} (hu:OkB u) (p:PId):kP 346 [eU u,aZ p] (.tuple [fK (dj 1 u p).1,iV (dj 1 u p).2]):=Pq u _ p _ (uj hu p)
theorem KW {u:TUnit} (hu:OkB u) (p:PId):kP 348 [eU u,aZ p] (.tuple [fK (dj 2 u p).1,iV (dj 2 u p).2]):=PU u p _ _ _ (jE hu p) (by have:=Cs p u hu.n;omega)
theorem KX {u:TUnit} (hu:OkB u) (p:PId):kP 350 [eU u,aZ p] (.tuple [fK (dj 3 u p).1,iV (dj 3 u p).2]):=PY u p _ _ _ (jE hu p) (by have:=Cs p u hu.n;omega)
theorem uE {w:Int} (h:gj w=true):w=0∨w=1∨w=2∨w=3:=by
  unfold gj at h
  rw [ba] at h
  have h1:=fM h.1
  have h2:=fM h.2
  omega
/-- Where a unit is inserted. -/
theorem SU {u:TUnit} (hu:OkB u) (p:List PStep) (hp:p.length<2 ^ 40∧∀ s,s∈p→s.label.length≤2 ^ 39) (w:Int) (hw:gj w=true):kP 222 [eU u, .ls (p.map ak),iV w]
    (.tuple [aZ (wJ (aG u p).2 (dj w u (aG u p).1).1 (dj w u (aG u p).1).2).1.id,iV (wJ (aG u p).2 (dj w u (aG u p).1).1 (dj w u (aG u p).1).2).1.at_,iV (wJ (aG u p).2 (dj w u (aG u p).1).1 (dj w u (aG u p).1).2).2]):=by
  rcases uE hw with rfl | rfl | rfl | rfl
  · exact pt 0 _ rfl rfl u p _ _ _ _ (vZ hu p hp) (KK hu _)
  · exact pt 1 _ rfl rfl u p _ _ _ _ (vZ hu p hp) (KJ hu _)
  · exact pt 2 _ rfl rfl u p _ _ _ _ (vZ hu p hp) (KW hu _)
  · exact pt 3 _ rfl rfl u p _ _ _ _ (vZ hu p hp) (KX hu _)
theorem Vm {u:TUnit} (hu:OkB u) (p q:PId) (w:Int) (hw:gj w=true) : ∃ bs,kP 224 [eU u,aZ p,aZ q,iV w]
    (.tuple [fK (jR p q (qL p u) (nM p u) (jY p u) ((od q u).any (aM p)) bs (dj w u q).1 (dj w u q).2).1,iV (jR p q (qL p u) (nM p u) (jY p u) ((od q u).any (aM p)) bs (dj w u q).1 (dj w u q).2).2]):=by
  have hb:=Cs p u hu.n
  have hb : -1≤nM p u∧nM p u≤2 ^ 40:=by omega
  have hn:nU u≤2 ^ 20:=bL hu.n (by decide)
  have hal:(od q u).length<2 ^ 40:=by
    have:=lQ (p:=q) u
    have:=hu.n
    unfold od
    rw [List.length_reverse,lM,rh];omega
  have hC:=KG (od q u) p hal
  rcases uE hw with rfl | rfl | rfl | rfl
  · exact ⟨_,Fp 0 _ rfl rfl rfl u p q _ _ _ _ _ _ _ hb (wA 0 u q hu.n) (jE hu p) (GT q u hn) hC (KK hu q)⟩
  · exact ⟨_,Fp 1 _ rfl rfl rfl u p q _ _ _ _ _ _ _ hb (wA 1 u q hu.n) (jE hu p) (GT q u hn) hC (KJ hu q)⟩
  · exact ⟨_,PS u p q _ _ _ _ _ _ _ hb (wA 2 u q hu.n) (jE hu p) (GT q u hn) hC (KW hu q)⟩
  · exact ⟨_,PR u p q _ _ _ _ _ _ _ hb (wA 3 u q hu.n) (jE hu p) (GT q u hn) hC (KX hu q)⟩
theorem FM {B:Nat} : ∀ {l:List TUnit},(∀ x,x∈l→(mz x).length≤B)→(l.flatMap mz).length≤B * l.length
  | [],_=>bN _
  | x::r,h=>by
    have h1:=h x og
    have h2:=FM (l:=r) fun y hy=>h y (kw _ hy)
    rw [List.flatMap_cons,lA,lC,Nat.mul_succ];omega
theorem ND {u:TUnit} (h:ll u):(mZ u).length≤2 ^ 29:=by
  rw [Rw]
  have h1 : ∀ x,x∈bB u→(mz x).length≤600:=fun x hx=>by
    obtain ⟨a,b,_⟩:=h.2 x hx
    unfold mz;rw [lA];omega
  have h2:=FM h1
  have h3:(bB u).length=nU u:=by rw [jv];unfold cC;rw [lM]
  rw [h3] at h2
  have:=h.1
  omega
theorem WF {e:Int} {sp:PSpot} {e2:Int} (h:(wJ e sp e2).2=0):e=0∧e2=0∧(wJ e sp e2).1=sp:=by
  unfold wJ at h ⊢
  cases h1:az e 0 with
  | false=>rw [h1] at h;rw [show e=0 from h] at h1;cases h1
  | true=>
    rw [h1] at h
    cases h2:az e2 0 with
    | false=>rw [h2] at h;rw [show e2=0 from h] at h2;cases h2
    | true=>exact ⟨eJ h1,eJ h2,rfl⟩
theorem SR {u u2:TUnit} {te:Int} {full cf:Bool} : (IK u te full cf u2).1=u∨(full=false∧cf=false∧(IK u te full cf u2).1=u2):=by
  unfold IK;cases az te 0 <;> cases full <;> cases cf <;> first | exact .inl rfl | exact .inr ⟨rfl,rfl,rfl⟩
/-- An insertion has an outcome. -/
theorem Uv {u:TUnit} (hu:OkB u) (f:TUnit) (d:PDeed) (hd:JN d.it) (hg:yB d.it) (hk:d.it.kind=0) : ∃ r:oF,kP 76 [eU u,eU f,bc d] (eB r)∧OkB r.1:=by
  have hw:=hg.1 (.inl hk)
  have hD:=Qt u d.it _ _ _ (by rw [hk];rfl) (SU hu d.it.at_ hd.2.1 d.it.where_ hw)
  cases he:az (wJ (aG u d.it.at_).2 (dj d.it.where_ u (aG u d.it.at_).1).1 (dj d.it.where_ u (aG u d.it.at_).1).2).2 0 with
  | false=>exact ⟨(u,_),S0 u f d _ _ _ he hD,hu⟩
  | true=>
    have e0:=eJ he
    obtain ⟨e1,e2,e3⟩:=WF e0
    obtain ⟨n,n1,n2,n3⟩:=FX hu (pj e1) e2
    rw [e0,e3,n1] at hD
    have ht:=hd.2.2.2.2.2.2.2.2
    have hS:=NO d.act d.item d.it.unit (bL ht.1 (by decide)) (ND ht) (fun x hx=>⟨bL (ht.2 x hx).1 (by decide),bL (ht.2 x hx).2.1 (by decide)⟩)
    have hsn:=NP d.act d.item d.it.unit 0 0
    have hsi:=tc d.act d.item d.it.unit 0 0
    have hsw:=Jg d.act d.item 300 d.it.unit 0 0 (fun x hx=>⟨(ht.2 x hx).1,(ht.2 x hx).2.1⟩)
    generalize cT d.act d.item d.it.unit 0 0=X at *
    have hn:=hu.n
    have hm:=ht.1
    have hX:nU X≤2 ^ 19:=by omega
    have hkp:(eW (dj d.it.where_ u (aG u d.it.at_).1).1.id u).kids.length<2 ^ 40:=by
      cases h:cb (dj d.it.where_ u (aG u d.it.at_).1).1.id u with
      | true=>have:=dD (tH h).1;have:=bq (eW (dj d.it.where_ u (aG u d.it.at_).1).1.id u);omega
      | false=>unfold eW;rw [h];exact wN (bN 0) (by decide)
    have hiu:(cC u).length<2 ^ 40:=by rw [← jv];omega
    have hix:(cC X).length<2 ^ 40:=by rw [← jv];omega
    refine ⟨_,SN u f _ X _ d _ n (nU u) (nU X) _ _ _ _ (cC u) (cC X) (by omega) (by omega) hD (uj hu _) hS (xU _ X hkp) (Kt u X _ (by omega) (by omega)) (DY u (by omega)) (DY X (by omega)) (PC u (by omega)) (PC X (by omega)) (ZW (cC X) (cC u) hiu hix) (Nl _ n X u (by omega) (vX hu) n3),?_⟩
    rcases SR (u:=u) (u2:=dq (dj d.it.where_ u (aG u d.it.at_).1).1.id (dN n X) u) (te:=ta (eW (dj d.it.where_ u (aG u d.it.at_).1).1.id u) X) (full:=aV (ao (Int.ofNat (eW (dj d.it.where_ u (aG u d.it.at_).1).1.id u).kids.length) 64) || (sI u (dj d.it.where_ u (aG u d.it.at_).1).1.id X || ao 1024 (Int.ofNat (nU u+nU X)))) (cf:=(cC X).any fun i=>(cC u).any (aM i)) with q | ⟨q1,q2,q3⟩
    · rw [q];exact hu
    · rw [q3]
      rw [Bool.or_eq_false_iff,Bool.or_eq_false_iff] at q1
      have q4:=av q1.2.2
      simp only [oN] at q4
      refine hu.ins (by rw [hsi];exact NS _ _ _ _) (fun p hp hq=>?_) (by omega) hsw
      rw [List.any_eq_false] at q2
      have:=q2 p hp
      exact this (List.any_eq_true.2 ⟨p,hq,jy p⟩)
/-- A unit is taken away. -/
theorem UK {u:TUnit} (hu:OkB u) {p:PId} (hp:jY p u=true) : ∃ q i,q∈bB u∧qL p u=al q∧nM p u=Int.ofNat i∧i<q.kids.length∧al (gD q.kids i)=p∧kP 139 [eU u,aZ p] (eU (dq (al q) (iK i) u)):=by
  obtain ⟨q,i,h1,h2,h3,h4,h5⟩:=tL u hp
  have hP:=jE hu p
  rw [h2,h3,hp] at hP
  exact ⟨q,i,h1,h2,h3,h4,h5,xQ u _ p _ i hP (Nn (al q) i u (bL hu.n (by decide)) (vX hu) fun v hv hid=>by rw [hu.uni hv h1 ((gw _ v).1 hid)];exact h4)⟩
theorem Wu {u x:TUnit} (hu:OkB u) (d:PDeed) (hp:jY (al x) u=true) : ∃ r:oF,kP 77 [eU u,eU x,bc d] (eB r)∧OkB r.1:=by
  obtain ⟨q,i,h1,h2,h3,h4,h5,h6⟩:=UK hu hp
  exact ⟨_,R8 u x _ d h6,(hu.del h1 h4).1⟩
theorem Co (l:List PWord):(qG l).length≤256:=by
  unfold qG
  cases h:ao 256 (Int.ofNat l.length) with
  | true=>exact bN _
  | false=>have:=av h;simp only [oN] at this;show l.length≤256;omega
theorem Oz (a b:Int) (w:List PWord) (old new:List aP) (n:Int):(Eu a b w old new n).1.length≤256:=by
  unfold Eu
  cases az (Int.ofNat old.length) 0
  · cases az (Int.ofNat (lG (qN (bW w) old) n).length) 0
    · exact Co _
    · exact bN _
  · exact bN _
theorem SO (a b:Int) (w:List PWord) (part new:List aP) (n:Int):(CR a b w part new n).1.length≤256:=by
  unfold CR
  cases (az (Int.ofNat new.length) 0 || (az (Int.ofNat part.length) 0 && aV (az n 0)))
  · cases az (Int.ofNat part.length) 0
    · cases az (Int.ofNat (lG (qN (bW w) part) n).length) 0
      · exact Co _
      · exact bN _
    · exact Co _
  · exact bN _
theorem rO {l:List aP} (h:lX l=true):l.length≤256:=by
  unfold lX at h
  rw [ba] at h
  have:=fM h.1
  simp only [oN] at this
  omega
theorem JT {n:Int} (h:wK n=true):0≤n∧n≤256:=by
  unfold wK at h
  rw [ba] at h
  exact ⟨fM h.1,fM h.2⟩
theorem Bd {u:TUnit} (hu:OkB u) (q:PId) {l:List PWord} (hl:l.length≤300):OkB (dq q (kT l) u):=hu.keep (fun _=>⟨rfl,rfl⟩) fun v hv=>⟨(hu.w v hv).1,hl⟩
theorem OT {u:TUnit} (hu:OkB u) (q:PId) {l:List PWord} (hl:l.length≤300):OkB (dq q (yu l) u):=hu.keep (fun _=>⟨rfl,rfl⟩) fun v hv=>⟨hl,(hu.w v hv).2⟩
theorem LH {u:TUnit} (hu:OkB u) (q:PId) (s:aP):OkB (dq q (oK s) u):=hu.keep (fun _=>⟨rfl,rfl⟩) fun v hv=>hu.w v hv
theorem Jx {u u2:TUnit} {e:Int} (h:OkB u) (h2:OkB u2):OkB (AK u e u2).1:=by
  unfold AK;cases az e 0;exact h;exact h2
theorem Wv {u x:TUnit} (hu:OkB u) (hx:x∈bB u) (d:PDeed) (hg:yB d.it) (hk:d.it.kind=2) : ∃ r:oF,kP 78 [eU u,eU x,bc d] (eB r)∧OkB r.1:=by
  obtain ⟨h1,h2⟩:=hg.2.2.1 (.inl hk)
  have h3:=rO h1
  have h4:=rO (hg.2.2.2 (.inl hk))
  obtain ⟨h5,h6⟩:=JT h2
  have h7:=(hu.w x hx).2
  have hR:=R7 d.act d.item x.words d.it.old d.it.new d.it.nth_ (by omega) (by omega) (by omega) h5 (by omega) (vK h5)
  exact ⟨_,Rn u x _ d _ _ hR (Nd (al x) _ u (bL hu.n (by decide)) (vX hu)),Jx hu (Bd hu _ (bL (Oz ..) (by decide)))⟩
theorem WE {u x:TUnit} (hu:OkB u) (hx:x∈bB u) (d:PDeed) (hg:yB d.it) (hk:d.it.kind=3) : ∃ r:oF,kP 79 [eU u,eU x,bc d] (eB r)∧OkB r.1:=by
  obtain ⟨h1,h2⟩:=hg.2.2.1 (.inr hk)
  have h3:=rO h1
  have h4:=rO (hg.2.2.2 (.inr (.inl hk)))
  obtain ⟨h5,h6⟩:=JT h2
  have h7:=(hu.w x hx).2
  have hR:=W9 d.act d.item x.words d.it.old d.it.new d.it.nth_ (by omega) (by omega) (by omega) h5 (by omega)
  exact ⟨_,SX u x _ d _ _ hR (Ng (al x) _ u (bL hu.n (by decide)) (vX hu)),Jx hu (Bd hu _ (bL (SO ..) (by decide)))⟩
theorem XY {u x:TUnit} (hu:OkB u) (d:PDeed) (hg:yB d.it) (hk:d.it.kind=4) : ∃ r:oF,kP 80 [eU u,eU x,bc d] (eB r)∧OkB r.1:=by
  have h4:=rO (hg.2.2.2 (.inr (.inr hk)))
  have hM:=wo d.it.new d.act d.item 0 (by omega) (by decide)
  exact ⟨_,TX u x _ d _ hM (Nm (al x) _ u (bL hu.n (by decide)) (vX hu)),OT hu _ (by rw [fH];omega)⟩
theorem Ux {u:TUnit} (hu:OkB u) (p:PId):(eW p u).kids.length<2 ^ 40:=by
  have hn:=hu.n
  cases h:cb p u with
  | true=>have:=dD (tH h).1;have:=bq (eW p u);omega
  | false=>unfold eW;rw [h];exact wN (bN 0) (by decide)
theorem WB {u x:TUnit} (hu:OkB u) (d:PDeed) : ∃ r:oF,kP 81 [eU u,eU x,bc d] (eB r)∧OkB r.1:=by
  refine ⟨_,SQ u x _ _ d _ _ _ _ _ (jE hu (al x)) (uj hu _) (xU _ _ (Ux hu _)) (Nf (al x) d u (bL hu.n (by decide)) (vX hu)),?_⟩
  unfold Ow
  cases az (ta (eW (qL (al x) u) u) (oK d.it.label x)) 10
  · exact LH hu _ _
  · exact hu
theorem Si {u u2:TUnit} {te:Int} {full:Bool} (h:OkB u) (h2:OkB u2):OkB (LO u te full u2).1:=by
  unfold LO;cases az te 0 <;> cases full <;> first | exact h | exact h2
theorem Xa {e2 e3:Int} {sp:PSpot} (h:(AJ 0 e2 sp e3).2=0):e2=0∧e3=0∧(AJ 0 e2 sp e3).1=sp:=by
  unfold AJ at h ⊢
  rw [show az 0 0=true from rfl] at h ⊢
  simp only [cond_true] at h ⊢
  cases h1:az e2 0 with
  | false=>rw [h1] at h;rw [show e2=0 from h] at h1;cases h1
  | true=>
    rw [h1] at h
    cases h2:az e3 0 with
    | false=>rw [h2] at h;rw [show e3=0 from h] at h2;cases h2
    | true=>exact ⟨eJ h1,eJ h2,rfl⟩
/-- A move has an outcome. -/
theorem WR {u x:TUnit} (hu:OkB u) (hx:x∈bB u) (d:PDeed) (hd:JN d.it) (hg:yB d.it) (hk:d.it.kind=6) (h0:(aG u d.it.at_).2=0) (hid:(aG u d.it.at_).1=al x) (hp:jY (al x) u=true) : ∃ r:oF,kP 82 [eU u,eU x,bc d] (eB r)∧OkB r.1:=by
  have hw:=hg.1 (.inr hk)
  have hF:=vZ hu d.it.at_ hd.2.1
  rw [h0,hid] at hF
  obtain ⟨bs,hG⟩:=Vm hu (al x) (aG u d.it.to).1 d.it.where_ hw
  obtain ⟨q,i,h1,h2,h3,h4,h5,h6⟩:=UK hu hp
  have hD:=Qs u d.it _ _ _ _ _ _ (by rw [hk];rfl) (by rw [hk];rfl) hw hF (vZ hu d.it.to hd.2.2.1) hG
  rw [h2,h3,hp] at hD
  cases he:az (AJ 0 (aG u d.it.to).2 (jR (al x) (aG u d.it.to).1 (al q) (Int.ofNat i) true ((od (aG u d.it.to).1 u).any (aM (al x))) bs (dj d.it.where_ u (aG u d.it.to).1).1 (dj d.it.where_ u (aG u d.it.to).1).2).1 (jR (al x) (aG u d.it.to).1 (al q) (Int.ofNat i) true ((od (aG u d.it.to).1 u).any (aM (al x))) bs (dj d.it.where_ u (aG u d.it.to).1).1 (dj d.it.where_ u (aG u d.it.to).1).2).2).2 0 with
  | false=>exact ⟨(u,_),Sl u x d _ _ _ he hD,hu⟩
  | true=>
    have e0:=eJ he
    obtain ⟨e1,e2,e3⟩:=Xa e0
    obtain ⟨n,n1,n2,n3⟩:=PP hu h1 h4 (pj e1) e2
    rw [e0,e3,n1] at hD
    obtain ⟨hr,hpm⟩:=hu.del h1 h4
    have hkx:gD q.kids i=x:=hu.uni (iH h1 (bC (gy h4) (dJ _))) hx h5
    rw [hkx] at hpm
    have hnr:=hr.n
    have hnx:=dD hx
    have hn:=hu.n
    refine ⟨_,Sh u x _ _ _ d _ _ n _ _ _ _ _ hD (jE hu (al x)) h6 (uj hr _) (xU _ x (Ux hr _)) (Kt _ x _ (by omega) (by omega)) (Nh _ n x _ (by omega) (vX hr) n3),Si hu ?_⟩
    have hnd:=List.nodup_append.1 (hpm.nodup_iff.1 hu.nd)
    have hlen:=hpm.length_eq
    rw [lA,← jv,← jv,← jv] at hlen
    exact hr.ins hnd.2.1 (fun p hp hq=>hnd.2.2 p hq p hp rfl) (by omega) (fun y hy=>hu.w y (iH hx hy))
/-- An item's doer. -/
theorem Yb {u x:TUnit} (hu:OkB u) (hx:x∈bB u) (d:PDeed) (hd:JN d.it) (hg:yB d.it) (hk0:0≤d.it.kind) (hk6:d.it.kind≤6) (h0:(aG u d.it.at_).2=0) (hid:(aG u d.it.at_).1=al x) (hp:jY (al x) u=true) : ∃ r:oF,kP (Uo d.it.kind) [eU u,eU x,bc d] (eB r)∧OkB r.1:=by
  have hk:d.it.kind=0∨d.it.kind=1∨d.it.kind=2∨d.it.kind=3∨d.it.kind=4∨d.it.kind=5∨d.it.kind=6:=by omega
  rcases hk with h | h | h | h | h | h | h <;> rw [h]
  · exact Uv hu x d hd hg h
  · exact Wu hu d hp
  · exact Wv hu hx d hg h
  · exact WE hu hx d hg h
  · exact XY hu d hg h
  · exact WB hu d
  · exact WR hu hx d hd hg h h0 hid hp
/-- An amendment has one outcome. -/
theorem TO {u:TUnit} (hu:OkB u) (d:PDeed) (hd:JN d.it) (hk0:0≤d.it.kind) (hk6:d.it.kind≤6) : ∃ r:oF,kP 21 [eU u,bc d] (eB r)∧OkB r.1:=by
  obtain ⟨b,hV,hg⟩:=UC d.it hd hk0 hk6
  have hl:=VV d hk0 hk6
  cases b with
  | false=>exact ⟨_,TP u d _ hl hV,hu⟩
  | true=>
    have hg:=hg rfl
    have hF:=vZ hu d.it.at_ hd.2.1
    cases he:az (aG u d.it.at_).2 0 with
    | false=>exact ⟨_,TT u d _ _ _ hl hV he hF,hu⟩
    | true=>
      have e0:=eJ he
      have hh:=pj e0
      obtain ⟨hx,hxi⟩:=tH hh
      rw [e0] at hF
      have hX:=uj hu (aG u d.it.at_).1
      cases hi:(az (aG u d.it.at_).1.a u.act && (az (aG u d.it.at_).1.i u.item && az (aG u d.it.at_).1.n u.n)) with
      | true=>
        cases hk:az d.it.kind 0 with
        | true=>
          have hk:=eJ hk
          obtain ⟨r,h1,h2⟩:=Uv hu (eW (aG u d.it.at_).1 u) d hd hg hk
          exact ⟨r,RQ u _ d _ _ _ r hl hV hF hX hi (by rw [hk];rfl) (by rw [hk];exact h1),h2⟩
        | false=>exact ⟨_,TR u _ d _ _ _ _ _ hl hV hF hX hi hk (vZ hu d.it.to hd.2.2.1),hu⟩
      | false=>
        have hni:gQ (aG u d.it.at_).1 u=false:=by
          cases q:gQ (aG u d.it.at_).1 u with
          | false=>rfl
          | true=>
            have:=(gw _ u).1 q
            rw [← this] at hi
            have e:(az (al u).a u.act && (az (al u).i u.item && az (al u).n u.n))=true:=by
              show (az u.act u.act && (az u.item u.item && az u.n u.n))=true
              rw [bF,bF,bF];rfl
            rw [e] at hi;cases hi
        obtain ⟨r,h1,h2⟩:=Yb hu hx d hd hg hk0 hk6 e0 hxi.symm (by rw [hxi];exact TJ hh hni)
        exact ⟨r,T0 u _ d _ _ _ r hl hV hF hX hi h1,h2⟩
def Px (s:aP) (x0:Nat):Prop:=x0≤List.length s∧∀ (j:Nat),j<x0→ec (gD s j)=true
noncomputable def FW (s:aP) (x0:Nat):List AV × List AObj:=([AV.str s,nV x0], [])
theorem SI (s:aP) (hs:s.length≤2 ^ 39):kP 335 [.str s] (nV (cN ec s)):=by
  have rr0 : ∀ b',(h:(Int.ofNat (cN ec s))=b':=by first | (rw [Cl hx0.2 hx0.1 (fun h=>absurd h (by (first | omega | (simp only [oN] at *;omega))))]) | (rw [Cl hx0.2 hx0.1 (fun _=>IU (by assumption))]) | (rw [Cl hx0.2 hx0.1 (fun _=>CS (by assumption))]))→(Int.ofNat (cN ec s))=b':=(fun _ h=>h);exact b7 Tryz.func335 (Mg 1 (ML (Nat) [0,3] (FW s) (Px s) (fun n=>List.length s - n) (0) (ax ((FW s) (0))) (by exact ⟨bN _,fun j hj=>absurd hj (qk _)⟩:(0:Nat)≤List.length s∧∀ (j:Nat),j<(0:Nat)→ec (gD s j)=true) (fun x0 hx0 nx0=>have hx0:x0≤List.length s∧∀ (j:Nat),j<x0→ec (gD s j)=true:=hx0;(Mg 4 (Mb (ao (Int.ofNat x0) (Int.ofNat (List.length s))) (fun h1=>have gh1:=aJ h1;(Mg 0 (Mt h1 (Mg 0 (Mt h1 (M1 (.chr (gD s x0)) (kL (by (simp only [oN,lM,lS] at *;omega):x0<(s).length)) (Mt h1 (Mg 0 (M1 (.pk true) h1 (Mg 0 (Mb (aV (ao (Int.ofNat (gD s x0).toNat) 48)) (fun z=>have h2:(ao (Int.ofNat (gD s x0).toNat) 48)=false:=(aI z);(have gh2:=av h2;(Mg 0 (Mt (ce h2) (Mg 0 (Mt (ce h2) (M1 (.chr (gD s x0)) (kL (by (simp only [oN,lM,lS] at *;omega):x0<(s).length)) (Mt (ce h2) (Mg 0 (M1 (.pk true) (ce h2) (Mn (ao 57 (Int.ofNat (gD s x0).toNat)) (fun h3=>have gh3:=av h3;(Mg 1 (Ml 21 (bb (x:=Int.ofNat x0+(1:Int)) (n:=x0+(1:Nat)) cq) (Mg 0 (Mf (nx0 (x0+1) (by exact ⟨by (simp only [oN] at *;omega),Qr hx0.2 (IY (by assumption) (by assumption))⟩:x0+(1:Nat)≤List.length s∧∀ (j:Nat),j<x0+(1:Nat)→ec (gD s j)=true) (by (simp only [oN] at *;omega):List.length s - (x0+(1:Nat))<List.length s - x0))))))) (fun h3=>have gh3:=aJ h3;(Mg 1 (Mf (aj (k:= .i64) (rr0 (Int.ofNat x0))))))))))))))))) (fun z=>have h2:(ao (Int.ofNat (gD s x0).toNat) 48)=true:=(aL z);(have gh2:=aJ h2;(Mh (cJ h2) (Mh (cJ h2) (Mh (cJ h2) (M1 (.pk false) (cJ h2) (Mg 2 (Mf (aj (k:= .i64) (rr0 (Int.ofNat x0)))))))))))))))))))))) (fun h1=>have gh1:=av h1;(Mh h1 (Mh h1 (Mh h1 (M1 (.pk false) h1 (Mg 4 (Mf (aj (k:= .i64) (rr0 (Int.ofNat x0)))))))))))))))
def PW (s:aP) (n:Nat) (x0:Nat):Prop:=n≤x0∧x0≤List.length s∧∀ (j:Nat),n≤j→j<x0→Au (gD s j)=true
noncomputable def FQ (s:aP) (n:Nat) (x0:Nat):List AV × List AObj:=([AV.str s,nV x0], [])
theorem SH (s:aP) (hs:s.length≤2 ^ 39):kP 285 [.str s] (.bool (fu s)):=by
  have hd:=SI s hs
  have hl:=rN (p:=ec) (s:=s)
  rw [L3]
  generalize cN ec s=n at *
  have rr0 : ∀ b',(h:(aV (ao (Int.ofNat n) 1) && (aV (ao 4 (Int.ofNat n)) && (aV (az (Int.ofNat (gD s 0).toNat) 48) && (aV (ao 3 (Int.ofNat (List.length s - n))) && (s.drop n).all Au))))=b':=by first | (simp only [aS,aV,bS, *];done) | (simp only [aS,aV,bS, *];rfl) | (rw [NF (fun j h1 h2=>hx0.2.2 j h1 (by (first | omega | (simp only [oN] at *;omega))))];simp only [aS,aV,bS, *]) | (rw [Je hx0.1 (by (first | omega | (simp only [oN] at *;omega))) (IU (by assumption))];simp only [aS,aV,bS, *]) | (rw [Je hx0.1 (by (first | omega | (simp only [oN] at *;omega))) (CS (by assumption))];simp only [aS,aV,bS, *]))→(aV (ao (Int.ofNat n) 1) && (aV (ao 4 (Int.ofNat n)) && (aV (az (Int.ofNat (gD s 0).toNat) 48) && (aV (ao 3 (Int.ofNat (List.length s - n))) && (s.drop n).all Au))))=b':=(fun _ h=>h);exact b7 Tryz.func285 (Mg 1 (Mp (hd) (Mg 3 (Mb (ao (Int.ofNat n) 1) (fun h0=>have gh0:=aJ h0;(Mt h0 (M1 (.pk true) h0 (Mg 5 (Mf (aq (rr0 (false)))))))) (fun h0=>have gh0:=av h0;(Mg 0 (Mh h0 (Mg 0 (M1 (.pk false) h0 (Mg 0 (Mb (ao 4 (Int.ofNat n)) (fun h1=>have gh1:=aJ h1;(Mt h1 (Mt h1 (M1 (.pk true) h1 (Mg 3 (Mf (aq (rr0 (false))))))))) (fun h1=>have gh1:=av h1;(Mg 0 (Mh h1 (M1 (.chr (gD s 0)) (kL (by (simp only [oN,lM,lS] at *;omega):0<(s).length)) (Mh h1 (Mg 0 (M1 (.pk false) h1 (Mg 0 (Mb (az (Int.ofNat (gD s 0).toNat) 48) (fun h2=>have gh2:=eJ h2;(Mt h2 (Mt h2 (Mt h2 (Mt h2 (M1 (.pk true) h2 (Mg 1 (Mf (aq (rr0 (false))))))))))) (fun h2=>have gh2:=iS h2;(Mg 0 (Mh h2 (Mg 0 (Mh h2 (Mg 0 (Mh h2 (Mg 0 (Ml 22 (bb (x:=Int.ofNat (List.length s) - Int.ofNat n) (n:=List.length s - n) cq) (Mh h2 (Mg 0 (M1 (.pk false) h2 (Mb (ao 3 (Int.ofNat (List.length s - n))) (fun h3=>have gh3:=aJ h3;(Mg 0 (Mf (aq (rr0 (false)))))) (fun h3=>have gh3:=av h3;(Mg 1 (ML (Nat) [0,4] (FQ s n) (PW s n) (fun i=>List.length s - i) (n) (ax ((FQ s n) (n))) (by exact ⟨ar _,hl,fun j h1 h2=>absurd h2 (by omega)⟩:n≤n∧n≤List.length s∧∀ (j:Nat),n≤j→j<n→Au (gD s j)=true) (fun x0 hx0 nx0=>have hx0:n≤x0∧x0≤List.length s∧∀ (j:Nat),n≤j→j<x0→Au (gD s j)=true:=hx0;(Mg 3 (Mb (ao (Int.ofNat x0) (Int.ofNat (List.length s))) (fun h5=>have gh5:=aJ h5;(Mg 1 (M1 (.chr (gD s x0)) (kL (by (simp only [oN,lM,lS] at *;omega):x0<(s).length)) (Mg 1 (Mb (ao (Int.ofNat (gD s x0).toNat) 65) (fun h6=>have gh6:=aJ h6;(Mt h6 (Mt h6 (Mt h6 (M1 (.pk true) h6 (Mg 1 (Mf (aq (rr0 (false)))))))))) (fun h6=>have gh6:=av h6;(Mg 0 (Mh h6 (Mg 0 (Mh h6 (M1 (.chr (gD s x0)) (kL (by (simp only [oN,lM,lS] at *;omega):x0<(s).length)) (Mh h6 (Mg 0 (M1 (.pk false) h6 (Mb (ao 90 (Int.ofNat (gD s x0).toNat)) (fun h7=>have gh7:=aJ h7;(Mg 0 (Mf (aq (rr0 (false)))))) (fun h7=>have gh7:=av h7;(Mg 1 (Ml 31 (bb (x:=Int.ofNat x0+(1:Int)) (n:=x0+(1:Nat)) cq) (Mg 0 (Mf (nx0 (x0+1) (by exact ⟨by omega,by (simp only [oN] at *;omega),LY hx0.2.2 (IY (by assumption) (by assumption))⟩:n≤x0+(1:Nat)∧x0+(1:Nat)≤List.length s∧∀ (j:Nat),n≤j→j<x0+(1:Nat)→Au (gD s j)=true) (by (simp only [oN] at *;omega):List.length s - (x0+(1:Nat))<List.length s - x0)))))))))))))))))))))) (fun h5=>have gh5:=av h5;(Mg 0 (Mf (aq (rr0 (true)))))))))))))))))))))))))))))))))))))))))))))
theorem T3:kP 211 [iV 2] (.tuple [.str [115,101,99,116,105,111,110], .bool true]):=by
  exact wk Tryz.func211 (.go 16 .fin) (aW (fQ [af [115,101,99,116,105,111,110],dW true]))
theorem Pv:kP 212 [.ps [.str [115,101,99,116,105,111,110], .str [53]] false, .str [32]] (.str [115,101,99,116,105,111,110,32,53]):=by
  have h:=KU [[115,101,99,116,105,111,110], [53]] [32] (by decide) (by decide)
  exact h.onArgs (.cons (Le.ps _ _ rfl) (.cons (Le.refl _) .nil))
def FH  (x0:Unit):Prop:=True
noncomputable def vd  (x0:Unit):List AV × List AObj:=([AV.nils,AV.ps [AV.agg [iV 2,AV.str [53]]] true,iV 1,iV 0], [])
def FG  (x0:Unit):Prop:=True
noncomputable def FF  (x0:Unit):List AV × List AObj:=([AV.slice 0 1 0 2 none,AV.ps [AV.agg [iV 2,AV.str [53]]] true,iV 1,iV 1], [AObj.row 1 true 1 [AV.str [115,101,99,116,105,111,110],AV.str [53]]])
theorem P8:kP 102 [.ps [.agg [iV 2, .str [53]]] true] (.str [115,101,99,116,105,111,110,32,53]):=by
  have h:kP 84 [.ps [.agg [iV 2, .str [53]]] true] (.bool true):=(pm [⟨2, [53]⟩] (by decide) (fun x hx=>by rw [oI.1 hx];decide)).onArgs (.cons (Le.ps _ _ rfl) .nil)
  have hk:kP 174 [.agg [iV 2, .str [53]]] (.bool false):=zP ⟨2, [53]⟩
  exact b7 Tryz.func102 (Mg 1 (Mp (h) (Mg 5 (MM (Unit) (Unit) [3,11,12,13] (vd) (FF) (FH) (FG) (fun x=>1) (fun x=>0) (.inl (())) (ax ((vd) (()))) (by trivial:True) (fun x0 hx0 nx0=>have hx0:True:=hx0;(Mg 7 (Mp (T3) (Mg 10 (Mp (hk) (Mg 9 (M0 (.ren [1,0] [] [3,11,12,13]) (M1 (.frz 1 [3,11,12,13]) (et rt ti) (Mf (nx0 (.inr (())) (by trivial:True) (by omega:(0:Nat)<(1:Nat)))))))))))) (fun x0 hx0 nx0=>have hx0:True:=hx0;(Mg 2 (M1 (.frz 0 [36]) ti (Mp (Pv) (Mg 0 (Mf (aW (af [115,101,99,116,105,111,110,32,53]))))))))))))
end Go.Proofs.YtefibmgdgameaaaGreatDoor
