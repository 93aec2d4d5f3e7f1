/- Functions walked: what each of them answers, for the law of purposes: part 5. Conditions: those that each theorem names. -/
import Derived.Test.YtidehekfpcgelaaGreatDoorH4
namespace Go.Proofs.YtidehekfpcgelaaGreatDoor
open Go Go.Ev
noncomputable abbrev Bj (l:List PWord):AObj:= .row 4 true 0 (l.map aQ)
noncomputable def Em:TypeInfo:=(Tryz.prog.info? 90).getD default
theorem El:Tryz.prog.info? 90=some Em:=by kernel_rfl
theorem xS:Em.size=4:=by kernel_rfl
theorem vE:Em.bytes=40:=by kernel_rfl
theorem Uv (l:List PWord):dn 4 (l.map aQ)=true:=fw (fun w=>by cases w;rfl) l
/-- A copy of words: a row of its own. -/
theorem Yh (ws:List PWord) (hl:ws.length≤2 ^ 20) (a b c d:AObj):kD 183 [.ls (ws.map aQ)] (ay [a,b,c,d]) (.sl0 4 0 ws.length none) (ay [a,b,c,d,Bj ws]):=by
  by_cases hne:ws = []
  · subst hne
    have hE:(ay [a,b,c,d]).push (Bj [])=ay [a,b,c,d,Bj []]:=by kernel_rfl
    have h:=aF.psh (o:=Bj []) (u:= .sl0 4 0 0 none) (rJ [] (by omega) (ay [a,b,c,d])) D9
    simp_all
  have hn:ws.map aQ≠ []:=fun h=>hne (List.map_eq_nil_iff.1 h)
  have hf:=Uv ws
  have hsm:small (ws.map aQ).length 40=true:=by grind [ao]
  have hlen:ws.length=(ws.map aQ).length:=(cX ..).symm
  unfold Bj
  rw [hlen]
  generalize ws.map aQ=L at hn hf hsm
  refine (aF.less (Ψ:=fun v h=>v = .slice 4 0 0 L.length none∧h=ay [a,b,c,d, .row 4 true 0 L]) ?_ fun v h ⟨h1,h2⟩=>⟨_,h1 ▸ Le.sl0,rfl,h2⟩)
  refine aF.enter 2 (fn:=Tryz.f183) Tryz.func183 (by kernel_rfl) rfl ⟨by kernel_rfl,by kernel_rfl⟩ ?_
  refine al.seq (al.mono (Db pa iL (ev 40) (s':=⟨dR 8 [(0, .ls L),(2, .nils)],ay [a,b,c,d]⟩) (.go 0 .fin) (by kernel_rfl)) ?_)
  rintro _ _ ⟨rfl,rfl⟩
  refine al.seq (al.seq (al.mono (xb iL (ev 40) (Ψ:=fun s=>s=⟨dR 8 [(0, .ls L),(2, .nils),(3, .ps L false),(4, .bool false)],ay [a,b,c,d]⟩) (.go 0 (.nz 3 .abs (.go 0 .fin)))
    (W:=(L = []→False)∧(⟨dR 8 [(0, .ls L),(2, .nils),(3, .ps L false),(4, .bool false)],ay [a,b,c,d]⟩:St)=⟨dR 8 [(0, .ls L),(2, .nils),(3, .ps L false),(4, .bool false)],ay [a,b,c,d]⟩) ⟨hn,rfl⟩ (by kernel_rfl)) ?_))
  rintro _ _ ⟨rfl,rfl⟩
  refine al.cond (t:=false) (by kernel_rfl) (fun h=>by grind) fun _=>al.skip ?_
  refine al.seq (al.region ?_)
  show cj _ _ _ _ [_,_,_,_] _ _
  refine cj.one (s':=⟨dR 8 [(0, .ls L),(2, .nils),(3, .ps L false),(4, .bool false),(5, .ps [] true)],ay [a,b,c,d]⟩) (ev 40) (by kernel_rfl) ?_
  refine cj.one (s':=⟨dR 8 [(0, .ls L),(2, .nils),(3, .ps L false),(4, .bool false),(5, .ps [] true),(6, .ls L)],ay [a,b,c,d]⟩) (ev 40) (by kernel_rfl) ?_
  refine rj (I:=fun k:Nat=>k=0) (r:=fun _=> .slice 4 0 0 L.length none) (H:=fun _=>ay [a,b,c,d, .row 4 true 0 L]) (by kernel_rfl)
    (fun pl M a w g1 g2 g3=>wD (z:=aQ ⟨[],0,0,0⟩) (z0:=aQ ⟨[],0,0,0⟩) (xs:=L) (t:=28) (tx:=28) (e:=90) (i:=Em) xS vE (by kernel_rfl) ⟨90,by kernel_rfl⟩ El (by kernel_rfl) (Le.refl _) (by kernel_rfl) (by kernel_rfl) hn hf (by kernel_rfl) hsm (by omega) pl M a w g1 g2 g3) fun k _=>?_
  refine ⟨dR 8 [(0, .ls L),(2, .nils),(3, .ps L false),(4, .bool false),(5, .ps [] true),(6, .ls L),(7, .slice 4 0 0 L.length none)],by kernel_rfl,?_⟩
  refine cj.one (s':=⟨dR 8 [(0, .ls L),(2, .slice 4 0 0 L.length none),(3, .ps L false),(4, .bool false),(5, .ps [] true),(6, .ls L),(7, .slice 4 0 0 L.length none)],ay [a,b,c,d, .row 4 true 0 L]⟩) (ev 40) (by kernel_rfl) (cj.nil (al.ret ⟨fun id h=>(by grind), .slice 4 0 0 L.length none,by kernel_rfl,by kernel_rfl,by kernel_rfl⟩))
theorem Yg (ws:List PWord) (hl:ws.length≤2 ^ 20) (a b c d e:AObj):kD 183 [.ls (ws.map aQ)] (ay [a,b,c,d,e]) (.sl0 5 0 ws.length none) (ay [a,b,c,d,e,Bj ws]):=by
  by_cases hne:ws = []
  · subst hne
    have hE:(ay [a,b,c,d,e]).push (Bj [])=ay [a,b,c,d,e,Bj []]:=by kernel_rfl
    have h:=aF.psh (o:=Bj []) (u:= .sl0 5 0 0 none) (rJ [] (by omega) (ay [a,b,c,d,e])) D9
    simp_all
  have hn:ws.map aQ≠ []:=fun h=>hne (List.map_eq_nil_iff.1 h)
  have hf:=Uv ws
  have hsm:small (ws.map aQ).length 40=true:=by grind [ao]
  have hlen:ws.length=(ws.map aQ).length:=(cX ..).symm
  unfold Bj
  rw [hlen]
  generalize ws.map aQ=L at hn hf hsm
  refine (aF.less (Ψ:=fun v h=>v = .slice 5 0 0 L.length none∧h=ay [a,b,c,d,e, .row 4 true 0 L]) ?_ fun v h ⟨h1,h2⟩=>⟨_,h1 ▸ Le.sl0,rfl,h2⟩)
  refine aF.enter 2 (fn:=Tryz.f183) Tryz.func183 (by kernel_rfl) rfl ⟨by kernel_rfl,by kernel_rfl⟩ ?_
  refine al.seq (al.mono (Db pa iL (ev 40) (s':=⟨dR 8 [(0, .ls L),(2, .nils)],ay [a,b,c,d,e]⟩) (.go 0 .fin) (by kernel_rfl)) ?_)
  rintro _ _ ⟨rfl,rfl⟩
  refine al.seq (al.seq (al.mono (xb iL (ev 40) (Ψ:=fun s=>s=⟨dR 8 [(0, .ls L),(2, .nils),(3, .ps L false),(4, .bool false)],ay [a,b,c,d,e]⟩) (.go 0 (.nz 3 .abs (.go 0 .fin)))
    (W:=(L = []→False)∧(⟨dR 8 [(0, .ls L),(2, .nils),(3, .ps L false),(4, .bool false)],ay [a,b,c,d,e]⟩:St)=⟨dR 8 [(0, .ls L),(2, .nils),(3, .ps L false),(4, .bool false)],ay [a,b,c,d,e]⟩) ⟨hn,rfl⟩ (by kernel_rfl)) ?_))
  rintro _ _ ⟨rfl,rfl⟩
  refine al.cond (t:=false) (by kernel_rfl) (fun h=>by grind) fun _=>al.skip ?_
  refine al.seq (al.region ?_)
  show cj _ _ _ _ [_,_,_,_] _ _
  refine cj.one (s':=⟨dR 8 [(0, .ls L),(2, .nils),(3, .ps L false),(4, .bool false),(5, .ps [] true)],ay [a,b,c,d,e]⟩) (ev 40) (by kernel_rfl) ?_
  refine cj.one (s':=⟨dR 8 [(0, .ls L),(2, .nils),(3, .ps L false),(4, .bool false),(5, .ps [] true),(6, .ls L)],ay [a,b,c,d,e]⟩) (ev 40) (by kernel_rfl) ?_
  refine rj (I:=fun k:Nat=>k=0) (r:=fun _=> .slice 5 0 0 L.length none) (H:=fun _=>ay [a,b,c,d,e, .row 4 true 0 L]) (by kernel_rfl)
    (fun pl M a w g1 g2 g3=>wD (z:=aQ ⟨[],0,0,0⟩) (z0:=aQ ⟨[],0,0,0⟩) (xs:=L) (t:=28) (tx:=28) (e:=90) (i:=Em) xS vE (by kernel_rfl) ⟨90,by kernel_rfl⟩ El (by kernel_rfl) (Le.refl _) (by kernel_rfl) (by kernel_rfl) hn hf (by kernel_rfl) hsm (by omega) pl M a w g1 g2 g3) fun k _=>?_
  refine ⟨dR 8 [(0, .ls L),(2, .nils),(3, .ps L false),(4, .bool false),(5, .ps [] true),(6, .ls L),(7, .slice 5 0 0 L.length none)],by kernel_rfl,?_⟩
  refine cj.one (s':=⟨dR 8 [(0, .ls L),(2, .slice 5 0 0 L.length none),(3, .ps L false),(4, .bool false),(5, .ps [] true),(6, .ls L),(7, .slice 5 0 0 L.length none)],ay [a,b,c,d,e, .row 4 true 0 L]⟩) (ev 40) (by kernel_rfl) (cj.nil (al.ret ⟨fun id h=>(by grind), .slice 5 0 0 L.length none,by kernel_rfl,by kernel_rfl,by kernel_rfl⟩))
noncomputable abbrev C1 (u:TUnit) (k:AV):AV:= .agg [iV u.act,iV u.item,iV u.n,iV u.kind, .str u.label, .sl0 3 0 u.head.length none, .sl0 4 0 u.words.length none,k]
noncomputable abbrev TH (u:TUnit) (i j:Nat) (k:AV):AObj:= .row 8 false 0 [.agg [iV u.act,iV u.item,iV u.n,iV u.kind, .str u.label, .sl0 i 0 u.head.length none, .sl0 j 0 u.words.length none,k]]
theorem Xe (u:TUnit) (hk:0<u.kids.length) (hn:nU u≤2 ^ 20) (ht : ∀ x,x∈bx u→x.head.length≤2 ^ 20∧x.words.length≤2 ^ 20):kC 87 [eU u] (ay [vG u,vB])
    (fun v h=>∃ y:Nat × Nat × List TUnit,(y.2.1=u.kids.length∧y.2.2=u.kids)∧v=C1 u (.slice 5 y.1 0 y.2.1 none)∧h=ay [vG u,vB,TH u 3 4 (.slice 5 y.1 0 y.2.1 none),Bj u.head,Bj u.words, .row 8 true y.1 (y.2.2.map aV)]):=by
  have hkl:=bK u
  have c1:=(ht u (cV u)).1
  have c2:=(ht u (cV u)).2
  have ihk : ∀ k,k∈u.kids→kP 87 [eU k] (eU k):=fun k hk=>GE k (bH (pA (gw hk)) hn) (fun x hx=>⟨pz (ht x (bh hk hx)).1 (by omega),pz (ht x (bh hk hx)).2 (by omega)⟩)
  let q1:= [ak [iV u.act,iV u.item,iV u.n,iV u.kind,aj u.label,aX (u.head.map aQ),aX (u.words.map aQ),aX (u.kids.map aV)]];let q2:= [ak [iV 0,iV 0,iV 0,iV 0,aj [],aa,aa,aa]];let q3:=aZ 8 false 0 q2;let q4:=aZ 8 false 0 q1;let q5:=List.map aQ u.head;let q6:=aZ 4 true 0 q5;exact pN Tryz.func87 fun a=>Mg 3<|M3 (.efx true (AV.sl0 4 0 u.head.length none)<|ay [aZ 8 false 0 q1,aZ 8 false 0 q2,aZ 8 false 0 q1,aZ 8 false 0 q2,aZ 4 true 0 q5]) (HU rt rt rt rt ti) (HU (aU<|some q3) (aU<|some q4) (aU<|some q3) (aU<|some q4) ti) (Yh u.head c1 q4 q3 q4 q3)<|Mg 1<|M3 (.efx true (AV.sl0 5 0 u.words.length none)<|ay [aZ 8 false 0 q1,aZ 8 false 0 q2,aZ 8 false 0 q1,aZ 8 false 0 q2,aZ 4 true 0 q5,aZ 4 true 0<|u.words.map aQ]) (xo (tR 4 true 0 5<|aW ig u.head) rt rt rt rt ti) (xo (aU<|some q6) (aU<|some q3) (aU<|some q4) (aU<|some q3) (aU<|some q4) ti) (Yg u.words c2 q4 q3 q4 q3 q6)<|Kl 7 16 (ln aV u.kids)<|Mg 0<|jG Nat Nat (List TUnit) aV u.kids [1,2,3,15,16,17] (fun a _=>([aR 2 0 0 0,aR 3 0 0 0,aa,aX<|u.kids.map aV,nV u.kids.length,nV a],[aZ 8 false 0 [ak [iV u.act,iV u.item,iV u.n,iV u.kind,aj u.label,aX<|u.head.map aQ,aX<|u.words.map aQ,aX<|u.kids.map aV]],aZ 8 false 0 [ak [iV 0,iV 0,iV 0,iV 0,aj [],aa,aa,aa]],aZ 8 false 0 [ak [iV u.act,iV u.item,iV u.n,iV u.kind,aj u.label,AV.sl0 4 0 u.head.length none,AV.sl0 5 0 u.words.length none,aX<|u.kids.map aV]],aZ 8 false 0 [ak [iV 0,iV 0,iV 0,iV 0,aj [],aa,aa,aa]],aZ 4 true 0<|u.head.map aQ,aZ 4 true 0<|u.words.map aQ])) (fun a _ b c d=>([aR 2 0 0 0,aR 3 0 0 0,aH 6 b 0 c none,aX<|u.kids.map aV,nV u.kids.length,nV a],[aZ 8 false 0 [ak [iV u.act,iV u.item,iV u.n,iV u.kind,aj u.label,aX<|u.head.map aQ,aX<|u.words.map aQ,aX<|u.kids.map aV]],aZ 8 false 0 [ak [iV 0,iV 0,iV 0,iV 0,aj [],aa,aa,aa]],aZ 8 false 0 [ak [iV u.act,iV u.item,iV u.n,iV u.kind,aj u.label,AV.sl0 4 0 u.head.length none,AV.sl0 5 0 u.words.length none,aX<|u.kids.map aV]],aZ 8 false 0 [ak [iV 0,iV 0,iV 0,iV 0,aj [],aa,aa,aa]],aZ 4 true 0<|u.head.map aQ,aZ 4 true 0<|u.words.map aQ,aZ 8 true b<|d.map aV])) (fun a=>a=u.kids) (fun a _ b c=>b=c.length∧(0:Nat)<c.length∧c++a=u.kids∧c.length+a.length=u.kids.length) (by rfl) (fun _ _ _ _ _ a _=>Kh 0 a<|Mg 4<|Mw .abs (sA:False)) (fun a _ _ b c d _ e f g _ i _=>have i:=(i).trans<|congrArg some<|aA c;have b:=cW (J:=fun a _=>a=u.kids) (a:=()) f b;Kt 0 g<|Mx i<|Kp 4 (ihk c gR)<|K1 1 (.obj 7<|aZ 8 true 0<|List.map aV [c]) (congrArg (aZ 8 true 0)<|SC (f:=aV) (g:=Go.Ev.eU) (ws:=[c]) aA)<|Kl 1 26 (dj a)<|Mg 0<|Mw (.ren [0,1,2,3,4,5,7,6] [4,5,7] [1,2,3,15,16,17]<|.frz 7 [1,2,3,15,16,17] .fin)<|HU (tS 4 true 0<|aW ig u.head) (tS 4 true 0<|aW ig u.words) (tS 8 true 0<|aW gO [c]) (Yf (tR 8 true 0 7<|aW gO [c]) (tR 4 true 0 7<|aW ig u.words) (tR 4 true 0 7<|aW ig u.head) rt rt rt rt ti)<|e 0 1 [c]<|by (refine ⟨rfl,by simp,?_,?_⟩ <;> (rw [← b]) <;> (first | rfl | grind))) (fun _ _ b c d _ _ _ e _=>Kh 0 e<|Mg 4<|Mw (.ren [0,1,3,4,5,6,2] [4,5,6] [2]<|.frz 6 [2] .fin)<|HU (tS 4 true 0<|aW ig u.head) (tS 4 true 0<|aW ig u.words) (tS 8 true b<|aW gO d) (MA (tR 8 true b 6<|aW gO d) (tR 4 true 0 6<|aW ig u.words) (tR 4 true 0 6<|aW ig u.head) rt rt rt ti)<|a (b,c,d) sA) fun a _ b c d _ e f g _ i j l _ n _=>have n:=(n).trans<|congrArg some<|aA f;have e:=cW (J:=fun a b=>b.2.1=b.2.2.length∧(0:Nat)<b.2.2.length∧b.2.2++a=u.kids∧b.2.2.length+a.length=u.kids.length) (a:=(b,c,d)) j e;Kt 0 l<|Mx n<|Kp 4 (ihk f gR)<|K1 0 .app (cp (aU b) (sA:c=(d.map aV).length) (by (refine ao (m:=2 ^ 21) ?_ ?_ ?_ <;> omega):small (c+1) 120=true))<|M1 (.obj 6<|aZ 8 true (b+1)<|(d++ [f]).map aV) (congrArg (aZ 8 true<|b+1)<|xh (f:=aV) (g:=Go.Ev.eU) (l:=d) (ws:=[f]) aA)<|Kl 1 26 (dj a)<|K1 0 (.frz 7 [1,2,3,15,16,17]) (Yf (tR 8 true (b+1) 7<|aW gO<|d++ [f]) (tR 4 true 0 7<|aW ig u.words) (tR 4 true 0 7<|aW ig u.head) rt rt rt rt ti)<|Mf<|i (b+1) (c+1) (d++ [f])<|by (refine ⟨by simp_all,by simp,?_,?_⟩ <;> first | (rw [← e.2.2.1];simp;done) | grind)
theorem Xf (u:TUnit) (hk:u.kids = []) (ht : ∀ x,x∈bx u→x.head.length≤2 ^ 20∧x.words.length≤2 ^ 20):kD 87 [eU u] (ay [vG u,vB]) (C1 u .nils) (ay [vG u,vB,TH u 3 4 .nils,Bj u.head,Bj u.words]):=by
  have c1:=(ht u (cV u)).1
  have c2:=(ht u (cV u)).2
  have hz:aB 0 (Int.ofNat u.kids.length)=false:=by rw [hk];rfl
  let q:= [ak [iV u.act,iV u.item,iV u.n,iV u.kind,aj u.label,aX (u.head.map aQ),aX (u.words.map aQ),aX (u.kids.map aV)]];let q1:= [ak [iV 0,iV 0,iV 0,iV 0,aj [],aa,aa,aa]];let q2:= [aZ 8 false 0 q,aZ 8 false 0 q1,aZ 8 false 0 [ak [iV u.act,iV u.item,iV u.n,iV u.kind,aj u.label,AV.sl0 4 0 u.head.length none,AV.sl0 5 0 u.words.length none,aX (u.kids.map aV)]],aZ 8 false 0 q1,aZ 4 true 0 (u.head.map aQ),aZ 4 true 0 (u.words.map aQ)];let q3:=aZ 8 false 0 q1;let q4:=aZ 8 false 0 q;let q5:= [aR 2 0 0 0,aR 3 0 0 0,aa,aX (u.kids.map aV),nV u.kids.length,iV 0];let q6:=List.map aQ u.head;let q7:=aZ 4 true 0 q6;exact gQ Tryz.func87 fun a=>Mg 3<|M3 (.efx true (AV.sl0 4 0 u.head.length none)<|ay [aZ 8 false 0 q,aZ 8 false 0 q1,aZ 8 false 0 q,aZ 8 false 0 q1,aZ 4 true 0 q6]) (HU rt rt rt rt ti) (HU (aU<|some q3) (aU<|some q4) (aU<|some q3) (aU<|some q4) ti) (Yh u.head c1 q4 q3 q4 q3)<|Mg 1<|M3 (.efx true (AV.sl0 5 0 u.words.length none)<|ay [aZ 8 false 0 q,aZ 8 false 0 q1,aZ 8 false 0 q,aZ 8 false 0 q1,aZ 4 true 0 q6,aZ 4 true 0<|u.words.map aQ]) (xo (tR 4 true 0 5<|aW ig u.head) rt rt rt rt ti) (xo (aU<|some q7) (aU<|some q3) (aU<|some q4) (aU<|some q3) (aU<|some q4) ti) (Yg u.words c2 q4 q3 q4 q3 q7)<|Kl 7 16 (ln aV u.kids)<|Mg 0<|XD [1,2,3,15,16,17] (q5,q2) True 0 ti fun _ _=>Kh 0 hz<|Mg 4<|M2 (.ren [0,1,3,4,5,2] [4,5] [2]) (tS 4 true 0<|aW ig u.head) (tS 4 true 0<|aW ig u.words)<|M1 (.frz 5 [2]) (xo (tR 4 true 0 5<|aW ig u.words) (tR 4 true 0 5<|aW ig u.head) rt rt rt ti)<|Mf a
noncomputable abbrev XN (ep:Nat) (l:List TUnit):AObj:= .row 8 true ep (l.map aV)
theorem JS (u:TUnit) {k k':AV} (h:Le k k') (h2:cG k=true):Le (C1 u k) (C1 u k'):=aN (.cons (Le.refl _) (.cons (Le.refl _) (.cons (Le.refl _) (.cons (Le.refl _) (.cons (Le.refl _) (.cons (Le.refl _) (.cons (Le.refl _) (.cons h .nil)))))))) (by simp only [List.all_cons,List.all_nil,h2];rfl)
theorem Xd (u:TUnit) (hn:nU u≤2 ^ 20) (ht : ∀ x,x∈bx u→x.head.length≤2 ^ 20∧x.words.length≤2 ^ 20):kC 87 [eU u] (ay [vG u,vB])
    (fun v h=>∃ ep:Nat,True∧v=C1 u (.sl0 5 ep u.kids.length none)∧h=ay [vG u,vB, .dead,Bj u.head,Bj u.words,XN ep u.kids]):=by
  rcases Nat.eq_zero_or_pos u.kids.length with hk | hk
  · have hk:=List.length_eq_zero_iff.1 hk
    refine aF.dead (i:=2) (I4 (Ψ':=fun v h=>v=C1 u (.sl0 5 0 0 none)∧h=ay [vG u,vB,TH u 3 4 .nils,Bj u.head,Bj u.words,XN 0 u.kids]) (XN 0 u.kids) (Xf u hk ht) fun v h' ⟨h1,h2⟩=>⟨C1 u (.sl0 5 0 0 none),h1 ▸ JS u Le.sl0n rfl,rfl,?_⟩) (ah 2) (by omega) fun v h' ⟨h1,h2⟩=>⟨0,trivial,by simp_all,?_⟩
    · rw [h2];kernel_rfl
    · rw [h2];kernel_rfl
  · refine aF.dead (i:=2) (aF.less (Ψ':=fun v h=>∃ ep:Nat,v=C1 u (.sl0 5 ep u.kids.length none)∧h=ay [vG u,vB,TH u 3 4 (.slice 5 ep 0 u.kids.length none),Bj u.head,Bj u.words,XN ep u.kids]) (Xe u hk hn ht) fun v h' ⟨y,⟨e1,e2⟩,h1,h2⟩=>⟨C1 u (.sl0 5 y.1 u.kids.length none),?_,y.1,rfl,?_⟩) (ah 2) (by omega) fun v h' ⟨ep,h1,h2⟩=>⟨ep,trivial,h1,?_⟩
    · rw [h1,e1];exact JS u Le.sl0 rfl
    · simp_all
    · rw [h2];kernel_rfl
/-- The first 'i' elements changed by 'f'. -/
def ka {α:Type} (f:α→α) (l:List α) (i:Nat):List α:=(l.take i).map f++l.drop i
theorem vW {α:Type} {f:α→α} {l:List α} {i:Nat} : (ka f l i).length=l.length:=by
  grind [ka]
theorem vJ {α:Type} {f:α→α} {l:List α} {i:Nat} (h:l.length≤i):ka f l i=l.map f:=by
  grind [ka, List.take_of_length_le]
theorem y7 {α:Type} [Inhabited α] {f:α→α} {l:List α} {i:Nat} (h:i<l.length):gD (ka f l i) i=gD l i:=by
  have e:((l.take i).map f).length=i:=by grind
  simp_all [ka, gD, pw]
theorem BS {α:Type} [Inhabited α] {f:α→α} {l:List α} {i:Nat} (h:i<l.length):(ka f l i).set i (f (gD l i))=ka f l (i+1):=by
  have e:((l.take i).map f).length=i:=by grind
  have hg:gD l i=l[i]:=by unfold gD;simp_all
  unfold ka
  rw [List.set_append_right _ _ (by omega),e,Nat.sub_self,hg,Ni h,List.set_cons_zero,Nl h,pB,nJ]
  rfl
theorem y6 {l:List PWord} {i:Nat} (h:i<l.length):(ka gC l i).set i ⟨(gD (ka gC l i) i).text,0,0,0⟩=ka gC l (i+1):=by
  rw [y7 h];exact BS h
theorem N2 : ∀ u:TUnit,nU u≤2 ^ 20→(∀ x,x∈bx u→x.head.length≤2 ^ 20∧x.words.length≤2 ^ 20)→kP 342 [eU u] (eU (cF u)):=by
  refine TUnit.ind fun u ih hn ht=>?_
  have hkl:=bK u
  have c1:=(ht u (cV u)).1
  have c2:=(ht u (cV u)).2
  have hc:=Xd u hn ht
  have ihk : ∀ k,k∈u.kids→kP 342 [eU k] (eU (cF k)):=fun k hk=>ih k hk (bH (pA (gw hk)) hn) (fun x hx=>ht x (bh hk hx))
  rw [mJ]
  have rr0 b' (h:(List.map aQ (TUnit.mk 0 0 0 u.kind u.label (u.head.map gC) (u.words.map gC) (u.kids.map cF)).head)=b':=by (rw [hx1.2,vJ (by (simp only [oN] at *;omega))];rfl)):=h;have rr1 b' (h:(List.map aQ (TUnit.mk 0 0 0 u.kind u.label (u.head.map gC) (u.words.map gC) (u.kids.map cF)).words)=b':=by (rw [hx2.2,vJ (by (simp only [oN] at *;omega))];rfl)):=h;have rr2 b' (h:(List.map aV (TUnit.mk 0 0 0 u.kind u.label (u.head.map gC) (u.words.map gC) (u.kids.map cF)).kids)=b':=by (rw [hx3.2,vJ (by (simp only [oN] at *;omega))];rfl)):=h;exact bB Tryz.func342<|Mg 2<|Mq hc fun a _=>Mg 10<|M0 (.un 2)<|Mg 7<|K3 (0:Nat) u.head [1,2,4,15,16,17,22,23] (fun b c=>([aR 0 0 0 0,aR 1 0 0 0,AV.sl0 3 0 u.head.length none,kg [AV.sl0 3 0 u.head.length none,AV.sl0 4 0 u.words.length none] true,iV 2,iV 0,nV u.head.length,nV b],[aZ 8 false 0 [ak [iV 0,iV 0,iV 0,iV u.kind,aj u.label,AV.sl0 3 0 u.head.length none,AV.sl0 4 0 u.words.length none,AV.sl0 5 a u.kids.length none]],aZ 8 false 0 [ak [iV 0,iV 0,iV 0,iV 0,aj [],aa,aa,aa]],AObj.dead,aZ 4 true 0<|c.map aQ,aZ 4 true 0<|u.words.map aQ,aZ 8 true a<|u.kids.map aV])) (fun a b=>a≤u.head.length∧b=ka gC u.head a) (fun a _=>u.head.length - a) (by exact ⟨bG _,rfl⟩) fun b c hx1 d=>have hx1:b≤u.head.length∧c=ka gC u.head b:=hx1;have :c.length=u.head.length:=(by grind [vW]);Ka 0 (Int.ofNat b) (Int.ofNat u.head.length) (fun _ _=>K1 4 .rix (et (aU 0) (sA:b<u.head.length))<|K1 0 (.rst (aQ<|gD c b)<|(c.set b<|PWord.mk (gD c b).text 0 0 0).map aQ) (cp (aU 0) (aT aQ (sA:b<(c).length))<|jR (f:=aQ) (l:=c) (i:=b) (w:=PWord.mk (gD c b).text 0 0 0))<|Kl 0 31 (iK b)<|Kf 0<|d (b+1) (c.set b<|PWord.mk (gD c b).text 0 0 0) (by grind [y6]) gR) fun _ _=>Mg 9<|K3 (0:Nat) u.words [1,2,4,15,16,17,22,23] (fun b d=>([aR 0 0 0 0,aR 1 0 0 0,AV.sl0 4 0 u.words.length none,kg [AV.sl0 3 0 u.head.length none,AV.sl0 4 0 u.words.length none] true,iV 2,iV 1,nV u.words.length,nV b],[aZ 8 false 0 [ak [iV 0,iV 0,iV 0,iV u.kind,aj u.label,AV.sl0 3 0 u.head.length none,AV.sl0 4 0 u.words.length none,AV.sl0 5 a u.kids.length none]],aZ 8 false 0 [ak [iV 0,iV 0,iV 0,iV 0,aj [],aa,aa,aa]],AObj.dead,aZ 4 true 0<|c.map aQ,aZ 4 true 0<|d.map aQ,aZ 8 true a<|u.kids.map aV])) (fun a b=>a≤u.words.length∧b=ka gC u.words a) (fun a _=>u.words.length - a) (by exact ⟨bG _,rfl⟩) fun b d hx2 e=>have hx2:b≤u.words.length∧d=ka gC u.words b:=hx2;have :d.length=u.words.length:=(by grind [vW]);Ka 0 (Int.ofNat b) (Int.ofNat u.words.length) (fun _ _=>K1 4 .rix (et (aU 0) (sA:b<u.words.length))<|K1 0 (.rst (aQ<|gD d b)<|(d.set b<|PWord.mk (gD d b).text 0 0 0).map aQ) (cp (aU 0) (aT aQ (sA:b<(d).length))<|jR (f:=aQ) (l:=d) (i:=b) (w:=PWord.mk (gD d b).text 0 0 0))<|Kl 0 31 (iK b)<|Kf 0<|e (b+1) (d.set b<|PWord.mk (gD d b).text 0 0 0) (by grind [y6]) gR) fun _ _=>Mg 7<|K3 (0:Nat) u.kids [1,2,35,36] (fun b e=>([aR 0 0 0 0,aR 1 0 0 0,nV u.kids.length,nV b],[aZ 8 false 0 [ak [iV 0,iV 0,iV 0,iV u.kind,aj u.label,AV.sl0 3 0 u.head.length none,AV.sl0 4 0 u.words.length none,AV.sl0 5 a u.kids.length none]],aZ 8 false 0 [ak [iV 0,iV 0,iV 0,iV 0,aj [],aa,aa,aa]],AObj.dead,aZ 4 true 0<|c.map aQ,aZ 4 true 0<|d.map aQ,aZ 8 true a<|e.map aV])) (fun a b=>a≤u.kids.length∧b=ka cF u.kids a) (fun a _=>u.kids.length - a) (by exact ⟨bG _,rfl⟩) fun b e hx3 f=>have hx3:b≤u.kids.length∧e=ka cF u.kids b:=hx3;have :e.length=u.kids.length:=(by grind [vW]);have g:b<u.kids.length→kP (342:FuncId) [eU (gD e b)] (eU (cF (gD e b))):=fun h=>ihk _ (by grind [y7, gH]);Ka 0 (Int.ofNat b) (Int.ofNat u.kids.length) (fun _ _=>K1 7 .rix (et (aU a) (sA:b<u.kids.length))<|Mr (et (aU a)<|qL aV (g:=Go.Ev.eU) aA (sA:b<(e).length))<|Mp (g sA)<|M1 .rix (et (aU a) (sA:b<u.kids.length))<|M3 (.rst (ak [iV (gD e b).act,iV (gD e b).item,iV (gD e b).n,iV (gD e b).kind,aj (gD e b).label,aX<|List.map aQ (gD e b).head,aX<|List.map aQ (gD e b).words,aX<|List.map aV (gD e b).kids])<|(e.set b<|cF<|gD e b).map aV) rt (iJ (tR 8 true a 6<|aW gO e) rt) (cp (aU a) (qL aV (g:=Go.Ev.eU) aA (sA:b<(e).length))<|CP (f:=aV) (g:=Go.Ev.eU) aA (l:=e) (i:=b) (w:=cF<|gD e b))<|Kl 0 49 (iK b)<|Kf 0<|f (b+1) (e.set b<|cF<|gD e b) (by grind [y7, BS]) gR) fun _ _=>M2 (.fza 0 7 5 [1,2]<|e.map aV) (xo (tR 4 true 0 5<|aW ig d) (tR 4 true 0 5<|aW ig c) rt rt rt ti) (cp (aU a) (tA aV e u.kids.length (oA:(e).length=u.kids.length))<|aW gO e)<|M2 (.fza 0 6 4 [1,2]<|d.map aQ) (HU (tR 4 true 0 4<|aW ig c) rt rt rt ti) (cp (aU 0) (tA aQ d u.words.length (oA:(d).length=u.words.length))<|aW ig d)<|M2 (.fza 0 5 3 [1,2]<|c.map aQ) (kx rt rt rt ti) (cp (aU 0) (tA aQ c u.head.length (oA:(c).length=u.head.length))<|aW ig c)<|Kf 1 (aN (lc<|lc<|lc<|lc<|lc<|.cons (b9<|rr0<|c.map aQ)<|.cons (b9<|rr1<|d.map aQ)<|.cons (b9<|rr2<|e.map aV) .nil)<|by kernel_rfl:Le _ (AV.agg [iV 0,iV 0,iV 0,iV u.kind,AV.str u.label,AV.ls (c.map aQ),AV.ls (d.map aQ),AV.ls (e.map aV)]))
theorem PV:Go.Proofs.Builder.Extra Tryz.prog Tryz.ljoin_ren:=by
  repeat' (first | kernel_rfl | (intro w;kernel_rfl) | decide | constructor)
theorem SH (l:List aP) (sep:aP) (h1:l.length≤140737488355328) (h2:(Lib.join l sep).length≤140737488355328):kP 299 [.ls (l.map mT), .str sep] (.str (Lib.join l sep)):=LS (Go.Proofs.enters_of Tryz.func299 (by kernel_rfl) rfl) (fun a b c d e f g h i j k=>Go.Proofs.Any.strings_Join Go.Proofs.Tryz.ljoin PV a b c d e f g h i j k) (fun a b c d=>Go.Proofs.Any.strings_Join_none Go.Proofs.Tryz.ljoin PV a b c d) l sep h1 h2
theorem XJ:Go.Proofs.Builder.Extra Tryz.prog Tryz.lrep_ren:=by
  repeat' (first | kernel_rfl | (intro w;kernel_rfl) | decide | constructor)
theorem UM (s:aP) (c:Nat) (h1:c≤9223372036854775807) (h2:s.length * c≤140737488355328):kP 368 [.str s,nV c] (.str (Lib.repeatL s c)):=E5 (Go.Proofs.enters_of Tryz.func368 (by kernel_rfl) rfl) (fun a b d e f=>Go.Proofs.Any.strings_Repeat Go.Proofs.Tryz.lrep XJ a b d e f) s c h1 h2
theorem Od (s:aP) (ws:List PWord) (hw : ∀ w,w∈ws→1≤w.text.length∧w.text.length≤24) (hb:s.length+26 * ws.length≤2 ^ 40) (hn:ws.length≤2 ^ 20):kP 370 [.str s, .ls (ws.map aQ)] (.str (lH s ws)):=by
  have rr0 b' (h:(lH s ws)=b':=by first | rfl | (exact hj0.1.symm)):=h;exact bB Tryz.func370<|Kl 2 8 (ln aQ ws)<|Mg 0<|Ul (0:Nat) ws s [0,7,8,9] (fun a _ b=>([aj b,aX<|ws.map aQ,nV ws.length,nV a],[])) (fun a b c=>(ws).drop a=b∧lH c b=lH s ws∧List.length c+26 * b.length≤2 ^ 40) (fun _ a _=>a.length) (et rfl<|by first | rfl | (first | simp_all | (refine ⟨by (rw [← hj0.1,oq];first | rw [D7 h1] | rw [D6 h1 h2] | rw [D0 h1 h2]),?_⟩;have q:=hj0.2;simp only [lA,lC,lN] at *;omega))) fun a b c d e=>Mc b (fun a=>have b:=fP d.1 a;have hj0:=ic (J:=fun a b=>lH b a=lH s ws∧List.length b+26 * a.length≤2 ^ 40) (a:=c) a d.2;Kh 0 b<|Kf 1<|Le.str<|rr0 c) fun b f g=>let i:=[aZ 4 false 0 [ak [aj b.text,iV b.act,iV b.item,iV b.at_]]];have j:=gX d.1 g;have :=au j;have k:=fO (enc:=aQ) d.1 g;have hj0:=cW (J:=fun a b=>lH b a=lH s ws∧List.length b+26 * a.length≤2 ^ 40) (a:=c) g d.2;have :=hw b<|ar d.1 g;Kt 0 j<|Mx k<|Kv 3 (iN (s:=c) (u:=[32]) (H:=ay i) (by (first | first | assumption | omega | grind):(c).length+([32]).length≤2 ^ 62))<|K1 2 (.chr<|gD b.text 0) (yG (by first | omega | (simp only [oN,lM,lS] at *;omega) | (simp only [oN,lM,lS,lA,lR,lC,lN] at * <;> omega):0<(b.text).length))<|Kj 1 (Int.ofNat (gD b.text 0).toNat) 124 (fun j _=>Mt j<|Mt j<|Mt j<|MV j<|Kv 1 (iN (s:=c++ [32]) (u:=[92]) (H:=ay i) (by (first | first | assumption | omega | grind):(c++ [32]).length+([92]).length≤2 ^ 62))<|Kv 3 (iN (s:=c++ [32]++ [92]) (u:=b.text) (H:=ay i) (by (first | first | assumption | omega | grind):(c++ [32]++ [92]).length+(b.text).length≤2 ^ 62))<|Kl 1 31 (dj a)<|K1 0 (.frz 0 [0,7,8,9]) ti<|Mf<|e (a+1) f (c++ [32]++ [92]++b.text) (et (bM d.1 g)<|by first | exact ⟨rfl,hb⟩ | (refine ⟨by (rw [← hj0.1,oq];first | rw [D7 j] | rw [D6 j h2] | rw [D0 j h2]),?_⟩;grind))<|fk g) fun j _=>Kh 0 j<|Kh 0 j<|M1 (.chr<|gD b.text 0) (yG (by first | omega | (simp only [oN,lM,lS] at *;omega) | (simp only [oN,lM,lS,lA,lR,lC,lN] at * <;> omega):0<(b.text).length))<|Mh j<|Kw 0 j<|Mb (ab (Int.ofNat (gD b.text 0).toNat) 92) (fun k=>have :=gn k;Kv 0 (iN (s:=c++ [32]) (u:=[92]) (H:=ay i) (by (first | first | assumption | omega | grind):(c++ [32]).length+([92]).length≤2 ^ 62))<|Kv 3 (iN (s:=c++ [32]++ [92]) (u:=b.text) (H:=ay i) (by (first | first | assumption | omega | grind):(c++ [32]++ [92]).length+(b.text).length≤2 ^ 62))<|Kl 1 31 (dj a)<|K1 0 (.frz 0 [0,7,8,9]) ti<|Mf<|e (a+1) f (c++ [32]++ [92]++b.text) (et (bM d.1 g)<|by first | exact ⟨rfl,hb⟩ | (refine ⟨by (rw [← hj0.1,oq];first | rw [D7 j] | grind [D6] | rw [D0 j k]),?_⟩;grind))<|fk g) fun k=>have :=tP k;Kv 2 (iN (s:=c++ [32]) (u:=b.text) (H:=ay i) (by (first | first | assumption | omega | grind):(c++ [32]).length+(b.text).length≤2 ^ 62))<|Kl 1 31 (dj a)<|K1 0 (.frz 0 [0,7,8,9]) ti<|Mf<|e (a+1) f (c++ [32]++b.text) (et (bM d.1 g)<|by first | exact ⟨rfl,hb⟩ | (refine ⟨by (rw [← hj0.1,oq];first | rw [D7 j] | rw [D6 j k] | grind [D0]),?_⟩;grind))<|fk g
theorem rR {u:TUnit} (h:mf u):mf (cF u):=by
  obtain ⟨h1,h2⟩:=LK u
  refine ⟨by rw [h1];exact h.1,fun x hx=>?_⟩
  obtain ⟨y,hy,rfl⟩:=h2 x hx
  obtain ⟨a,b,c,d,e⟩:=h.2 y hy
  rw [mJ]
  refine ⟨by grind [TUnit.head],by grind [TUnit.words],c,fun w hw=>?_,fun w hw=>?_⟩
  · obtain ⟨v,hv,rfl⟩:=jK.1 hw;exact d v hv
  · obtain ⟨v,hv,rfl⟩:=jK.1 hw;exact e v hv
theorem Be {u:TUnit} (h:rn u):mf (s7 u):=by
  have e:bx (s7 u) = [s7 u]:=by rw [c8];exact congrArg _ fH
  refine ⟨by rw [iT];exact bH (vo (congrArg (1 + ·) l8)) (by omega),fun x hx=>?_⟩
  rw [e] at hx
  rw [pE.1 hx];exact h
theorem CH (u:TUnit) (h:mf u):kP 342 [eU u] (eU (cF u)):=
  N2 u (bH h.1 (by omega)) fun x hx=>⟨bH (h.2 x hx).1 (by omega),bH (h.2 x hx).2.1 (by omega)⟩
theorem PW (u:TUnit) (d:Nat) (hd:d≤2 ^ 20) (h:rn u):kP 367 [eU u,nV d] (.bool (Dq u d)):=by
  have h1:=CH (s7 u) (Be h)
  have h2:=xY (cF (s7 u)) (rR (Be h))
  have hz:=U8 d
  have rr0 b' (h:(Dq u d)=b':=by first | rfl | (unfold Dq;simp only [aS,ax,bS, *];done)):=h;exact bB Tryz.func367<|Kn 13 (aB 8<|Int.ofNat d) (fun a=>Kt 0 (bT a)<|Mp (aO.onArgs (.cons (aN (lc<|lc<|lc<|lc<|lc<|lc<|lc<|.cons bA .nil)<|by kernel_rfl) .nil) h1:kP 342 [ak [iV 0,iV 0,iV 0,iV u.kind,aj u.label,aX (u.head.map aQ),aX (u.words.map aQ),aa]] _)<|Mt (bT a)<|Mp h2<|MV (bT a)<|Kf 0<|ce<|rr0<|km<|cF<|s7 u) fun a=>Mh (bN a)<|Mh (bN a)<|My (bN a)<|Ky 0<|rr0 false
theorem Vx (u:TUnit) (d:Nat) (hd:d≤2 ^ 20) (h:rn u) (hm:Dq u d=false):kP 344 [eU u,nV d] (.str (fR u d)):=by
  have h1:=PW u d hd h
  rw [hm] at h1
  have e:fR u d = []:=by unfold fR;simp_all
  rw [e]
  exact bB Tryz.func344<|Kp 3 h1<|Kf 2<|bg<|aj []
def LR (u:TUnit) (d:Nat) (z18:aP):Prop:=(z18=bif ax (ab u.kind (0:Int)) then Lib.repeatL [(32:UInt8),(32:UInt8)] d++cR u.kind++([(32:UInt8)]++u.label) else Lib.repeatL [(32:UInt8),(32:UInt8)] d++cR u.kind)∧List.length z18≤(40:Nat)
noncomputable def LP (u:TUnit) (d:Nat) (z18:aP):List AV × List AObj:=([AV.ptr 0 0 0 0,AV.str z18], [AObj.row 8 false 0 [AV.agg [iV u.act,iV u.item,iV u.n,iV u.kind,AV.str u.label,AV.ls (u.head.map aQ),AV.ls (u.words.map aQ),AV.ls (u.kids.map aV)]]])
def LO (u:TUnit) (z18:aP) (z27:aP):Prop:=(z27=bif aB (0:Int) (Int.ofNat u.head.length) then lH (z18++ [(58:UInt8)]) u.head else z18)∧List.length z27≤(6700:Nat)
noncomputable def LN (u:TUnit) (z18:aP) (z27:aP):List AV × List AObj:=([AV.ptr 0 0 0 0,AV.str z27], [AObj.row 8 false 0 [AV.agg [iV u.act,iV u.item,iV u.n,iV u.kind,AV.str u.label,AV.ls (u.head.map aQ),AV.ls (u.words.map aQ),AV.ls (u.kids.map aV)]]])
theorem Vz (u:TUnit) (d:Nat) (hd:d≤2 ^ 20) (h:rn u) (hm:Dq u d=true):kP 344 [eU u,nV d] (.str (fR u d)):=by
  have h1:=PW u d hd h
  obtain ⟨hd8,hlb,⟨hh1,hh2⟩,hw1,hw2⟩:=JI hm
  have hrl:=Lib.repeatL_length [32,32] d
  simp only [lC,lN] at hrl
  have h2:=UM [32,32] d (by omega) (by grind)
  have hk:=wV u.kind
  have hkl:=zz u.kind
  have hp1 : ∀ s:aP,s.length≤2 ^ 14→kP 370 [.str s, .ls (u.head.map aQ)] (.str (lH s u.head)):=fun s hs=>Od s u.head hh2 (by omega) (by omega)
  have hp2 : ∀ s:aP,s.length≤2 ^ 14→kP 370 [.str s, .ls (u.words.map aQ)] (.str (lH s u.words)):=fun s hs=>Od s u.words hw2 (by omega) (by omega)
  rw [hm] at h1
  have rr0 b' (h:(fR u d)=b':=by first | rfl | (unfold fR;rw [hm];simp only [ax,cond_false];rw [← hz18.1,← hz27.1];first | (rw [h3];rfl) | (rw [h4];rfl) | (rw [h5];rfl) | (rw [h6];rfl) | (rw [h7];rfl))):=h;let q1:= [aZ 8 false 0 [ak [iV u.act,iV u.item,iV u.n,iV u.kind,aj u.label,aX (u.head.map aQ),aX (u.words.map aQ),aX (u.kids.map aV)]]];exact bB Tryz.func344<|Kp 3 h1<|Kp 2 h2<|Kp 1 hk<|Mv (iN (s:=Lib.repeatL [32,32] d) (u:=cR u.kind) (H:=AHeap.mk 1000000 Tr.nil) (by (first | first | assumption | ((try simp only [lA,lC,lN]);omega) | (simp only [lA,lC,lN] at *;omega)):(Lib.repeatL [32,32] d).length+(cR u.kind).length≤2 ^ 62))<|Mg 0<|Mj aP [2,5] (LP u d) (LR u d) (fun a=>Kn 2 (ab u.kind 0) (fun _=>Kv 2 (iN (s:=[32]) (u:=u.label) (H:=ay q1) (by (first | first | assumption | ((try simp only [lA,lC,lN]);omega) | (simp only [lA,lC,lN] at *;omega)):([32]).length+(u.label).length≤2 ^ 62))<|Mv (iN (s:=Lib.repeatL [32,32] d++cR u.kind) (u:=32::u.label) (H:=ay q1) (by (first | first | assumption | ((try simp only [lA,lC,lN]);omega) | (simp only [lA,lC,lN] at *;omega)):(Lib.repeatL [32,32] d++cR u.kind).length+(32::u.label).length≤2 ^ 62))<|Kf 0<|a (Lib.repeatL [32,32] d++cR u.kind++32::u.label) (by (refine ⟨by first | simp_all | (rw [h2];rfl) | (rw [h3];rfl) | (rw [h0];rfl),?_⟩;grind):(Lib.repeatL [(32:UInt8),(32:UInt8)] d++cR u.kind++(32:UInt8)::u.label=bif ax (ab u.kind (0:Int)) then Lib.repeatL [(32:UInt8),(32:UInt8)] d++cR u.kind++([(32:UInt8)]++u.label) else Lib.repeatL [(32:UInt8),(32:UInt8)] d++cR u.kind)∧(Lib.repeatL [(32:UInt8),(32:UInt8)] d++cR u.kind++(32:UInt8)::u.label).length≤40)) fun _=>Mf<|a (Lib.repeatL [32,32] d++cR u.kind) (by (refine ⟨by first | simp_all | (rw [h2];rfl) | (rw [h3];rfl) | (rw [h0];rfl),?_⟩;grind):(Lib.repeatL [(32:UInt8),(32:UInt8)] d++cR u.kind=bif ax (ab u.kind (0:Int)) then Lib.repeatL [(32:UInt8),(32:UInt8)] d++cR u.kind++([(32:UInt8)]++u.label) else Lib.repeatL [(32:UInt8),(32:UInt8)] d++cR u.kind)∧(Lib.repeatL [(32:UInt8),(32:UInt8)] d++cR u.kind).length≤40)) fun a hz18=>have hz18:(a=bif ax (ab u.kind (0:Int)) then Lib.repeatL [(32:UInt8),(32:UInt8)] d++cR u.kind++([(32:UInt8)]++u.label) else Lib.repeatL [(32:UInt8),(32:UInt8)] d++cR u.kind)∧List.length a≤40:=hz18;Mj aP [2,5] (LN u a) (LO u a) (fun b=>Kl 2 26 (ln aQ u.head)<|Kb 0 (aB 0<|Int.ofNat u.head.length) (fun h3=>Kv 0 (iN (s:=a) (u:=[58]) (H:=ay q1) (by (first | first | assumption | ((try simp only [lA,lC,lN]);omega) | (simp only [lA,lC,lN] at *;omega)):(a).length+([58]).length≤2 ^ 62))<|Kp 1 (hp1 (a++ [58])<|by first | assumption | ((try simp only [lA,lC,lN]);omega))<|Kf 0<|b (lH (a++ [58]) u.head) (by (refine ⟨by first | simp_all | (rw [h2];rfl) | (rw [h4];rfl) | (rw [h5];rfl),?_⟩;first | omega | (have q:=um (fun w hw=>(hh2 w hw).2) (a++ [58]);grind)):(lH (a++ [(58:UInt8)]) u.head=bif aB (0:Int) (Int.ofNat u.head.length) then lH (a++ [(58:UInt8)]) u.head else a)∧List.length (lH (a++ [(58:UInt8)]) u.head)≤6700)) fun h3=>Mf<|b a (by (refine ⟨by first | simp_all | (rw [h2];rfl) | (rw [h4];rfl) | (rw [h5];rfl),?_⟩;first | omega | (have q:=um (fun w hw=>(hh2 w hw).2) (a++ [58]);simp only [lA,lC,lN] at q;omega)):(a=bif aB (0:Int) (Int.ofNat u.head.length) then lH (a++ [(58:UInt8)]) u.head else a)∧List.length a≤6700)) fun b hz27=>have hz27:(b=bif aB (0:Int) (Int.ofNat u.head.length) then lH (a++ [(58:UInt8)]) u.head else a)∧List.length b≤6700:=hz27;Kl 2 35 (ln aQ u.words)<|Kb 0 (aB 0<|Int.ofNat u.words.length) (fun h4=>Kv 0 (iN (s:=b) (u:=[32,124]) (H:=ay q1) (by (first | first | assumption | ((try simp only [lA,lC,lN]);omega) | (simp only [lA,lC,lN] at *;omega)):(b).length+([32,124]).length≤2 ^ 62))<|Kp 1 (hp2 (b++ [32,124])<|by first | assumption | ((try simp only [lA,lC,lN]);omega))<|Kf 2<|Le.str<|rr0<|lH (b++ [32,124]) u.words) fun h4=>Kf 1<|Le.str<|rr0 b
theorem JR (u:TUnit) (d:Nat) (hd:d≤2 ^ 20) (h:rn u):kP 344 [eU u,nV d] (.str (fR u d)):=by
  grind [Vx, Vz]
noncomputable abbrev GT (ep n:Nat):AObj:= .row 1 false 0 [.slice 2 ep 0 n none]
noncomputable abbrev DH:AObj:= .row 1 false 0 [.func (.func 343) [] [.ptr 0 0 0 0, .ptr 1 0 0 0]]
noncomputable abbrev Es (ep:Nat) (l:List aP):AObj:= .row 1 true ep (l.map mT)
def sd (u:TUnit) (d:Nat) (l:List aP) (x0:Nat × List TUnit × Nat × Nat × List aP):Prop:=(u.kids).drop x0.1=x0.2.1∧x0.2.2.2.1=x0.2.2.2.2.length∧x0.2.2.2.2++c9 (d+(1:Nat)) x0.2.1=l++ [fR u d]++c9 (d+(1:Nat)) u.kids∧x0.2.2.2.2.length+dT x0.2.1≤2 ^ 20
noncomputable def sb (u:TUnit) (d:Nat) (l:List aP) (x0:Nat × List TUnit × Nat × Nat × List aP):List AV × List AObj:=([nV d,AV.ptr 1 0 0 0,AV.ls (u.kids.map aV),nV u.kids.length,nV x0.1], [AObj.row 1 false 0 [AV.slice 2 x0.2.2.1 0 x0.2.2.2.1 none],AObj.row 1 false 0 [AV.func (Fn.func 343) [] [AV.ptr 0 0 0 0,AV.ptr 1 0 0 0]],AObj.row 1 true x0.2.2.1 (x0.2.2.2.2.map mT)])
theorem XK : ∀ (u:TUnit) (d ep n:Nat) (l:List aP),n=l.length→l.length+nU u≤2 ^ 20→d+nU u≤2 ^ 20→(∀ x,x∈bx u→rn x)→kC 343 [eU u,nV d, .ptr 0 0 0 0, .ptr 1 0 0 0] (ay [GT ep n,DH,Es ep l])
    (fun v h=>∃ y:Nat × Nat × List aP,(y.2.1=y.2.2.length∧y.2.2=l++eQ d u)∧v = .tuple []∧h=ay [GT y.1 y.2.1,DH,Es y.1 y.2.2]):=by
  refine TUnit.ind fun u ih d ep n l hn hl hd ht=>?_
  have hq:=iT u
  have hkl:=bK u
  have hf:=JR u d (by omega) (ht u (cV u))
  have ihk : ∀ k,k∈u.kids→∀ (d ep n:Nat) (l:List aP),n=l.length→l.length+nU k≤2 ^ 20→d+nU k≤2 ^ 20→kC 343 [eU k,nV d, .ptr 0 0 0 0, .ptr 1 0 0 0] (ay [GT ep n,DH,Es ep l])
    (fun v h=>∃ y:Nat × Nat × List aP,(y.2.1=y.2.2.length∧y.2.2=l++eQ d k)∧v = .tuple []∧h=ay [GT y.1 y.2.1,DH,Es y.1 y.2.2]):=fun k hk d ep n l a b c=>ih k hk d ep n l a b c (fun x hx=>ht x (bh hk hx))
  exact pN Tryz.func343 fun e=>Kp 3 hf<|Mg 0<|Mw (.apx ((l++ [fR u d]).map mT)<|.go 3<|.le 16 (nV u.kids.length)<|.go 0<|.frz 3 [1,3,15,16,17]<|.loop (Nat × List TUnit × Nat × Nat × List aP) [1,3,15,16,17] (sb u d l) (sd u d l) (fun e=>e.2.1.length) (0,u.kids,(ep+1,n+1,l++ [fR u d])) fun e=>.cs TUnit e.2.1 (.go 0<|.ff .fin) fun f _=>.go 0<|.tt<|.elem (eU f)<|.go 6<|.le 24 (nV<|d+1)<|.frz 3 [1,3,15,16,17,21,22,24]<|.eff (Nat × Nat × List aP) (fun _=>ca []) (fun e=>ay [GT e.1 e.2.1,DH,Es e.1 e.2.2]) (fun g=>g.2.1=g.2.2.length∧g.2.2=e.2.2.2.2++eQ (d+1) f) fun _=>.go 0<|.le 26 (nV<|e.1+1)<|.go 0 .fin)<|YL rt (iJ (tR 1 true ep 4<|aW Ir l) rt) (et (lL _ _:([aj (fR u d)]:List AV)≠ []) rt) (et (cp (aU ep) (by first | assumption | omega | simp_all | (refine ao (m:=2 ^ 31) ?_ ?_ ?_ <;> (try simp only [lM,lC,lN]) <;> omega):n=(l.map mT).length) (by first | assumption | omega | (simp only [lM];omega) | (refine ao (m:=2 ^ 31) ?_ ?_ ?_ <;> (try simp only [lM,lC,lN]) <;> omega):small (n+([AV.str (fR u d)]).length) 16=true))<|cC (f:=mT) (l:=l) (ws:=[fR u d])) (ln aV u.kids) (kx (tR 1 true (ep+1) 3<|aW Ir<|l++ [fR u d]) rt rt ti) (aU<|sb u d l (0,u.kids,(ep+1,n+1,l++ [fR u d]))) (et (rfl:List.drop 0 (u.kids)=u.kids) (by first | rfl | (first | grind | (have h1:=hj0.2.1;have h2:=hj0.2.2;rw [bc] at h2;rw [l9] at h1;exact ⟨hy1.1,(by rw [hy1.2,← h1];simp),(by rw [hy1.2,lA,ku];omega)⟩)):(n+1=(l++ [fR u d]).length∧l++ [fR u d]++c9 (d+1) u.kids=l++ [fR u d]++c9 (d+1) u.kids∧(l++ [fR u d]).length+dT u.kids≤2 ^ 20))) fun (f:Nat × List TUnit × Nat × Nat × List aP) (g:(sd u d l) f)=>et (fun (i:f.2.1 = [])=>have j:=fP g.1 i;have :=ic (J:=fun e f=>f.2.1=f.2.2.length∧f.2.2++c9 (d+1) e=l++ [fR u d]++c9 (d+1) u.kids∧f.2.2.length+dT e≤2 ^ 20) (a:=f.2.2) i g.2;et j<|e (f.2.2.1,f.2.2.2.1,f.2.2.2.2)<|by first | grind [wW, B0] | rfl) fun (e:TUnit) (i:List TUnit) (j:f.2.1=e::i)=>have o:=gX g.1 j;have :=au o;have p:=(fO (enc:=aV) g.1 j).trans<|congrArg some<|aA e;have :=cW (J:=fun e f=>f.2.1=f.2.2.length∧f.2.2++c9 (d+1) e=l++ [fR u d]++c9 (d+1) u.kids∧f.2.2.length+dT e≤2 ^ 20) (a:=f.2.2) j g.2;have q:=ar g.1 j;have r:f.2.2.2.2.length+nU e≤2 ^ 20:=(by grind [bc]);have s:d+1+nU e≤2 ^ 20:=(by have:=gw q;omega);xo o p (iK d) (kx (tR 1 true f.2.2.1 3<|aW Ir f.2.2.2.2) rt rt ti) (ihk e q (d+1) f.2.2.1 f.2.2.2.1 f.2.2.2.2 (by first | assumption | omega | (simp only [lM];omega) | (refine ao (m:=2 ^ 31) ?_ ?_ ?_ <;> (try simp only [lM,lC,lN]) <;> omega)) r s) fun (o:Nat × Nat × List aP) (_:o.2.1=o.2.2.length∧o.2.2=f.2.2.2.2++eQ (d+1) e)=>et (iK f.1)<|Nx.mk (I:=sd u d l) (m:=fun e=>e.2.1.length) (S:=sb u d l) (x:=f) (f.1+1,i,(o.1,o.2.1,o.2.2)) (et (bM g.1 j) (by first | exact ⟨by simp [hn],rfl,by simp;omega⟩ | grind [bc, l9, ku]:(o.2.1=o.2.2.length∧o.2.2++c9 (d+1) i=l++ [fR u d]++c9 (d+1) u.kids∧o.2.2.length+dT i≤2 ^ 20)))<|fk j
theorem XV (u:TUnit) (d:Nat) (hl:nU u≤2 ^ 19) (hd:d+nU u≤2 ^ 20) (ht : ∀ x,x∈bx u→rn x):kC 343 [eU u,nV d, .ptr 0 0 0 0, .ptr 1 0 0 0] (ay [.row 1 false 0 [.nils],DH])
    (fun v h=>∃ y:Nat × Nat × List aP,(y.2.1=y.2.2.length∧y.2.2=eQ d u)∧v = .tuple []∧h=ay [GT y.1 y.2.1,DH,Es y.1 y.2.2]):=by
  have hq:=iT u
  have hkl:=bK u
  have hf:=JR u d (by omega) (ht u (cV u))
  have ihk : ∀ k,k∈u.kids→∀ (d ep n:Nat) (l:List aP),n=l.length→l.length+nU k≤2 ^ 20→d+nU k≤2 ^ 20→kC 343 [eU k,nV d, .ptr 0 0 0 0, .ptr 1 0 0 0] (ay [GT ep n,DH,Es ep l])
    (fun v h=>∃ y:Nat × Nat × List aP,(y.2.1=y.2.2.length∧y.2.2=l++eQ d k)∧v = .tuple []∧h=ay [GT y.1 y.2.1,DH,Es y.1 y.2.2]):=fun k hk d ep n l a b c=>XK k d ep n l a b c (fun x hx=>ht x (bh hk hx))
  exact pN Tryz.func343 fun e=>Kp 3 hf<|Kl 5 16 (ln aV u.kids)<|Mg 0<|M0 (.ren [0,1,3,2] [] [1,3,15,16,17])<|M1 (.frz 3 [1,3,15,16,17]) (kx rt rt rt ti)<|Nf aV u.kids (0:Nat) (1:Nat) ([fR u d]:List aP) [1,3,15,16,17] (fun e _ f g i=>([nV d,aR 1 0 0 0,aX<|u.kids.map aV,nV u.kids.length,nV e],[aZ 1 false 0 [aH 2 f 0 g none],aZ 1 false 0 [bU (bY 343) [] [aR 0 0 0 0,aR 1 0 0 0]],aZ 1 true f<|i.map mT])) (fun e _ f g=>f=g.length∧g++c9 (d+1) e= [fR u d]++c9 (d+1) u.kids∧g.length+dT e≤2 ^ 20) (by first | rfl | (first | grind | (have h1:=hj0.2.1;have h2:=hj0.2.2;rw [bc] at h2;rw [l9] at h1;exact ⟨hy1.1,(by rw [hy1.2,← h1];simp),(by rw [hy1.2,lA,ku];omega)⟩))) (fun _ _ f g i _ _ _ j _=>Kh 0 j<|Mf<|e (f,g,i)<|by first | grind [wW, B0] | rfl) fun e _ f g i j m o p q r s _ t _=>have t:=(t).trans<|congrArg some<|aA o;have :=cW (J:=fun e f=>f.2.1=f.2.2.length∧f.2.2++c9 (d+1) e= [fR u d]++c9 (d+1) u.kids∧f.2.2.length+dT e≤2 ^ 20) (a:=(f,g,i)) r m;have j:=ar j r;have m:i.length+nU o≤2 ^ 20:=(by grind [bc]);have r:d+1+nU o≤2 ^ 20:=(by have:=gw j;omega);Kt 0 s<|Mx t<|Kl 6 24 (iK d)<|M1 (.frz 3 [1,3,15,16,17,21,22,24]) (kx (tR 1 true f 3<|aW Ir i) rt rt ti)<|Mq (ihk o j (d+1) f g i (by first | assumption | omega) m r) fun f _=>Kl 0 26 (iK e)<|Kf 0<|q f.1 f.2.1 f.2.2<|by first | exact ⟨by simp [hl],rfl,by simp;omega⟩ | grind [bc, l9, ku]
theorem Vq (u:TUnit) (h:mf u) (hv:km (cF u)=false):kP 298 [eU u] (.ls (([]:List aP).map mT)):=by
  have h1:=CH u h
  have h2:=xY (cF u) (rR h)
  exact bB Tryz.func298<|Kp 2 h1<|Mp h2<|Kt 0 (bT hv)<|Kf 0 bA
theorem VU (u:TUnit) (h:mf u) (hv:km (cF u)=true):kP 298 [eU u] (.ls ((eQ 0 u).map mT)):=by
  have h1:=CH u h
  have h2:=xY (cF u) (rR h)
  have h3:=XV u 0 h.1 (by have:=h.1;omega) h.2
  have rr0 b' (h:((eQ 0 u).map mT)=b':=by first | rfl | (rw [hy0.2])):=h;exact bB Tryz.func298<|Kp 2 h1<|Mp h2<|Kh 0 (bN hv)<|Mg 5<|M0 (.ren [1,2,0] [] [3,10,11])<|M1 (.frz 2 [3,10,11]) (cp rt rt ti)<|Mq h3 fun a hy0=>Mg 1<|M2 (.fsl 0 [] 2<|a.2.2.map mT) ti (cp (aU a.1) (tA mT a.2.2 a.2.1 (by first | assumption | omega:(a.2.2).length=a.2.1))<|aW Ir a.2.2)<|Ml 2 (fx (a.2.2.map mT) false<|aW Ir a.2.2)<|Mf<|b9<|rr0<|a.2.2.map mT
theorem Xw (u:TUnit) (h:mf u) (hv:km (cF u)=false):kP 243 [eU u] (.tuple [.str (wS u).1,iV (wS u).2]):=by
  have h1:=Vq u h hv
  have e:wS u=([],1):=by unfold wS;simp_all
  rw [e]
  exact bB Tryz.func243<|Kp 3 h1<|Kf 6<|bg<|ca [aj [],iV 1]
theorem Xk (u:TUnit) (h:mf u) (hv:km (cF u)=true):kP 243 [eU u] (.tuple [.str (wS u).1,iV (wS u).2]):=by
  have h1:=VU u h hv
  have hlen:=ku 0 u
  have hq:=iT u
  have hm:=h.1
  have hjl:=Pv (sep:= [10]) (B:=2 ^ 14) (l:=eQ 0 u) (fun s hs=>zV 0 u s hs)
  rw [hlen] at hjl
  have hj2:(Lib.join (eQ 0 u) [10]).length≤140737488355328:=bH hjl (bH (ef _ hm) (by grind))
  have hj3:(Lib.join (eQ 0 u) [10]).length≤2 ^ 40:=bH hjl (bH (ef _ hm) (by grind))
  have hj:=SH (eQ 0 u) [10] (by omega) hj2
  have hz:ab (.ofNat (eQ 0 u).length) 0=false:=by grind [Qw]
  have e:wS u=(bif aB 16384 (.ofNat (Lib.join (eQ 0 u) [10]++ [10]).length) then ([],6) else (Lib.join (eQ 0 u) [10]++ [10],0)):=by unfold wS;simp_all
  rw [e]
  clear e
  generalize Lib.join (eQ 0 u) [10]=J at *
  cases hb:aB 16384 (.ofNat (J++ [10]).length)
  · have hb2:aB 16384 (.ofNat (J++ [10]).length)=false:=hb
    exact bB Tryz.func243<|Kp 3 h1<|Kl 2 9 (ln mT<|eQ 0 u)<|Kh 0 hz<|Kp 0 hj<|Mv (iN (s:=J) (u:=[10]) (H:=ay [aZ 8 false 0 [ak [iV u.act,iV u.item,iV u.n,iV u.kind,aj u.label,aX<|u.head.map aQ,aX<|u.words.map aQ,aX<|u.kids.map aV]]]) (by (first | first | assumption | grind | omega | (simp only [lA,lC,lN] at *;omega)):(J).length+([10]).length≤2 ^ 62))<|Kh 3 hb<|Kf 2<|bg<|ca [aj<|J++ [10],iV 0]
  · have hb2:aB 16384 (.ofNat (J++ [10]).length)=true:=hb
    exact bB Tryz.func243<|Kp 3 h1<|Kl 2 9 (ln mT<|eQ 0 u)<|Kh 0 hz<|Kp 0 hj<|Mv (iN (s:=J) (u:=[10]) (H:=ay [aZ 8 false 0 [ak [iV u.act,iV u.item,iV u.n,iV u.kind,aj u.label,aX<|u.head.map aQ,aX<|u.words.map aQ,aX<|u.kids.map aV]]]) (by (first | first | assumption | grind | omega | (simp only [lA,lC,lN] at *;omega)):(J).length+([10]).length≤2 ^ 62))<|Kt 3 hb<|Kf 1<|bg<|ca [aj [],iV 6]
theorem Vp (u:TUnit) (h:mf u):kP 243 [eU u] (.tuple [.str (wS u).1,iV (wS u).2]):=by
  grind [Xw, Xk]
def Vy (u:TUnit):Bool:=G2 u && (ax (ab u.kind 0) && ab (wS u).2 0)
theorem Vv (u:TUnit) (h:mf u):kP 154 [eU u] (.bool (Vy u)):=by
  have q1:=Vp u h
  have q2:=WZ u h
  have rr0 b' (h:(Vy u)=b':=by first | rfl | (unfold Vy;rw [h0];rfl) | (unfold Vy;rw [h0,h1];rfl) | (unfold Vy;rw [h0,h1,h2];rfl)):=h;exact bB Tryz.func154<|Kp 2 q1<|Kp 5 q2<|Kb 0 (G2 u) (fun h0=>Kt 0 h0<|Kt 0 h0<|Ku 0 h0<|Kn 0 (ab u.kind 0) (fun h1=>Kt 0 (bT h1)<|Ku 0 (bT h1)<|Kf 0<|ce<|rr0<|ab (wS u).2 0) fun h1=>Mh (bN h1)<|My (bN h1)<|Ky 0<|rr0 false) fun h0=>Mh h0<|Mh h0<|My h0<|Ky 2<|rr0 false
/-- What an item must be, so that the walks can count. -/
def v9 (x:PItem):Prop:=nQ x∧(x.at_.length<2 ^ 40∧∀ s,s∈x.at_→s.label.length≤2 ^ 39)∧(x.to.length<2 ^ 40∧∀ s,s∈x.to→s.label.length≤2 ^ 39)∧(x.old.length<2 ^ 40∧∀ s,s∈x.old→s.length≤2 ^ 39)∧(x.new.length<2 ^ 40∧∀ s,s∈x.new→s.length≤2 ^ 39)∧x.label.length≤2 ^ 39∧x.for_.length≤2 ^ 39∧x.start.event.length≤2 ^ 39∧mf x.unit
/-- What a valid item is known to be. -/
def ze (x:PItem):Prop:=(x.kind=0∨x.kind=6→iy x.where_=true)∧(x.kind=0→Vy x.unit=true)∧(x.kind=2∨x.kind=3→qW x.old=true∧AM x.nth_=true)∧(x.kind=2∨x.kind=3∨x.kind=4→qW x.new=true)
theorem qZ {l:List aP} {n:Int} (h:qX l n=true):qW l=true:=by
  simp_all [qX]
theorem Un (x:PItem) (hx:v9 x) (h0:0≤x.kind) (h6:x.kind≤6) : ∃ b,kP 46 [eI x] (.bool b)∧(b=true→ze x):=by
  obtain ⟨k,a,t,w,n,u,o,ne,l,f,s,ac,im,d,e,bs⟩:=x
  obtain ⟨hf,⟨ha,has⟩,⟨ht,hts⟩,⟨ho,hos⟩,⟨hn,hns⟩,hl,hfo,hse,hu⟩:=hx
  have hz:o7 ba:=⟨by grind,by grind,by grind,trivial⟩
  have n0:(0:Nat)<2 ^ 60:=by omega
  obtain ⟨f1,f2,f3,f4,f5,f6,f7⟩:=hf
  have hff : ∀ k w n,nQ ⟨k,a,t,w,n,u,o,ne,l,f,s,ac,im,d,e,bs⟩:=fun _ _ _=>⟨f1,f2,f3,f4,f5,f6,f7⟩
  have h0:0≤k:=h0
  have h6:k≤6:=h6
  have hk:k=0∨k=1∨k=2∨k=3∨k=4∨k=5∨k=6:=by omega
  rcases hk with rfl | rfl | rfl | rfl | rfl | rfl | rfl
  · refine ⟨_,og ⟨0,a,t,w,n,u,o,ne,l,f,s,ac,im,d,e,bs⟩ (nH ⟨0,a,t,w,n,u,o,ne,l,f,s,ac,im,d,e,bs⟩ 0) 151 152 _ _ rfl rfl (TC _) (si _ (hff _ _ _) (wj ⟨0,a,t,w,n,u,o,ne,l,f,s,ac,im,d,e,bs⟩ (nH ⟨0,a,t,w,n,u,o,ne,l,f,s,ac,im,d,e,bs⟩ 0)) ⟨f1,n0,n0,n0,n0,f6,trivial⟩) (SA a t w n u o ne l f s ac im d e bs (Vy u) (Vv u hu)) ha has hfo hse,fun h=>?_⟩
    simp only [bJ] at h
    exact ⟨fun _=>h.2.2.2.2.1,fun _=>h.2.2.2.2.2,fun q=>(by rcases q with q | q <;> cases q),fun q=>(by rcases q with q | q | q <;> cases q)⟩
  · refine ⟨_,og ⟨1,a,t,w,n,u,o,ne,l,f,s,ac,im,d,e,bs⟩ (nH ⟨1,a,t,w,n,u,o,ne,l,f,s,ac,im,d,e,bs⟩ 1) 155 156 _ _ rfl rfl (TB _) (si _ (hff _ _ _) (wj ⟨1,a,t,w,n,u,o,ne,l,f,s,ac,im,d,e,bs⟩ (nH ⟨1,a,t,w,n,u,o,ne,l,f,s,ac,im,d,e,bs⟩ 1)) ⟨f1,n0,n0,n0,n0,hz,trivial⟩) (Su a t w n u o ne l f s ac im d e bs) ha has hfo hse,fun h=>?_⟩
    exact ⟨fun q=>(by rcases q with q | q <;> cases q),fun q=>(by cases q),fun q=>(by rcases q with q | q <;> cases q),fun q=>(by rcases q with q | q | q <;> cases q)⟩
  · refine ⟨_,og ⟨2,a,t,w,n,u,o,ne,l,f,s,ac,im,d,e,bs⟩ (nH ⟨2,a,t,w,n,u,o,ne,l,f,s,ac,im,d,e,bs⟩ 2) 157 158 _ _ rfl rfl (TA _) (si _ (hff _ _ _) (wj ⟨2,a,t,w,n,u,o,ne,l,f,s,ac,im,d,e,bs⟩ (nH ⟨2,a,t,w,n,u,o,ne,l,f,s,ac,im,d,e,bs⟩ 2)) ⟨f1,n0,f3,f4,n0,hz,trivial⟩) (Ss a t w n u o ne l f s ac im d e bs ho hn hos hns) ha has hfo hse,fun h=>?_⟩
    simp only [bJ] at h
    exact ⟨fun q=>(by rcases q with q | q <;> cases q),fun q=>(by cases q),fun _=>⟨qZ h.2.2.2.2.1,h.2.2.2.2.2.2⟩,fun _=>qZ h.2.2.2.2.2.1⟩
  · refine ⟨_,og ⟨3,a,t,w,n,u,o,ne,l,f,s,ac,im,d,e,bs⟩ (nH ⟨3,a,t,w,n,u,o,ne,l,f,s,ac,im,d,e,bs⟩ 3) 161 162 _ _ rfl rfl (Tu _) (si _ (hff _ _ _) (wj ⟨3,a,t,w,n,u,o,ne,l,f,s,ac,im,d,e,bs⟩ (nH ⟨3,a,t,w,n,u,o,ne,l,f,s,ac,im,d,e,bs⟩ 3)) ⟨f1,n0,f3,f4,n0,hz,trivial⟩) (Sr a t w n u o ne l f s ac im d e bs ho hn hos hns) ha has hfo hse,fun h=>?_⟩
    simp only [bJ] at h
    exact ⟨fun q=>(by rcases q with q | q <;> cases q),fun q=>(by cases q),fun _=>⟨qZ h.2.2.2.2.1,h.2.2.2.2.2.2.1⟩,fun _=>qZ h.2.2.2.2.2.1⟩
  · refine ⟨_,og ⟨4,a,t,w,n,u,o,ne,l,f,s,ac,im,d,e,bs⟩ (nH ⟨4,a,t,w,n,u,o,ne,l,f,s,ac,im,d,e,bs⟩ 4) 163 164 _ _ rfl rfl (Tt _) (si _ (hff _ _ _) (wj ⟨4,a,t,w,n,u,o,ne,l,f,s,ac,im,d,e,bs⟩ (nH ⟨4,a,t,w,n,u,o,ne,l,f,s,ac,im,d,e,bs⟩ 4)) ⟨f1,n0,n0,f4,n0,hz,trivial⟩) (Sp a t w n u o ne l f s ac im d e bs hn hns) ha has hfo hse,fun h=>?_⟩
    simp only [bJ] at h
    exact ⟨fun q=>(by rcases q with q | q <;> cases q),fun q=>(by cases q),fun q=>(by rcases q with q | q <;> cases q),fun _=>qZ h.2.2.2.2⟩
  · refine ⟨_,og ⟨5,a,t,w,n,u,o,ne,l,f,s,ac,im,d,e,bs⟩ (nH ⟨5,a,t,w,n,u,o,ne,l,f,s,ac,im,d,e,bs⟩ 5) 165 166 _ _ rfl rfl (Ts _) (si _ (hff _ _ _) (wj ⟨5,a,t,w,n,u,o,ne,l,f,s,ac,im,d,e,bs⟩ (nH ⟨5,a,t,w,n,u,o,ne,l,f,s,ac,im,d,e,bs⟩ 5)) ⟨f1,n0,n0,n0,n0,hz,trivial⟩) (So a t w n u o ne l f s ac im d e bs hl) ha has hfo hse,fun h=>?_⟩
    exact ⟨fun q=>(by rcases q with q | q <;> cases q),fun q=>(by cases q),fun q=>(by rcases q with q | q <;> cases q),fun q=>(by rcases q with q | q | q <;> cases q)⟩
  · refine ⟨_,og ⟨6,a,t,w,n,u,o,ne,l,f,s,ac,im,d,e,bs⟩ (nH ⟨6,a,t,w,n,u,o,ne,l,f,s,ac,im,d,e,bs⟩ 6) 168 169 _ _ rfl rfl (Tp _) (si _ (hff _ _ _) (wj ⟨6,a,t,w,n,u,o,ne,l,f,s,ac,im,d,e,bs⟩ (nH ⟨6,a,t,w,n,u,o,ne,l,f,s,ac,im,d,e,bs⟩ 6)) ⟨f1,f2,n0,n0,n0,hz,trivial⟩) (Sn a t w n u o ne l f s ac im d e bs ht hts) ha has hfo hse,fun h=>?_⟩
    simp only [bJ] at h
    exact ⟨fun _=>h.2.2.2.2.1,fun q=>(by cases q),fun q=>(by rcases q with q | q <;> cases q),fun q=>(by rcases q with q | q | q <;> cases q)⟩
theorem wQ {u:TUnit} (h:OkB u) : ∀ x,x∈bx u→x.head.length<2 ^ 30∧x.words.length<2 ^ 30:=fun x hx=>⟨pz (h.w x hx).1 (by omega),pz (h.w x hx).2 (by omega)⟩
theorem C8 (p:PId) (u:TUnit) (hn:nU u≤1024) : -1≤qV p u∧qV p u≤2 ^ 20:=by
  cases h:jx p u with
  | false=>rw [Oo h];omega
  | true=>
    obtain ⟨q,i,h1,_,h3,h4,_⟩:=uR u h
    have:=dH h1
    grind [bK]
theorem xi (w:Int) (u:TUnit) (p:PId) (hn:nU u≤1024) : -1≤(dz w u p).1.at_∧(dz w u p).1.at_≤2 ^ 41:=by
  have hb:=C8 p u hn
  have key : ∀ n:Int,0≤n→n≤1→ -1≤(ng u p n).1.at_∧(ng u p n).1.at_≤2 ^ 41:=fun n h0 h1=>by
    unfold ng
    cases jx p u
    · exact ⟨by show (-1:Int)≤0;omega,by show (0:Int)≤_;omega⟩
    grind
  unfold dz
  cases ab w 0
  · cases ab w 1
    · grind
    · show -1≤Int.ofNat _∧Int.ofNat _≤2 ^ 41
      have:(ej p u).kids.length≤1024:=by
        cases h:cJ p u with
        | true=>
          have:=dH (uO h).1
          grind [bK]
        | false=>unfold ej;rw [h];exact bG _
      grind
  simp_all
theorem vj {u:TUnit} (hu:OkB u) (p:PId):kP 48 [eU u,aJ p] (.tuple [eU (ej p u), .bool (cJ p u)]):=QX p u (bH hu.n (by omega)) (wQ hu)
theorem j5 {u:TUnit} (hu:OkB u) (p:PId):kP 148 [eU u,aJ p] (.tuple [aJ (sV p u),iV (qV p u), .bool (jx p u)]):=Ol p u (bH hu.n (by omega))
theorem v8 {u:TUnit} (hu:OkB u) (p:List PStep) (hp:p.length<2 ^ 40∧∀ s,s∈p→s.label.length≤2 ^ 39):kP 47 [eU u, .ls (p.map az)] (.tuple [aJ (aC u p).1,iV (aC u p).2]):=
  MX u p (TU u p (bH hu.n (by omega)) hp.1 hp.2) (bH hu.n (by omega))
theorem J2 {u:TUnit} (hu:OkB u) (p:PId):kP 332 [eU u,aJ p] (.tuple [fX (dz 0 u p).1,iV (dz 0 u p).2]):=Pj u _ p _ (vj hu p)
theorem J1 {u:TUnit} (hu:OkB u) (p:PId):kP 335 [eU u,aJ p] (.tuple [fX (dz 1 u p).1,iV (dz 1 u p).2]):=Px u _ p _ (vj hu p)
theorem J0 {u:TUnit} (hu:OkB u) (p:PId):kP 337 [eU u,aJ p] (.tuple [fX (dz 2 u p).1,iV (dz 2 u p).2]):=Pz u p _ _ _ (j5 hu p) (by have:=C8 p u hu.n;omega)
theorem JT {u:TUnit} (hu:OkB u) (p:PId):kP 339 [eU u,aJ p] (.tuple [fX (dz 3 u p).1,iV (dz 3 u p).2]):=Pq u p _ _ _ (j5 hu p) (by have:=C8 p u hu.n;omega)
theorem vD {w:Int} (h:iy w=true):w=0∨w=1∨w=2∨w=3:=by
  unfold iy at h
  rw [bJ] at h
  have h1:=gv h.1
  have h2:=gv h.2
  omega
/-- Where a unit is inserted. -/
theorem SK {u:TUnit} (hu:OkB u) (p:List PStep) (hp:p.length<2 ^ 40∧∀ s,s∈p→s.label.length≤2 ^ 39) (w:Int) (hw:iy w=true):kP 219 [eU u, .ls (p.map az),iV w]
    (.tuple [aJ (Bs (aC u p).2 (dz w u (aC u p).1).1 (dz w u (aC u p).1).2).1.id,iV (Bs (aC u p).2 (dz w u (aC u p).1).1 (dz w u (aC u p).1).2).1.at_,iV (Bs (aC u p).2 (dz w u (aC u p).1).1 (dz w u (aC u p).1).2).2]):=by
  rcases vD hw with rfl | rfl | rfl | rfl
  · exact qF 0 _ rfl rfl u p _ _ _ _ (v8 hu p hp) (J2 hu _)
  · exact qF 1 _ rfl rfl u p _ _ _ _ (v8 hu p hp) (J1 hu _)
  · exact qF 2 _ rfl rfl u p _ _ _ _ (v8 hu p hp) (J0 hu _)
  · exact qF 3 _ rfl rfl u p _ _ _ _ (v8 hu p hp) (JT hu _)
theorem Vl {u:TUnit} (hu:OkB u) (p q:PId) (w:Int) (hw:iy w=true) : ∃ bs,kP 221 [eU u,aJ p,aJ q,iV w]
    (.tuple [fX (nF p q (sV p u) (qV p u) (jx p u) ((pn q u).any (bb p)) bs (dz w u q).1 (dz w u q).2).1,iV (nF p q (sV p u) (qV p u) (jx p u) ((pn q u).any (bb p)) bs (dz w u q).1 (dz w u q).2).2]):=by
  have hb:=C8 p u hu.n
  have hb : -1≤qV p u∧qV p u≤2 ^ 40:=by omega
  have hn:nU u≤2 ^ 20:=bH hu.n (by omega)
  have hal:(pn q u).length<2 ^ 40:=by
    grind [lP, pn]
  have hC:=KI (pn q u) p hal
  rcases vD hw with rfl | rfl | rfl | rfl
  · exact ⟨_,F1 0 _ rfl rfl rfl u p q _ _ _ _ _ _ _ hb (xi 0 u q hu.n) (j5 hu p) (G7 q u hn) hC (J2 hu q)⟩
  · exact ⟨_,F1 1 _ rfl rfl rfl u p q _ _ _ _ _ _ _ hb (xi 1 u q hu.n) (j5 hu p) (G7 q u hn) hC (J1 hu q)⟩
  · exact ⟨_,PN u p q _ _ _ _ _ _ _ hb (xi 2 u q hu.n) (j5 hu p) (G7 q u hn) hC (J0 hu q)⟩
  · exact ⟨_,PM u p q _ _ _ _ _ _ _ hb (xi 3 u q hu.n) (j5 hu p) (G7 q u hn) hC (JT hu q)⟩
theorem zg {B:Nat} : ∀ {l:List TUnit},(∀ x,x∈l→(jL x).length≤B)→(l.flatMap jL).length≤B * l.length
  | [],_=>bG _
  | x::r,h=>by
    have h1:=h x fg
    have h2:=zg (l:=r) fun y hy=>h y (fK _ hy)
    rw [EU,lA,lC,Nat.mul_succ];omega
theorem NT {u:TUnit} (h:mf u):(eX u).length≤2 ^ 29:=by
  rw [Aa]
  have h1 : ∀ x,x∈bx u→(jL x).length≤600:=fun x hx=>by
    obtain ⟨a,b,_⟩:=h.2 x hx
    unfold jL;rw [lA];omega
  have h2:=zg h1
  have h3:(bx u).length=nU u:=by rw [je];unfold dX;rw [lM]
  rw [h3] at h2
  have:=h.1
  omega
theorem WL {e:Int} {sp:PSpot} {e2:Int} (h:(Bs e sp e2).2=0):e=0∧e2=0∧(Bs e sp e2).1=sp:=by
  unfold Bs at h ⊢
  cases h1:ab e 0 with
  | false=>rw [h1] at h;rw [show e=0 from h] at h1;cases h1
  | true=>
    rw [h1] at h
    cases h2:ab e2 0 with
    | false=>rw [h2] at h;rw [show e2=0 from h] at h2;cases h2
    | true=>exact ⟨gn h1,gn h2,rfl⟩
theorem SO {u u2:TUnit} {te:Int} {full cf:Bool} : (L1 u te full cf u2).1=u∨(full=false∧cf=false∧(L1 u te full cf u2).1=u2):=by
  unfold L1;cases ab te 0 <;> cases full <;> cases cf <;> first | exact .inl rfl | exact .inr ⟨rfl,rfl,rfl⟩
/-- What an outcome is known to be. -/
def Bk (u:TUnit) (d:PDeed) (v:TUnit):Prop:=OkB v∧Tl u d.act d.item d.it.kind v
theorem Bk.refl {u:TUnit} (hu:OkB u) {d:PDeed} : Bk u d u:=⟨hu, .refl ..⟩
/-- An insertion has an outcome. -/
theorem Uw {u:TUnit} (hu:OkB u) (f:TUnit) (d:PDeed) (hd:v9 d.it) (hg:ze d.it) (hk:d.it.kind=0) : ∃ r:pp,kP 73 [eU u,eU f,aY d] (eB r)∧Bk u d r.1:=by
  have hw:=hg.1 (.inl hk)
  have hD:=Qe u d.it _ _ _ (by rw [hk];rfl) (SK hu d.it.at_ hd.2.1 d.it.where_ hw)
  cases he:ab (Bs (aC u d.it.at_).2 (dz d.it.where_ u (aC u d.it.at_).1).1 (dz d.it.where_ u (aC u d.it.at_).1).2).2 0 with
  | false=>exact ⟨(u,_),SR u f d _ _ _ he hD, .refl hu⟩
  | true=>
    have e0:=gn he
    obtain ⟨e1,e2,e3⟩:=WL e0
    obtain ⟨n,n1,n2,n3⟩:=Fl hu (qh e1) e2
    rw [e0,e3,n1] at hD
    have ht:=hd.2.2.2.2.2.2.2.2
    have hS:=N6 d.act d.item d.it.unit (bH ht.1 (by decide)) (NT ht) (fun x hx=>⟨bH (ht.2 x hx).1 (by decide),bH (ht.2 x hx).2.1 (by decide)⟩)
    have hsn:=N7 d.act d.item d.it.unit 0 0
    have hsi:=uD d.act d.item d.it.unit 0 0
    have hsw:=Jj d.act d.item 300 d.it.unit 0 0 (fun x hx=>⟨(ht.2 x hx).1,(ht.2 x hx).2.1⟩)
    have hsm : ∀ S T,S d.act d.item→T d.act d.item→xJ S T (ch d.act d.item d.it.unit 0 0):=fun S T h1 h2=>EC h1 h2 _ 0 0
    generalize ch d.act d.item d.it.unit 0 0=X at *
    have hn:=hu.n
    have hm:=ht.1
    have hX:nU X≤2 ^ 19:=by omega
    have hkp:(ej (dz d.it.where_ u (aC u d.it.at_).1).1.id u).kids.length<2 ^ 40:=by
      cases h:cJ (dz d.it.where_ u (aC u d.it.at_).1).1.id u with
      | true=>have:=dH (uO h).1;have:=bK (ej (dz d.it.where_ u (aC u d.it.at_).1).1.id u);omega
      | false=>unfold ej;rw [h];exact pz (bG 0) (by decide)
    have hiu:(dX u).length<2 ^ 40:=by rw [← je];omega
    have hix:(dX X).length<2 ^ 40:=by rw [← je];omega
    refine ⟨_,SL u f _ X _ d _ n (nU u) (nU X) _ _ _ _ (dX u) (dX X) (by omega) (by omega) hD (vj hu _) hS (yX _ X hkp) (KB u X _ (by omega) (by omega)) (Dt u (by omega)) (Dt X (by omega)) (PD u (by omega)) (PD X (by omega)) (YN (dX X) (dX u) hiu hix) (NA _ n X u (by omega) (wQ hu) n3),?_⟩
    rcases SO (u:=u) (u2:=dQ (dz d.it.where_ u (aC u d.it.at_).1).1.id (dw n X) u) (te:=yW (ej (dz d.it.where_ u (aC u d.it.at_).1).1.id u) X) (full:=ax (aB (Int.ofNat (ej (dz d.it.where_ u (aC u d.it.at_).1).1.id u).kids.length) 64) || (Qn u (dz d.it.where_ u (aC u d.it.at_).1).1.id X || aB 1024 (Int.ofNat (nU u+nU X)))) (cf:=(dX X).any fun i=>(dX u).any (bb i)) with q | ⟨q1,q2,q3⟩
    · rw [q];exact .refl hu
    · rw [q3]
      rw [BW,BW] at q1
      have q4:=aL q1.2.2
      simp only [oN] at q4
      refine ⟨hu.ins (by rw [hsi];exact N9 _ _ _ _) (fun p hp hq=>?_) (by omega) hsw,js (f:=dw n X) (fun _=>rfl) u,fun S T h1 h2 hm=>nj hm fun v hv _=>PQ (oO hm hv) (hsm S T h1 (h2 hk))⟩
      rw [List.any_eq_false] at q2
      have:=q2 p hp
      exact this (List.any_eq_true.2 ⟨p,hq,kE p⟩)
/-- A unit is taken away. -/
theorem UK {u:TUnit} (hu:OkB u) {p:PId} (hp:jx p u=true) : ∃ q i,q∈bx u∧sV p u=ae q∧qV p u=Int.ofNat i∧i<q.kids.length∧ae (gD q.kids i)=p∧kP 141 [eU u,aJ p] (eU (dQ (ae q) (fD i) u)):=by
  obtain ⟨q,i,h1,h2,h3,h4,h5⟩:=uR u hp
  have hP:=j5 hu p
  rw [h2,h3,hp] at hP
  exact ⟨q,i,h1,h2,h3,h4,h5,xN u _ p _ i hP (NC (ae q) i u (bH hu.n (by decide)) (wQ hu) fun v hv hid=>by rw [hu.uni hv h1 ((gy _ v).1 hid)];exact h4)⟩
theorem Wi {u x:TUnit} (hu:OkB u) (d:PDeed) (hp:jx (ae x) u=true) : ∃ r:pp,kP 74 [eU u,eU x,aY d] (eB r)∧Bk u d r.1:=by
  obtain ⟨q,i,h1,h2,h3,h4,h5,h6⟩:=UK hu hp
  exact ⟨_,R5 u x _ d h6,(hu.del h1 h4).1,js (f:=fD i) (fun _=>rfl) u,fun S T _ _ hm=>nj hm fun v hv _=>PZ (oO hm hv)⟩
theorem C2 (l:List PWord):(sW l).length≤256:=by
  unfold sW
  cases h:aB 256 (Int.ofNat l.length) with
  | true=>exact bG _
  | false=>have:=aL h;simp only [oN] at this;show l.length≤256;omega
theorem Oj (a b:Int) (w:List PWord) (old new:List aP) (n:Int):(yg a b w old new n).1.length≤256:=by
  unfold yg
  cases ab (Int.ofNat old.length) 0
  · cases ab (Int.ofNat (mD (sU (bD w) old) n).length) 0
    · exact C2 _
    · exact bG _
  · exact bG _
theorem SM (a b:Int) (w:List PWord) (part new:List aP) (n:Int):(zy a b w part new n).1.length≤256:=by
  unfold zy
  cases (ab (Int.ofNat new.length) 0 || (ab (Int.ofNat part.length) 0 && ax (ab n 0)))
  · cases ab (Int.ofNat part.length) 0
    · cases ab (Int.ofNat (mD (sU (bD w) part) n).length) 0
      · exact C2 _
      · exact bG _
    · exact C2 _
  · exact bG _
theorem tZ {l:List aP} (h:qW l=true):l.length≤256:=by
  unfold qW at h
  rw [bJ] at h
  have:=gv h.1
  simp only [oN] at this
  omega
theorem JF {n:Int} (h:AM n=true):0≤n∧n≤256:=by
  unfold AM at h
  rw [bJ] at h
  exact ⟨gv h.1,gv h.2⟩
theorem BD {u:TUnit} (hu:OkB u) (q:PId) {l:List PWord} (hl:l.length≤300):OkB (dQ q (iE l) u):=hu.keep (fun _=>⟨rfl,rfl⟩) fun v hv=>⟨(hu.w v hv).1,hl⟩
theorem OS {u:TUnit} (hu:OkB u) (q:PId) {l:List PWord} (hl:l.length≤300):OkB (dQ q (qa l) u):=hu.keep (fun _=>⟨rfl,rfl⟩) fun v hv=>⟨hl,(hu.w v hv).2⟩
theorem LB {u:TUnit} (hu:OkB u) (q:PId) (s:aP):OkB (dQ q (kO s) u):=hu.keep (fun _=>⟨rfl,rfl⟩) fun v hv=>hu.w v hv
theorem JQ {u u2:TUnit} {d:PDeed} {e:Int} (h:OkB u) (h2:Bk u d u2):Bk u d (Ee u e u2).1:=by
  have h:=Bk.refl h (d:=d)
  unfold Ee;cases ab e 0;exact h;exact h2
theorem Ww {u x:TUnit} (hu:OkB u) (hx:x∈bx u) (d:PDeed) (hg:ze d.it) (hk:d.it.kind=2) : ∃ r:pp,kP 75 [eU u,eU x,aY d] (eB r)∧Bk u d r.1:=by
  obtain ⟨h1,h2⟩:=hg.2.2.1 (.inl hk)
  have h3:=tZ h1
  have h4:=tZ (hg.2.2.2 (.inl hk))
  obtain ⟨h5,h6⟩:=JF h2
  have h7:=(hu.w x hx).2
  have hR:=R4 d.act d.item x.words d.it.old d.it.new d.it.nth_ (by omega) (by omega) (by omega) h5 (by omega) (lO h5)
  exact ⟨_,Rg u x _ d _ _ hR (Np (ae x) _ u (bH hu.n (by decide)) (wQ hu)),JQ hu ⟨BD hu _ (bH (Oj ..) (by decide)),js (f:=iE _) (fun _=>rfl) u,fun S T h1 _ hm=>nj hm fun v hv _=>Fy (oO hm hv) fun w hw=>by
    rcases Lw hw with q | ⟨e1,e2⟩
    · exact (hm x hx).1 w (xF _ q)
    · rw [e1,e2];exact h1⟩⟩
theorem Wo {u x:TUnit} (hu:OkB u) (hx:x∈bx u) (d:PDeed) (hg:ze d.it) (hk:d.it.kind=3) : ∃ r:pp,kP 76 [eU u,eU x,aY d] (eB r)∧Bk u d r.1:=by
  obtain ⟨h1,h2⟩:=hg.2.2.1 (.inr hk)
  have h3:=tZ h1
  have h4:=tZ (hg.2.2.2 (.inr (.inl hk)))
  obtain ⟨h5,h6⟩:=JF h2
  have h7:=(hu.w x hx).2
  have hR:=XY d.act d.item x.words d.it.old d.it.new d.it.nth_ (by omega) (by omega) (by omega) h5 (by omega)
  exact ⟨_,SQ u x _ d _ _ hR (Ns (ae x) _ u (bH hu.n (by decide)) (wQ hu)),JQ hu ⟨BD hu _ (bH (SM ..) (by decide)),js (f:=iE _) (fun _=>rfl) u,fun S T h1 _ hm=>nj hm fun v hv _=>Fy (oO hm hv) fun w hw=>by
    rcases Po hw with q | ⟨e1,e2⟩
    · exact (hm x hx).1 w (xF _ q)
    · rw [e1,e2];exact h1⟩⟩
theorem Xj {u x:TUnit} (hu:OkB u) (d:PDeed) (hg:ze d.it) (hk:d.it.kind=4) : ∃ r:pp,kP 77 [eU u,eU x,aY d] (eB r)∧Bk u d r.1:=by
  have h4:=tZ (hg.2.2.2 (.inr (.inr hk)))
  have hM:=xg d.it.new d.act d.item 0 (by omega) (by decide)
  exact ⟨_,S9 u x _ d _ hM (NB (ae x) _ u (bH hu.n (by decide)) (wQ hu)),OS hu _ (by rw [fI];omega),js (f:=qa _) (fun _=>rfl) u,fun S T h1 _ hm=>nj hm fun v hv _=>Sf (oO hm hv) fun w hw=>by
    obtain ⟨e1,e2⟩:=qP hw
    rw [e1,e2];exact h1⟩
theorem Ux {u:TUnit} (hu:OkB u) (p:PId):(ej p u).kids.length<2 ^ 40:=by
  have hn:=hu.n
  cases h:cJ p u with
  | true=>have:=dH (uO h).1;have:=bK (ej p u);omega
  | false=>unfold ej;rw [h];exact pz (bG 0) (by decide)
theorem Wm {u x:TUnit} (hu:OkB u) (d:PDeed) : ∃ r:pp,kP 78 [eU u,eU x,aY d] (eB r)∧Bk u d r.1:=by
  refine ⟨_,R7 u x _ _ d _ _ _ _ _ (j5 hu (ae x)) (vj hu _) (yX _ _ (Ux hu _)) (Nr (ae x) d u (bH hu.n (by decide)) (wQ hu)),?_⟩
  unfold R8
  cases ab (yW (ej (sV (ae x) u) u) (kO d.it.label x)) 10
  · exact ⟨LB hu _ _,js (f:=kO _) (fun _=>rfl) u,fun S T _ _ hm=>nj hm fun v hv _=>O9 (oO hm hv)⟩
  · exact .refl hu
theorem Sd {u u2:TUnit} {d:PDeed} {te:Int} {full:Bool} (h:OkB u) (h2:Bk u d u2):Bk u d (O8 u te full u2).1:=by
  have h:=Bk.refl h (d:=d)
  unfold O8;cases ab te 0 <;> cases full <;> first | exact h | exact h2
theorem Xb {e2 e3:Int} {sp:PSpot} (h:(Gs 0 e2 sp e3).2=0):e2=0∧e3=0∧(Gs 0 e2 sp e3).1=sp:=by
  unfold Gs at h ⊢
  rw [show ab 0 0=true from rfl] at h ⊢
  simp only [cond_true] at h ⊢
  cases h1:ab e2 0 with
  | false=>rw [h1] at h;rw [show e2=0 from h] at h1;cases h1
  | true=>
    rw [h1] at h
    cases h2:ab e3 0 with
    | false=>rw [h2] at h;rw [show e3=0 from h] at h2;cases h2
    | true=>exact ⟨gn h1,gn h2,rfl⟩
/-- A move has an outcome. -/
theorem XQ {u x:TUnit} (hu:OkB u) (hx:x∈bx u) (d:PDeed) (hd:v9 d.it) (hg:ze d.it) (hk:d.it.kind=6) (h0:(aC u d.it.at_).2=0) (hid:(aC u d.it.at_).1=ae x) (hp:jx (ae x) u=true) : ∃ r:pp,kP 79 [eU u,eU x,aY d] (eB r)∧Bk u d r.1:=by
  have hw:=hg.1 (.inr hk)
  have hF:=v8 hu d.it.at_ hd.2.1
  rw [h0,hid] at hF
  obtain ⟨bs,hG⟩:=Vl hu (ae x) (aC u d.it.to).1 d.it.where_ hw
  obtain ⟨q,i,h1,h2,h3,h4,h5,h6⟩:=UK hu hp
  have hD:=Qd u d.it _ _ _ _ _ _ (by rw [hk];rfl) (by rw [hk];rfl) hw hF (v8 hu d.it.to hd.2.2.1) hG
  rw [h2,h3,hp] at hD
  cases he:ab (Gs 0 (aC u d.it.to).2 (nF (ae x) (aC u d.it.to).1 (ae q) (Int.ofNat i) true ((pn (aC u d.it.to).1 u).any (bb (ae x))) bs (dz d.it.where_ u (aC u d.it.to).1).1 (dz d.it.where_ u (aC u d.it.to).1).2).1 (nF (ae x) (aC u d.it.to).1 (ae q) (Int.ofNat i) true ((pn (aC u d.it.to).1 u).any (bb (ae x))) bs (dz d.it.where_ u (aC u d.it.to).1).1 (dz d.it.where_ u (aC u d.it.to).1).2).2).2 0 with
  | false=>exact ⟨(u,_),Se u x d _ _ _ he hD, .refl hu⟩
  | true=>
    have e0:=gn he
    obtain ⟨e1,e2,e3⟩:=Xb e0
    obtain ⟨n,n1,n2,n3⟩:=PL hu h1 h4 (qh e1) e2
    rw [e0,e3,n1] at hD
    obtain ⟨hr,hpm⟩:=hu.del h1 h4
    have hkx:gD q.kids i=x:=hu.uni (g0 h1 (bh (gH h4) (cV _))) hx h5
    rw [hkx] at hpm
    have hnr:=hr.n
    have hnx:=dH hx
    have hn:=hu.n
    refine ⟨_,Sb u x _ _ _ d _ _ n _ _ _ _ _ hD (j5 hu (ae x)) h6 (vj hr _) (yX _ x (Ux hr _)) (KB _ x _ (by omega) (by omega)) (Nt _ n x _ (by omega) (wQ hr) n3),Sd hu ?_⟩
    have hnd:=List.nodup_append.1 (hpm.nodup_iff.1 hu.nd)
    have hlen:=hpm.length_eq
    rw [lA,← je,← je,← je] at hlen
    exact ⟨hr.ins hnd.2.1 (fun p hp hq=>hnd.2.2 p hq p hp rfl) (by omega) (fun y hy=>hu.w y (g0 hx hy)),(js (f:=dw _ _) (fun _=>rfl) _).trans (js (f:=fD i) (fun _=>rfl) u),fun S T _ _ hm=>by
      have hm2:=nj (q:=ae q) (f:=fD i) hm fun v hv _=>PZ (oO hm hv)
      exact nj hm2 fun v hv _=>PQ (oO hm2 hv) (oO hm hx)⟩
/-- An item's doer. -/
theorem Yx {u x:TUnit} (hu:OkB u) (hx:x∈bx u) (d:PDeed) (hd:v9 d.it) (hg:ze d.it) (hk0:0≤d.it.kind) (hk6:d.it.kind≤6) (h0:(aC u d.it.at_).2=0) (hid:(aC u d.it.at_).1=ae x) (hp:jx (ae x) u=true) : ∃ r:pp,kP (Uc d.it.kind) [eU u,eU x,aY d] (eB r)∧Bk u d r.1:=by
  have hk:d.it.kind=0∨d.it.kind=1∨d.it.kind=2∨d.it.kind=3∨d.it.kind=4∨d.it.kind=5∨d.it.kind=6:=by omega
  rcases hk with h | h | h | h | h | h | h <;> rw [h]
  · exact Uw hu x d hd hg h
  · exact Wi hu d hp
  · exact Ww hu hx d hg h
  · exact Wo hu hx d hg h
  · exact Xj hu d hg h
  · exact Wm hu d
  · exact XQ hu hx d hd hg h h0 hid hp
/-- An amendment has one outcome. -/
theorem TM {u:TUnit} (hu:OkB u) (d:PDeed) (hd:v9 d.it) (hk0:0≤d.it.kind) (hk6:d.it.kind≤6) : ∃ r:pp,kP 26 [eU u,aY d] (eB r)∧Bk u d r.1:=by
  obtain ⟨b,hV,hg⟩:=Un d.it hd hk0 hk6
  have hl:=VY d hk0 hk6
  cases b with
  | false=>exact ⟨_,TN u d _ hl hV, .refl hu⟩
  | true=>
    have hg:=hg rfl
    have hF:=v8 hu d.it.at_ hd.2.1
    cases he:ab (aC u d.it.at_).2 0 with
    | false=>exact ⟨_,TP u d _ _ _ hl hV he hF, .refl hu⟩
    | true=>
      have e0:=gn he
      have hh:=qh e0
      obtain ⟨hx,hxi⟩:=uO hh
      rw [e0] at hF
      have hX:=vj hu (aC u d.it.at_).1
      cases hi:(ab (aC u d.it.at_).1.a u.act && (ab (aC u d.it.at_).1.i u.item && ab (aC u d.it.at_).1.n u.n)) with
      | true=>
        cases hk:ab d.it.kind 0 with
        | true=>
          have hk:=gn hk
          obtain ⟨r,h1,h2⟩:=Uw hu (ej (aC u d.it.at_).1 u) d hd hg hk
          exact ⟨r,Q7 u _ d _ _ _ r hl hV hF hX hi (by rw [hk];rfl) (by rw [hk];exact h1),h2⟩
        | false=>exact ⟨_,TO u _ d _ _ _ _ _ hl hV hF hX hi hk (v8 hu d.it.to hd.2.2.1), .refl hu⟩
      | false=>
        have hni:fT (aC u d.it.at_).1 u=false:=by
          cases q:fT (aC u d.it.at_).1 u with
          | false=>rfl
          | true=>
            have:=(gy _ u).1 q
            rw [← this] at hi
            have e:(ab (ae u).a u.act && (ab (ae u).i u.item && ab (ae u).n u.n))=true:=by
              show (ab u.act u.act && (ab u.item u.item && ab u.n u.n))=true
              rw [bW,bW,bW];rfl
            rw [e] at hi;cases hi
        obtain ⟨r,h1,h2⟩:=Yx hu hx d hd hg hk0 hk6 e0 hxi.symm (by rw [hxi];exact TZ hh hni)
        exact ⟨r,TR u _ d _ _ _ r hl hV hF hX hi h1,h2⟩
theorem RK {k:Int} (h:po k=true):0≤k∧k≤6:=by
  unfold po at h;rw [bJ] at h;exact ⟨gv h.1,gv h.2⟩
/-- What an amendment makes of a book: the one outcome there is. -/
structure AppOk (u:TUnit) (d:PDeed):Prop where
  b:OkB u
  i:v9 d.it
  a:po d.it.kind=true
theorem Q5 {u:TUnit} {d:PDeed} (h:AppOk u d) : ∃ r:pp,kP 26 [eU u,aY d] (eB r)∧Bk u d r.1:=TM h.b d h.i (RK h.a).1 (RK h.a).2
open Classical in
noncomputable def jg (u:TUnit) (d:PDeed):pp:=if h:AppOk u d then (Q5 h).choose else (u,0)
theorem DO {u:TUnit} {d:PDeed} (h:AppOk u d):kP 26 [eU u,aY d] (.tuple [eU (jg u d).1,iV (jg u d).2])∧Bk u d (jg u d).1:=by
  unfold jg;rw [dif_pos h];exact (Q5 h).choose_spec
theorem rq {u:TUnit} {d:PDeed} (h:AppOk u d):kP 26 [eU u,aY d] (.tuple [eU (jg u d).1,iV (jg u d).2])∧OkB (jg u d).1:=⟨(DO h).1,(DO h).2.1⟩
theorem Ug (u:TUnit) (d:PDeed) (h1:OkB u) (h2:v9 d.it) (h3:po d.it.kind=true):kP 26 [eU u,aY d] (.tuple [eU (jg u d).1,iV (jg u d).2]):=(rq ⟨h1,h2,h3⟩).1
noncomputable def pv (u:TUnit) (d:PDeed):TUnit:=bif po d.it.kind then (jg u d).1 else u
noncomputable def BP (u:TUnit) (d:PDeed):List PFail:=bif po d.it.kind then (bif ab (jg u d).2 0 then [] else [⟨d.act,d.item,(jg u d).2⟩]) else []
theorem Eu {u:TUnit} {d:PDeed} (h1:OkB u) (h2:v9 d.it):OkB (pv u d):=by
  unfold pv
  cases h:po d.it.kind with
  | false=>exact h1
  | true=>exact (rq ⟨h1,h2,h⟩).2
theorem N5 {u:TUnit} {d:PDeed} (h1:OkB u) (h2:v9 d.it):Tl u d.act d.item d.it.kind (pv u d):=by
  unfold pv
  cases h:po d.it.kind with
  | false=>exact .refl ..
  | true=>exact (DO ⟨h1,h2,h⟩).2.2
noncomputable def dJ:TUnit→List PDeed→TUnit
  | u, []=>u
  | u,d::r=>dJ (pv u d) r
noncomputable def fV:TUnit→List PDeed→List PFail
  | _, []=> []
  | u,d::r=>BP u d++fV (pv u d) r
theorem G1 : ∀ {l:List PDeed} {u:TUnit},OkB u→(∀ d,d∈l→v9 d.it)→OkB (dJ u l)
  | [],_,h,_=>h
  | d::r,u,h,hl=>G1 (l:=r) (u:=pv u d) (Eu h (hl d (fg ..))) fun x hx=>hl x (fK _ hx)
theorem Cz : ∀ (l:List PDeed) (u:TUnit),(fV u l).length≤l.length
  | [],_=>ah _
  | d::r,u=>by
    have:=Cz r (pv u d)
    have h:(BP u d).length≤1:=by
      unfold BP
      cases po d.it.kind <;> cases ab (jg u d).2 0 <;> simp
    rw [fV,lA,lC];omega
theorem Wd {u:TUnit} {d:PDeed} {r:List PDeed} (h:po d.it.kind=false):dJ u (d::r)=dJ u r∧fV u (d::r)=fV u r:=by
  rw [dJ,fV,pv,BP,h];exact ⟨rfl,rfl⟩
theorem RE {u:TUnit} {d:PDeed} {r:List PDeed} (h:po d.it.kind=true) (h2:ab (jg u d).2 0=true):dJ u (d::r)=dJ (jg u d).1 r∧fV u (d::r)=fV (jg u d).1 r:=by
  rw [dJ,fV,pv,BP,h,h2];exact ⟨rfl,rfl⟩
theorem RD {u:TUnit} {d:PDeed} {r:List PDeed} (h:po d.it.kind=true) (h2:ab (jg u d).2 0=false):dJ u (d::r)=dJ (jg u d).1 r∧fV u (d::r)=⟨d.act,d.item,(jg u d).2⟩::fV (jg u d).1 r:=by
  rw [dJ,fV,pv,BP,h,h2];exact ⟨rfl,rfl⟩
mutual
theorem Jb : ∀ (u:TUnit) (deep most:Int),mh u deep most≤most→Int.ofNat (nU u)≤mh u deep most
  | ⟨_,_,_,_,_,_,_,kids⟩,deep,most,h=>by
    rw [mh] at h ⊢
    cases hd:aB 20 deep with
    | true=>rw [hd] at h;simp only at h;omega
    | false=>
      rw [hd] at h
      have:=Jc kids deep most 1 h
      rw [nU]
      simp only [oN] at *
      omega
theorem Jc : ∀ (l:List TUnit) (deep most n:Int),ml l deep most n≤most→n+Int.ofNat (dT l)≤ml l deep most n
  | [],_,_,n,_=>by rw [ml,dT];exact Int.le_of_eq (Int.add_zero n)
  | k::r,deep,most,n,h=>by
    rw [ml] at h ⊢
    cases hd:aB most n with
    | true=>rw [hd] at h;have:=au hd;simp only at h;omega
    | false=>
      rw [hd] at h
      have h2:=Jc r deep most _ h
      have h1:=Jb k (deep+1) (most - n) (by simp only [oN] at *;omega)
      rw [dT]
      simp only [oN] at *
      omega
end
theorem EN {l:List PWord} (h:mn l=true):l.length≤300∧∀ w,w∈l→w.text.length≤100:=by
  unfold mn at h
  obtain ⟨h1,h2⟩:=nL.1 h
  refine ⟨by have:=gv h2;simp only [oN] at this;omega,fun w hw=>?_⟩
  have:=gv (nW.1 h1 w hw)
  simp only [oN] at this;omega
theorem Hk : ∀ (u:TUnit),kh u=true→∀ x,x∈bx u→rn x:=by
  refine TUnit.ind fun u ih h x hx=>?_
  rw [Bz] at h
  simp only [bJ] at h
  obtain ⟨⟨⟨h0,h1⟩,h2⟩,h3⟩:=h
  rw [c8] at hx
  rcases eP.1 hx with rfl | hx
  · have h0:=gv h0
    simp only [oN] at h0
    have q1:=EN h1
    have q2:=EN h2
    exact ⟨q1.1,q2.1,by omega,fun w hw=>bH (q1.2 w hw) (by decide),fun w hw=>bH (q2.2 w hw) (by decide)⟩
  · obtain ⟨k,hk,hx⟩:=mY hx
    exact ih k hk (nW.1 h3 k hk) x hx
theorem VA {u:TUnit} {n:Nat} (h:Gx u (.ofNat n)=true):nU u≤n∧∀ x,x∈bx u→rn x:=by
  unfold Gx at h
  obtain ⟨h1,h2⟩:=nL.1 h
  refine ⟨?_,Hk u h2⟩
  have h3:=gv h1
  have:=Jb u 0 (.ofNat n) h3
  simp only [oN] at *
  omega
theorem OR {x:PItem} (hf:nQ x) (h:mN x=true):v9 x:=by
  rw [Dh] at h
  unfold xn at h
  simp only [bJ] at h
  obtain ⟨⟨⟨⟨⟨⟨⟨⟨⟨⟨a1,a2⟩,a3⟩,a4⟩,a5⟩,a6⟩,a7⟩,a8⟩,a9⟩,a10⟩,b1,b2,b3,b4,b5⟩:=h
  have a1:=gv a1
  have a2:=gv a2
  have a3:=gv a3
  have a4:=gv a4
  have a5:=gv a5
  have a6:=gv a6
  have a7:=gv a7
  simp only [oN] at a1 a2 a3 a4 a5 a6 a7
  have hs : ∀ {l:List aP},l.all wO=true→∀ s,s∈l→s.length≤2 ^ 39:=fun h s hs=>by
    have:=gv (nW.1 h s hs);simp only [oN] at this;omega
  have ht : ∀ {l:List PStep},l.all wM=true→∀ s,s∈l→s.label.length≤2 ^ 39:=fun h s hs=>by
    have:=gv (nW.1 h s hs);simp only [oN] at this;omega
  have hu:=VA (n:=30) a10
  exact ⟨hf,⟨by omega,ht b3⟩,⟨by omega,ht b4⟩,⟨by omega,hs b1⟩,⟨by omega,hs b2⟩,by omega,by omega,by omega,bH hu.1 (by decide),hu.2⟩
theorem Sj : ∀ (u:TUnit),nU u≤1024→(∀ x,x∈bx u→x.head.length≤300∧x.words.length≤300)→o7 u:=by
  refine TUnit.ind fun u ih hn hw=>?_
  have:=bK u
  obtain ⟨h1,h2⟩:=hw u (cV u)
  exact lY.2 ⟨by omega,by omega,by omega,fun k hk=>ih k hk (by have:=gw hk;omega) fun x hx=>hw x (bh hk hx)⟩
theorem FV {u:TUnit} (h:OkB u):o7 u:=Sj u h.n h.w
theorem Ib {u v:TUnit} {l r:List PDeed} {xs:List PFail} (h:fV u l=xs++fV v r):xs.length≤l.length:=by
  grind [Cz]
theorem RZ (u:TUnit) (l:List PDeed) (hu:OkB u) (hl:l.length<2 ^ 30) (ho : ∀ d,d∈l→v9 d.it):kP 55 [eU u, .ls (l.map aY)] (.tuple [eU (dJ u l), .ls ((fV u l).map iz)]):=by
  have rr0 b' (h:((dJ u l).act)=b':=by first | (rw [hj0.2.1];rfl) | (rw [hj0.2.2];rfl) | (rw [hj0.2.2.1];rfl) | (rw [hj0.2.2.2];simp only [fV,dB]) | exact aW f8 _):=h;have rr1 b' (h:((dJ u l).item)=b':=by first | (rw [hj0.2.1];rfl) | (rw [hj0.2.2];rfl) | (rw [hj0.2.2.1];rfl) | (rw [hj0.2.2.2];simp only [fV,dB]) | exact aW f8 _):=h;have rr2 b' (h:((dJ u l).n)=b':=by first | (rw [hj0.2.1];rfl) | (rw [hj0.2.2];rfl) | (rw [hj0.2.2.1];rfl) | (rw [hj0.2.2.2];simp only [fV,dB]) | exact aW f8 _):=h;have rr3 b' (h:((dJ u l).kind)=b':=by first | (rw [hj0.2.1];rfl) | (rw [hj0.2.2];rfl) | (rw [hj0.2.2.1];rfl) | (rw [hj0.2.2.2];simp only [fV,dB]) | exact aW f8 _):=h;have rr4 b' (h:((dJ u l).label)=b':=by first | (rw [hj0.2.1];rfl) | (rw [hj0.2.2];rfl) | (rw [hj0.2.2.1];rfl) | (rw [hj0.2.2.2];simp only [fV,dB]) | exact aW f8 _):=h;have rr5 b' (h:(List.map aQ (dJ u l).head)=b':=by first | (rw [hj0.2.1];rfl) | (rw [hj0.2.2];rfl) | (rw [hj0.2.2.1];rfl) | (rw [hj0.2.2.2];simp only [fV,dB]) | exact aW f8 _):=h;have rr6 b' (h:(List.map aQ (dJ u l).words)=b':=by first | (rw [hj0.2.1];rfl) | (rw [hj0.2.2];rfl) | (rw [hj0.2.2.1];rfl) | (rw [hj0.2.2.2];simp only [fV,dB]) | exact aW f8 _):=h;have rr7 b' (h:(List.map aV (dJ u l).kids)=b':=by first | (rw [hj0.2.1];rfl) | (rw [hj0.2.2];rfl) | (rw [hj0.2.2.1];rfl) | (rw [hj0.2.2.2];simp only [fV,dB]) | exact aW f8 _):=h;have rr8 b' (h:((fV u l).map iz)=b':=by first | (rw [hj0.2.1];rfl) | (rw [hj0.2.2];rfl) | (rw [hj0.2.2.1];rfl) | (rw [hj0.2.2.2];simp only [fV,dB]) | exact aW f8 _):=h;exact bB Tryz.func55<|Kl 2 5 bA<|Kl 2 12 (ln aY l)<|Mg 0<|XB TUnit Nat Nat (List PFail) aY l u [2,4,6,11,12,13] (fun a _ b=>([aR 0 0 0 0,aR 1 0 0 0,aa,aX<|l.map aY,nV l.length,nV a],[aZ 8 false 0 [ak [iV b.act,iV b.item,iV b.n,iV b.kind,aj b.label,aX<|b.head.map aQ,aX<|b.words.map aQ,aX<|b.kids.map aV]],aZ 8 false 0 [ak [iV 0,iV 0,iV 0,iV 0,aj [],aa,aa,aa]]])) (fun a _ b c e f=>([aR 0 0 0 0,aR 1 0 0 0,aH 2 c 0 e none,aX<|l.map aY,nV l.length,nV a],[aZ 8 false 0 [ak [iV b.act,iV b.item,iV b.n,iV b.kind,aj b.label,aX<|b.head.map aQ,aX<|b.words.map aQ,aX<|b.kids.map aV]],aZ 8 false 0 [ak [iV 0,iV 0,iV 0,iV 0,aj [],aa,aa,aa]],aZ 3 true c<|f.map iz])) (fun a b=>OkB b∧dJ u l=dJ b a∧fV u l=fV b a) (fun a b _ c e=>OkB b∧c=e.length∧dJ u l=dJ b a∧fV u l=e++fV b a) sA (fun _ _ a _ _ _ b hj0=>Kh 0 b<|Kl 3 5 bA<|Mf<|cD<|.cons (aN (.cons (li<|rr0 a.act)<|.cons (li<|rr1 a.item)<|.cons (li<|rr2 a.n)<|.cons (li<|rr3 a.kind)<|.cons (Le.str<|rr4 a.label)<|.cons (b9<|rr5<|a.head.map aQ)<|.cons (b9<|rr6<|a.words.map aQ)<|.cons (b9<|rr7<|a.kids.map aV) .nil)<|by kernel_rfl)<|.cons (b9<|rr8 []) .nil) (fun a _ b c _ e f g i j k _ n hj0=>have c:=ho _<|ar c j;Kt 0 k<|Mx n<|Kp 5 (IM e.it.kind)<|Kn 0 (po e.it.kind) (fun _=>Kl 0 40 (dj a)<|K1 0 (.frz 2 [2,4,6,11,12,13]) (cp rt rt ti)<|Mf<|g b<|by grind [Wd]) fun j=>Kp 1 (Ug b e sA c j)<|Kc 7 (jg b e).2 0 (fun _ _=>Kl 12 40 (dj a)<|Mg 0<|M0 (.ren [0,1,4,2,3] [] [2,4,6,11,12,13])<|M1 (.frz 3 [2,4,6,11,12,13]) (kx rt rt rt ti)<|Mf<|i (jg b e).1 0 1 [PFail.mk e.act e.item (jg b e).2]<|by exact ⟨(rq ⟨hj0.1,c,by omega⟩).2,rfl,hj0.2.1.trans (RD (by omega) (by omega)).1,hj0.2.2.trans (RD (by omega) (by omega)).2⟩) fun _ _=>Kl 2 40 (dj a)<|K1 0 (.frz 2 [2,4,6,11,12,13]) (cp rt rt ti)<|Mf<|g (jg b e).1<|by exact ⟨(rq ⟨hj0.1,c,by omega⟩).2,hj0.2.1.trans (RE (by omega) (by omega)).1,hj0.2.2.trans (RE (by omega) (by omega)).2⟩) (fun _ _ a b c e _ _ _ f hj0=>Kh 0 f<|Mg 3<|M2 (.fsl 2 [4] 5<|e.map iz) (cp rt rt ti) (cp (aU b) (tA iz e c (oA:(e).length=c))<|aW f8 e)<|Ml 5 (fx (e.map iz) false<|aW f8 e)<|Mf<|cD<|.cons (aN (.cons (li<|rr0 a.act)<|.cons (li<|rr1 a.item)<|.cons (li<|rr2 a.n)<|.cons (li<|rr3 a.kind)<|.cons (Le.str<|rr4 a.label)<|.cons (b9<|rr5<|a.head.map aQ)<|.cons (b9<|rr6<|a.words.map aQ)<|.cons (b9<|rr7<|a.kids.map aV) .nil)<|by kernel_rfl)<|.cons (b9<|rr8<|e.map iz) .nil) fun a _ b c e f g _ i j _ k n o _ p hj0=>have g:=ho _<|ar g n;Kt 0 o<|Mx p<|Kp 5 (IM i.it.kind)<|Kn 0 (po i.it.kind) (fun _=>Kl 0 40 (dj a)<|K1 0 (.frz 3 [2,4,6,11,12,13]) (kx (tR 3 true c 3<|aW f8 f) rt rt ti)<|Mf<|k b c e f<|by grind [Wd]) fun n=>Kp 1 (Ug b i sA g n)<|Kc 7 (jg b i).2 0 (fun _ _=>K1 7 .app (cp (aU c) (sA:e=(f.map iz).length) (by (have z:=Ib hj0.2.2.2;have z2:=hj0.2.1;refine ao (m:=2 ^ 31) ?_ ?_ ?_ <;> omega):small (e+1) 24=true))<|M1 (.obj 2<|aZ 3 true (c+1)<|(f++ [PFail.mk i.act i.item (jg b i).2]).map iz) (congrArg (aZ 3 true<|c+1)<|cC (f:=iz) (l:=f) (ws:=[PFail.mk i.act i.item (jg b i).2]))<|Kl 3 40 (dj a)<|K1 0 (.frz 3 [2,4,6,11,12,13]) (kx (tR 3 true (c+1) 3<|aW f8<|f++ [PFail.mk i.act i.item (jg b i).2]) rt rt ti)<|Mf<|k (jg b i).1 (c+1) (e+1) (f++ [PFail.mk i.act i.item (jg b i).2])<|by exact ⟨(rq ⟨hj0.1,g,by omega⟩).2,by simp_all,hj0.2.2.1.trans (RD (by omega) (by omega)).1,hj0.2.2.2.trans (by grind [RD])⟩) fun _ _=>Kl 2 40 (dj a)<|K1 0 (.frz 3 [2,4,6,11,12,13]) (kx (tR 3 true c 3<|aW f8 f) rt rt ti)<|Mf<|k (jg b i).1 c e f<|by exact ⟨(rq ⟨hj0.1,g,by omega⟩).2,hj0.2.1,hj0.2.2.1.trans (RE (by omega) (by omega)).1,hj0.2.2.2.trans (by grind [RE])⟩
end Go.Proofs.YtidehekfpcgelaaGreatDoor
