/- Functions walked: what each of them answers, for the law of order: part 5. Conditions: those that each theorem names. -/
import Derived.Test.YtempcdhknnjebaaGreatDoorH4
namespace Go.Proofs.YtempcdhknnjebaaGreatDoor
open Go Go.Ev
noncomputable abbrev BV (l:List PWord):AObj:= .row 4 true 0 (l.map aQ)
noncomputable def Eb:TypeInfo:=(Tryz.prog.info? 90).getD default
theorem Ea:Tryz.prog.info? 90=some Eb:=by kernel_rfl
theorem xR:Eb.size=4:=by kernel_rfl
theorem vM:Eb.bytes=40:=by kernel_rfl
theorem Ur (l:List PWord):dq 4 (l.map aQ)=true:=gk (fun w=>by cases w;rfl) l
/-- A copy of words: a row of its own. -/
theorem YB (ws:List PWord) (hl:ws.length≤2 ^ 20) (a b c d:AObj):kD 183 [.ls (ws.map aQ)] (aa [a,b,c,d]) (.sl0 4 0 ws.length none) (aa [a,b,c,d,BV ws]):=by
  by_cases hne:ws = []
  · subst hne
    have hE:(aa [a,b,c,d]).push (BV [])=aa [a,b,c,d,BV []]:=by kernel_rfl
    have h:=aG.psh (o:=BV []) (u:= .sl0 4 0 0 none) (qO [] (by omega) (aa [a,b,c,d])) DP
    simp_all
  have hn:ws.map aQ≠ []:=fun h=>hne (List.map_eq_nil_iff.1 h)
  have hf:=Ur ws
  have hsm:small (ws.map aQ).length 40=true:=by grind [aA]
  have hlen:ws.length=(ws.map aQ).length:=(bI ..).symm
  unfold BV
  rw [hlen]
  generalize ws.map aQ=L at hn hf hsm
  refine (aG.less (Ψ:=fun v h=>v = .slice 4 0 0 L.length none∧h=aa [a,b,c,d, .row 4 true 0 L]) ?_ fun v h ⟨h1,h2⟩=>⟨_,h1 ▸ Le.sl0,rfl,h2⟩)
  refine aG.enter 2 (fn:=Tryz.f183) Tryz.func183 (by kernel_rfl) rfl ⟨by kernel_rfl,by kernel_rfl⟩ ?_
  refine am.seq (am.mono (Dz pY iG (ev 40) (s':=⟨dN 8 [(0, .ls L),(2, .nils)],aa [a,b,c,d]⟩) (.go 0 .fin) (by kernel_rfl)) ?_)
  rintro _ _ ⟨rfl,rfl⟩
  refine am.seq (am.seq (am.mono (xg iG (ev 40) (Ψ:=fun s=>s=⟨dN 8 [(0, .ls L),(2, .nils),(3, .ps L false),(4, .bool false)],aa [a,b,c,d]⟩) (.go 0 (.nz 3 .abs (.go 0 .fin)))
    (W:=(L = []→False)∧(⟨dN 8 [(0, .ls L),(2, .nils),(3, .ps L false),(4, .bool false)],aa [a,b,c,d]⟩:St)=⟨dN 8 [(0, .ls L),(2, .nils),(3, .ps L false),(4, .bool false)],aa [a,b,c,d]⟩) ⟨hn,rfl⟩ (by kernel_rfl)) ?_))
  rintro _ _ ⟨rfl,rfl⟩
  refine am.cond (t:=false) (by kernel_rfl) (fun h=>by grind) fun _=>am.skip ?_
  refine am.seq (am.region ?_)
  show cY _ _ _ _ [_,_,_,_] _ _
  refine cY.one (s':=⟨dN 8 [(0, .ls L),(2, .nils),(3, .ps L false),(4, .bool false),(5, .ps [] true)],aa [a,b,c,d]⟩) (ev 40) (by kernel_rfl) ?_
  refine cY.one (s':=⟨dN 8 [(0, .ls L),(2, .nils),(3, .ps L false),(4, .bool false),(5, .ps [] true),(6, .ls L)],aa [a,b,c,d]⟩) (ev 40) (by kernel_rfl) ?_
  refine rW (I:=fun k:Nat=>k=0) (r:=fun _=> .slice 4 0 0 L.length none) (H:=fun _=>aa [a,b,c,d, .row 4 true 0 L]) (by kernel_rfl)
    (fun pl M a w g1 g2 g3=>wI (z:=aQ ⟨[],0,0,0⟩) (z0:=aQ ⟨[],0,0,0⟩) (xs:=L) (t:=28) (tx:=28) (e:=90) (i:=Eb) xR vM (by kernel_rfl) ⟨90,by kernel_rfl⟩ Ea (by kernel_rfl) (Le.refl _) (by kernel_rfl) (by kernel_rfl) hn hf (by kernel_rfl) hsm (by omega) pl M a w g1 g2 g3) fun k _=>?_
  refine ⟨dN 8 [(0, .ls L),(2, .nils),(3, .ps L false),(4, .bool false),(5, .ps [] true),(6, .ls L),(7, .slice 4 0 0 L.length none)],by kernel_rfl,?_⟩
  refine cY.one (s':=⟨dN 8 [(0, .ls L),(2, .slice 4 0 0 L.length none),(3, .ps L false),(4, .bool false),(5, .ps [] true),(6, .ls L),(7, .slice 4 0 0 L.length none)],aa [a,b,c,d, .row 4 true 0 L]⟩) (ev 40) (by kernel_rfl) (cY.nil (am.ret ⟨fun id h=>(by grind), .slice 4 0 0 L.length none,by kernel_rfl,by kernel_rfl,by kernel_rfl⟩))
theorem YA (ws:List PWord) (hl:ws.length≤2 ^ 20) (a b c d e:AObj):kD 183 [.ls (ws.map aQ)] (aa [a,b,c,d,e]) (.sl0 5 0 ws.length none) (aa [a,b,c,d,e,BV ws]):=by
  by_cases hne:ws = []
  · subst hne
    have hE:(aa [a,b,c,d,e]).push (BV [])=aa [a,b,c,d,e,BV []]:=by kernel_rfl
    have h:=aG.psh (o:=BV []) (u:= .sl0 5 0 0 none) (qO [] (by omega) (aa [a,b,c,d,e])) DP
    simp_all
  have hn:ws.map aQ≠ []:=fun h=>hne (List.map_eq_nil_iff.1 h)
  have hf:=Ur ws
  have hsm:small (ws.map aQ).length 40=true:=by grind [aA]
  have hlen:ws.length=(ws.map aQ).length:=(bI ..).symm
  unfold BV
  rw [hlen]
  generalize ws.map aQ=L at hn hf hsm
  refine (aG.less (Ψ:=fun v h=>v = .slice 5 0 0 L.length none∧h=aa [a,b,c,d,e, .row 4 true 0 L]) ?_ fun v h ⟨h1,h2⟩=>⟨_,h1 ▸ Le.sl0,rfl,h2⟩)
  refine aG.enter 2 (fn:=Tryz.f183) Tryz.func183 (by kernel_rfl) rfl ⟨by kernel_rfl,by kernel_rfl⟩ ?_
  refine am.seq (am.mono (Dz pY iG (ev 40) (s':=⟨dN 8 [(0, .ls L),(2, .nils)],aa [a,b,c,d,e]⟩) (.go 0 .fin) (by kernel_rfl)) ?_)
  rintro _ _ ⟨rfl,rfl⟩
  refine am.seq (am.seq (am.mono (xg iG (ev 40) (Ψ:=fun s=>s=⟨dN 8 [(0, .ls L),(2, .nils),(3, .ps L false),(4, .bool false)],aa [a,b,c,d,e]⟩) (.go 0 (.nz 3 .abs (.go 0 .fin)))
    (W:=(L = []→False)∧(⟨dN 8 [(0, .ls L),(2, .nils),(3, .ps L false),(4, .bool false)],aa [a,b,c,d,e]⟩:St)=⟨dN 8 [(0, .ls L),(2, .nils),(3, .ps L false),(4, .bool false)],aa [a,b,c,d,e]⟩) ⟨hn,rfl⟩ (by kernel_rfl)) ?_))
  rintro _ _ ⟨rfl,rfl⟩
  refine am.cond (t:=false) (by kernel_rfl) (fun h=>by grind) fun _=>am.skip ?_
  refine am.seq (am.region ?_)
  show cY _ _ _ _ [_,_,_,_] _ _
  refine cY.one (s':=⟨dN 8 [(0, .ls L),(2, .nils),(3, .ps L false),(4, .bool false),(5, .ps [] true)],aa [a,b,c,d,e]⟩) (ev 40) (by kernel_rfl) ?_
  refine cY.one (s':=⟨dN 8 [(0, .ls L),(2, .nils),(3, .ps L false),(4, .bool false),(5, .ps [] true),(6, .ls L)],aa [a,b,c,d,e]⟩) (ev 40) (by kernel_rfl) ?_
  refine rW (I:=fun k:Nat=>k=0) (r:=fun _=> .slice 5 0 0 L.length none) (H:=fun _=>aa [a,b,c,d,e, .row 4 true 0 L]) (by kernel_rfl)
    (fun pl M a w g1 g2 g3=>wI (z:=aQ ⟨[],0,0,0⟩) (z0:=aQ ⟨[],0,0,0⟩) (xs:=L) (t:=28) (tx:=28) (e:=90) (i:=Eb) xR vM (by kernel_rfl) ⟨90,by kernel_rfl⟩ Ea (by kernel_rfl) (Le.refl _) (by kernel_rfl) (by kernel_rfl) hn hf (by kernel_rfl) hsm (by omega) pl M a w g1 g2 g3) fun k _=>?_
  refine ⟨dN 8 [(0, .ls L),(2, .nils),(3, .ps L false),(4, .bool false),(5, .ps [] true),(6, .ls L),(7, .slice 5 0 0 L.length none)],by kernel_rfl,?_⟩
  refine cY.one (s':=⟨dN 8 [(0, .ls L),(2, .slice 5 0 0 L.length none),(3, .ps L false),(4, .bool false),(5, .ps [] true),(6, .ls L),(7, .slice 5 0 0 L.length none)],aa [a,b,c,d,e, .row 4 true 0 L]⟩) (ev 40) (by kernel_rfl) (cY.nil (am.ret ⟨fun id h=>(by grind), .slice 5 0 0 L.length none,by kernel_rfl,by kernel_rfl,by kernel_rfl⟩))
noncomputable abbrev CM (u:TUnit) (k:AV):AV:= .agg [iV u.act,iV u.item,iV u.n,iV u.kind, .str u.label, .sl0 3 0 u.head.length none, .sl0 4 0 u.words.length none,k]
noncomputable abbrev T4 (u:TUnit) (i j:Nat) (k:AV):AObj:= .row 8 false 0 [.agg [iV u.act,iV u.item,iV u.n,iV u.kind, .str u.label, .sl0 i 0 u.head.length none, .sl0 j 0 u.words.length none,k]]
theorem XA (u:TUnit) (hk:0<u.kids.length) (hn:nU u≤2 ^ 20) (ht : ∀ x,x∈be u→x.head.length≤2 ^ 20∧x.words.length≤2 ^ 20):kC 87 [eU u] (aa [vO u,vG])
    (fun v h=>∃ y:Nat × Nat × List TUnit,(y.2.1=u.kids.length∧y.2.2=u.kids)∧v=CM u (.slice 5 y.1 0 y.2.1 none)∧h=aa [vO u,vG,T4 u 3 4 (.slice 5 y.1 0 y.2.1 none),BV u.head,BV u.words, .row 8 true y.1 (y.2.2.map aK)]):=by
  have hkl:=ba u
  have c1:=(ht u (dX u)).1
  have c2:=(ht u (dX u)).2
  have ihk : ∀ k,k∈u.kids→kP 87 [eU k] (eU k):=fun k hk=>GC k (bH (sm (g9 hk)) hn) (fun x hx=>⟨pZ (ht x (bg hk hx)).1 (by omega),pZ (ht x (bg hk hx)).2 (by omega)⟩)
  let q1:= [ay [iV u.act,iV u.item,iV u.n,iV u.kind,aw u.label,aW (u.head.map aQ),aW (u.words.map aQ),aW (u.kids.map aK)]];let q2:= [ay [iV 0,iV 0,iV 0,iV 0,aw [],af,af,af]];let q3:=aZ 8 false 0 q2;let q4:=aZ 8 false 0 q1;let q5:=List.map aQ u.head;let q6:=aZ 4 true 0 q5;exact pB Tryz.func87 fun a=>Mg 3<|M3 (.efx true (AV.sl0 4 0 u.head.length none)<|aa [aZ 8 false 0 q1,aZ 8 false 0 q2,aZ 8 false 0 q1,aZ 8 false 0 q2,aZ 4 true 0 q5]) (HY rt rt rt rt ti) (HY (aY<|some q3) (aY<|some q4) (aY<|some q3) (aY<|some q4) ti) (YB u.head c1 q4 q3 q4 q3)<|Mg 1<|M3 (.efx true (AV.sl0 5 0 u.words.length none)<|aa [aZ 8 false 0 q1,aZ 8 false 0 q2,aZ 8 false 0 q1,aZ 8 false 0 q2,aZ 4 true 0 q5,aZ 4 true 0<|u.words.map aQ]) (xu (tR 4 true 0 5<|aX ia u.head) rt rt rt rt ti) (xu (aY<|some q6) (aY<|some q3) (aY<|some q4) (aY<|some q3) (aY<|some q4) ti) (YA u.words c2 q4 q3 q4 q3 q6)<|Kl 7 16 (ln aK u.kids)<|Mg 0<|kQ Nat Nat (List TUnit) aK u.kids [1,2,3,15,16,17] (fun a _=>([bK 2 0 0 0,bK 3 0 0 0,af,aW<|u.kids.map aK,nV u.kids.length,nV a],[aZ 8 false 0 [ay [iV u.act,iV u.item,iV u.n,iV u.kind,aw u.label,aW<|u.head.map aQ,aW<|u.words.map aQ,aW<|u.kids.map aK]],aZ 8 false 0 [ay [iV 0,iV 0,iV 0,iV 0,aw [],af,af,af]],aZ 8 false 0 [ay [iV u.act,iV u.item,iV u.n,iV u.kind,aw u.label,AV.sl0 4 0 u.head.length none,AV.sl0 5 0 u.words.length none,aW<|u.kids.map aK]],aZ 8 false 0 [ay [iV 0,iV 0,iV 0,iV 0,aw [],af,af,af]],aZ 4 true 0<|u.head.map aQ,aZ 4 true 0<|u.words.map aQ])) (fun a _ b c d=>([bK 2 0 0 0,bK 3 0 0 0,aD 6 b 0 c none,aW<|u.kids.map aK,nV u.kids.length,nV a],[aZ 8 false 0 [ay [iV u.act,iV u.item,iV u.n,iV u.kind,aw u.label,aW<|u.head.map aQ,aW<|u.words.map aQ,aW<|u.kids.map aK]],aZ 8 false 0 [ay [iV 0,iV 0,iV 0,iV 0,aw [],af,af,af]],aZ 8 false 0 [ay [iV u.act,iV u.item,iV u.n,iV u.kind,aw u.label,AV.sl0 4 0 u.head.length none,AV.sl0 5 0 u.words.length none,aW<|u.kids.map aK]],aZ 8 false 0 [ay [iV 0,iV 0,iV 0,iV 0,aw [],af,af,af]],aZ 4 true 0<|u.head.map aQ,aZ 4 true 0<|u.words.map aQ,aZ 8 true b<|d.map aK])) (fun a=>a=u.kids) (fun a _ b c=>b=c.length∧(0:Nat)<c.length∧c++a=u.kids∧c.length+a.length=u.kids.length) (by rfl) (fun _ _ _ _ _ a _=>Kh 0 a<|Mg 4<|Mw .abs (sA:False)) (fun a _ _ b c d _ e f g _ i _=>have i:=(i).trans<|congrArg some<|aI c;have b:=cD (J:=fun a _=>a=u.kids) (a:=()) f b;Kt 0 g<|Mx i<|Kp 4 (ihk c gR)<|K1 1 (.obj 7<|aZ 8 true 0<|List.map aK [c]) (congrArg (aZ 8 true 0)<|S0 (f:=aK) (g:=Go.Ev.eU) (ws:=[c]) aI)<|Kl 1 26 (dg a)<|Mg 0<|Mw (.ren [0,1,2,3,4,5,7,6] [4,5,7] [1,2,3,15,16,17]<|.frz 7 [1,2,3,15,16,17] .fin)<|HY (tS 4 true 0<|aX ia u.head) (tS 4 true 0<|aX ia u.words) (tS 8 true 0<|aX gH [c]) (Yu (tR 8 true 0 7<|aX gH [c]) (tR 4 true 0 7<|aX ia u.words) (tR 4 true 0 7<|aX ia u.head) rt rt rt rt ti)<|e 0 1 [c]<|by (refine ⟨rfl,by simp,?_,?_⟩ <;> (rw [← b]) <;> (first | rfl | grind))) (fun _ _ b c d _ _ _ e _=>Kh 0 e<|Mg 4<|Mw (.ren [0,1,3,4,5,6,2] [4,5,6] [2]<|.frz 6 [2] .fin)<|HY (tS 4 true 0<|aX ia u.head) (tS 4 true 0<|aX ia u.words) (tS 8 true b<|aX gH d) (Kz (tR 8 true b 6<|aX gH d) (tR 4 true 0 6<|aX ia u.words) (tR 4 true 0 6<|aX ia u.head) rt rt rt ti)<|a (b,c,d) sA) fun a _ b c d _ e f g _ i j l _ n _=>have n:=(n).trans<|congrArg some<|aI f;have e:=cD (J:=fun a b=>b.2.1=b.2.2.length∧(0:Nat)<b.2.2.length∧b.2.2++a=u.kids∧b.2.2.length+a.length=u.kids.length) (a:=(b,c,d)) j e;Kt 0 l<|Mx n<|Kp 4 (ihk f gR)<|K1 0 .app (bT (aY b) (sA:c=(d.map aK).length) (by (refine aA (m:=2 ^ 21) ?_ ?_ ?_ <;> omega):small (c+1) 120=true))<|M1 (.obj 6<|aZ 8 true (b+1)<|(d++ [f]).map aK) (congrArg (aZ 8 true<|b+1)<|xn (f:=aK) (g:=Go.Ev.eU) (l:=d) (ws:=[f]) aI)<|Kl 1 26 (dg a)<|K1 0 (.frz 7 [1,2,3,15,16,17]) (Yu (tR 8 true (b+1) 7<|aX gH<|d++ [f]) (tR 4 true 0 7<|aX ia u.words) (tR 4 true 0 7<|aX ia u.head) rt rt rt rt ti)<|Mf<|i (b+1) (c+1) (d++ [f])<|by (refine ⟨by simp_all,by simp,?_,?_⟩ <;> first | (rw [← e.2.2.1];simp;done) | grind)
theorem XB (u:TUnit) (hk:u.kids = []) (ht : ∀ x,x∈be u→x.head.length≤2 ^ 20∧x.words.length≤2 ^ 20):kD 87 [eU u] (aa [vO u,vG]) (CM u .nils) (aa [vO u,vG,T4 u 3 4 .nils,BV u.head,BV u.words]):=by
  have c1:=(ht u (dX u)).1
  have c2:=(ht u (dX u)).2
  have hz:ar 0 (Int.ofNat u.kids.length)=false:=by rw [hk];rfl
  let q:= [ay [iV u.act,iV u.item,iV u.n,iV u.kind,aw u.label,aW (u.head.map aQ),aW (u.words.map aQ),aW (u.kids.map aK)]];let q1:= [ay [iV 0,iV 0,iV 0,iV 0,aw [],af,af,af]];let q2:= [aZ 8 false 0 q,aZ 8 false 0 q1,aZ 8 false 0 [ay [iV u.act,iV u.item,iV u.n,iV u.kind,aw u.label,AV.sl0 4 0 u.head.length none,AV.sl0 5 0 u.words.length none,aW (u.kids.map aK)]],aZ 8 false 0 q1,aZ 4 true 0 (u.head.map aQ),aZ 4 true 0 (u.words.map aQ)];let q3:=aZ 8 false 0 q1;let q4:=aZ 8 false 0 q;let q5:= [bK 2 0 0 0,bK 3 0 0 0,af,aW (u.kids.map aK),nV u.kids.length,iV 0];let q6:=List.map aQ u.head;let q7:=aZ 4 true 0 q6;exact fN Tryz.func87 fun a=>Mg 3<|M3 (.efx true (AV.sl0 4 0 u.head.length none)<|aa [aZ 8 false 0 q,aZ 8 false 0 q1,aZ 8 false 0 q,aZ 8 false 0 q1,aZ 4 true 0 q6]) (HY rt rt rt rt ti) (HY (aY<|some q3) (aY<|some q4) (aY<|some q3) (aY<|some q4) ti) (YB u.head c1 q4 q3 q4 q3)<|Mg 1<|M3 (.efx true (AV.sl0 5 0 u.words.length none)<|aa [aZ 8 false 0 q,aZ 8 false 0 q1,aZ 8 false 0 q,aZ 8 false 0 q1,aZ 4 true 0 q6,aZ 4 true 0<|u.words.map aQ]) (xu (tR 4 true 0 5<|aX ia u.head) rt rt rt rt ti) (xu (aY<|some q7) (aY<|some q3) (aY<|some q4) (aY<|some q3) (aY<|some q4) ti) (YA u.words c2 q4 q3 q4 q3 q7)<|Kl 7 16 (ln aK u.kids)<|Mg 0<|Wc [1,2,3,15,16,17] (q5,q2) True 0 ti fun _ _=>Kh 0 hz<|Mg 4<|M2 (.ren [0,1,3,4,5,2] [4,5] [2]) (tS 4 true 0<|aX ia u.head) (tS 4 true 0<|aX ia u.words)<|M1 (.frz 5 [2]) (xu (tR 4 true 0 5<|aX ia u.words) (tR 4 true 0 5<|aX ia u.head) rt rt rt ti)<|Mf a
noncomputable abbrev X9 (ep:Nat) (l:List TUnit):AObj:= .row 8 true ep (l.map aK)
theorem JR (u:TUnit) {k k':AV} (h:Le k k') (h2:cC k=true):Le (CM u k) (CM u k'):=aO (.cons (Le.refl _) (.cons (Le.refl _) (.cons (Le.refl _) (.cons (Le.refl _) (.cons (Le.refl _) (.cons (Le.refl _) (.cons (Le.refl _) (.cons h .nil)))))))) (by simp only [List.all_cons,List.all_nil,h2];rfl)
theorem Xu (u:TUnit) (hn:nU u≤2 ^ 20) (ht : ∀ x,x∈be u→x.head.length≤2 ^ 20∧x.words.length≤2 ^ 20):kC 87 [eU u] (aa [vO u,vG])
    (fun v h=>∃ ep:Nat,True∧v=CM u (.sl0 5 ep u.kids.length none)∧h=aa [vO u,vG, .dead,BV u.head,BV u.words,X9 ep u.kids]):=by
  rcases Nat.eq_zero_or_pos u.kids.length with hk | hk
  · have hk:=List.length_eq_zero_iff.1 hk
    refine aG.dead (i:=2) (IR (Ψ':=fun v h=>v=CM u (.sl0 5 0 0 none)∧h=aa [vO u,vG,T4 u 3 4 .nils,BV u.head,BV u.words,X9 0 u.kids]) (X9 0 u.kids) (XB u hk ht) fun v h' ⟨h1,h2⟩=>⟨CM u (.sl0 5 0 0 none),h1 ▸ JR u Le.sl0n rfl,rfl,?_⟩) (al 2) (by omega) fun v h' ⟨h1,h2⟩=>⟨0,trivial,by simp_all,?_⟩
    · rw [h2];kernel_rfl
    · rw [h2];kernel_rfl
  · refine aG.dead (i:=2) (aG.less (Ψ':=fun v h=>∃ ep:Nat,v=CM u (.sl0 5 ep u.kids.length none)∧h=aa [vO u,vG,T4 u 3 4 (.slice 5 ep 0 u.kids.length none),BV u.head,BV u.words,X9 ep u.kids]) (XA u hk hn ht) fun v h' ⟨y,⟨e1,e2⟩,h1,h2⟩=>⟨CM u (.sl0 5 y.1 u.kids.length none),?_,y.1,rfl,?_⟩) (al 2) (by omega) fun v h' ⟨ep,h1,h2⟩=>⟨ep,trivial,h1,?_⟩
    · rw [h1,e1];exact JR u Le.sl0 rfl
    · simp_all
    · rw [h2];kernel_rfl
/-- The first 'i' elements changed by 'f'. -/
def kK {α:Type} (f:α→α) (l:List α) (i:Nat):List α:=(l.take i).map f++l.drop i
theorem vV {α:Type} {f:α→α} {l:List α} {i:Nat} : (kK f l i).length=l.length:=by
  grind [kK]
theorem vY {α:Type} {f:α→α} {l:List α} {i:Nat} (h:l.length≤i):kK f l i=l.map f:=by
  grind [kK, List.take_of_length_le]
theorem yS {α:Type} [Inhabited α] {f:α→α} {l:List α} {i:Nat} (h:i<l.length):gD (kK f l i) i=gD l i:=by
  have e:((l.take i).map f).length=i:=by grind
  simp_all [kK, gD, pK]
theorem BI {α:Type} [Inhabited α] {f:α→α} {l:List α} {i:Nat} (h:i<l.length):(kK f l i).set i (f (gD l i))=kK f l (i+1):=by
  have e:((l.take i).map f).length=i:=by grind
  have hg:gD l i=l[i]:=by unfold gD;simp_all
  unfold kK
  rw [List.set_append_right _ _ (by omega),e,Nat.sub_self,hg,Np h,List.set_cons_zero,Nr h,pQ,kE]
  rfl
theorem yR {l:List PWord} {i:Nat} (h:i<l.length):(kK gm l i).set i ⟨(gD (kK gm l i) i).text,0,0,0⟩=kK gm l (i+1):=by
  rw [yS h];exact BI h
theorem N7 : ∀ u:TUnit,nU u≤2 ^ 20→(∀ x,x∈be u→x.head.length≤2 ^ 20∧x.words.length≤2 ^ 20)→kP 342 [eU u] (eU (cA u)):=by
  refine TUnit.ind fun u ih hn ht=>?_
  have hkl:=ba u
  have c1:=(ht u (dX u)).1
  have c2:=(ht u (dX u)).2
  have hc:=Xu u hn ht
  have ihk : ∀ k,k∈u.kids→kP 342 [eU k] (eU (cA k)):=fun k hk=>ih k hk (bH (sm (g9 hk)) hn) (fun x hx=>ht x (bg hk hx))
  rw [lT]
  have rr0 b' (h:(List.map aQ (TUnit.mk 0 0 0 u.kind u.label (u.head.map gm) (u.words.map gm) (u.kids.map cA)).head)=b':=by (rw [hx1.2,vY (by (simp only [oN] at *;omega))];rfl)):=h;have rr1 b' (h:(List.map aQ (TUnit.mk 0 0 0 u.kind u.label (u.head.map gm) (u.words.map gm) (u.kids.map cA)).words)=b':=by (rw [hx2.2,vY (by (simp only [oN] at *;omega))];rfl)):=h;have rr2 b' (h:(List.map aK (TUnit.mk 0 0 0 u.kind u.label (u.head.map gm) (u.words.map gm) (u.kids.map cA)).kids)=b':=by (rw [hx3.2,vY (by (simp only [oN] at *;omega))];rfl)):=h;exact bo Tryz.func342<|Mg 2<|Mq hc fun a _=>Mg 10<|M0 (.un 2)<|Mg 7<|HU (0:Nat) u.head [1,2,4,15,16,17,22,23] (fun b c=>([bK 0 0 0 0,bK 1 0 0 0,AV.sl0 3 0 u.head.length none,iK [AV.sl0 3 0 u.head.length none,AV.sl0 4 0 u.words.length none] true,iV 2,iV 0,nV u.head.length,nV b],[aZ 8 false 0 [ay [iV 0,iV 0,iV 0,iV u.kind,aw u.label,AV.sl0 3 0 u.head.length none,AV.sl0 4 0 u.words.length none,AV.sl0 5 a u.kids.length none]],aZ 8 false 0 [ay [iV 0,iV 0,iV 0,iV 0,aw [],af,af,af]],AObj.dead,aZ 4 true 0<|c.map aQ,aZ 4 true 0<|u.words.map aQ,aZ 8 true a<|u.kids.map aK])) (fun a b=>a≤u.head.length∧b=kK gm u.head a) (fun a _=>u.head.length - a) (by exact ⟨bE _,rfl⟩) fun b c hx1 d=>have hx1:b≤u.head.length∧c=kK gm u.head b:=hx1;have :c.length=u.head.length:=(by grind [vV]);Ka 0 (Int.ofNat b) (Int.ofNat u.head.length) (fun _ _=>K1 4 .rix (et (aY 0) (sA:b<u.head.length))<|K1 0 (.rst (aQ<|gD c b)<|(c.set b<|PWord.mk (gD c b).text 0 0 0).map aQ) (bT (aY 0) (aM aQ (sA:b<(c).length))<|g0 (f:=aQ) (l:=c) (i:=b) (w:=PWord.mk (gD c b).text 0 0 0))<|Kl 0 31 (gP b)<|Kf 0<|d (b+1) (c.set b<|PWord.mk (gD c b).text 0 0 0) (by grind [yR]) gR) fun _ _=>Mg 9<|HU (0:Nat) u.words [1,2,4,15,16,17,22,23] (fun b d=>([bK 0 0 0 0,bK 1 0 0 0,AV.sl0 4 0 u.words.length none,iK [AV.sl0 3 0 u.head.length none,AV.sl0 4 0 u.words.length none] true,iV 2,iV 1,nV u.words.length,nV b],[aZ 8 false 0 [ay [iV 0,iV 0,iV 0,iV u.kind,aw u.label,AV.sl0 3 0 u.head.length none,AV.sl0 4 0 u.words.length none,AV.sl0 5 a u.kids.length none]],aZ 8 false 0 [ay [iV 0,iV 0,iV 0,iV 0,aw [],af,af,af]],AObj.dead,aZ 4 true 0<|c.map aQ,aZ 4 true 0<|d.map aQ,aZ 8 true a<|u.kids.map aK])) (fun a b=>a≤u.words.length∧b=kK gm u.words a) (fun a _=>u.words.length - a) (by exact ⟨bE _,rfl⟩) fun b d hx2 e=>have hx2:b≤u.words.length∧d=kK gm u.words b:=hx2;have :d.length=u.words.length:=(by grind [vV]);Ka 0 (Int.ofNat b) (Int.ofNat u.words.length) (fun _ _=>K1 4 .rix (et (aY 0) (sA:b<u.words.length))<|K1 0 (.rst (aQ<|gD d b)<|(d.set b<|PWord.mk (gD d b).text 0 0 0).map aQ) (bT (aY 0) (aM aQ (sA:b<(d).length))<|g0 (f:=aQ) (l:=d) (i:=b) (w:=PWord.mk (gD d b).text 0 0 0))<|Kl 0 31 (gP b)<|Kf 0<|e (b+1) (d.set b<|PWord.mk (gD d b).text 0 0 0) (by grind [yR]) gR) fun _ _=>Mg 7<|HU (0:Nat) u.kids [1,2,35,36] (fun b e=>([bK 0 0 0 0,bK 1 0 0 0,nV u.kids.length,nV b],[aZ 8 false 0 [ay [iV 0,iV 0,iV 0,iV u.kind,aw u.label,AV.sl0 3 0 u.head.length none,AV.sl0 4 0 u.words.length none,AV.sl0 5 a u.kids.length none]],aZ 8 false 0 [ay [iV 0,iV 0,iV 0,iV 0,aw [],af,af,af]],AObj.dead,aZ 4 true 0<|c.map aQ,aZ 4 true 0<|d.map aQ,aZ 8 true a<|e.map aK])) (fun a b=>a≤u.kids.length∧b=kK cA u.kids a) (fun a _=>u.kids.length - a) (by exact ⟨bE _,rfl⟩) fun b e hx3 f=>have hx3:b≤u.kids.length∧e=kK cA u.kids b:=hx3;have :e.length=u.kids.length:=(by grind [vV]);have g:b<u.kids.length→kP (342:FuncId) [eU (gD e b)] (eU (cA (gD e b))):=fun h=>ihk _ (by grind [yS, iw]);Ka 0 (Int.ofNat b) (Int.ofNat u.kids.length) (fun _ _=>K1 7 .rix (et (aY a) (sA:b<u.kids.length))<|Mr (et (aY a)<|qr aK (g:=Go.Ev.eU) aI (sA:b<(e).length))<|Mp (g sA)<|M1 .rix (et (aY a) (sA:b<u.kids.length))<|M3 (.rst (ay [iV (gD e b).act,iV (gD e b).item,iV (gD e b).n,iV (gD e b).kind,aw (gD e b).label,aW<|List.map aQ (gD e b).head,aW<|List.map aQ (gD e b).words,aW<|List.map aK (gD e b).kids])<|(e.set b<|cA<|gD e b).map aK) rt (eC (tR 8 true a 6<|aX gH e) rt) (bT (aY a) (qr aK (g:=Go.Ev.eU) aI (sA:b<(e).length))<|CF (f:=aK) (g:=Go.Ev.eU) aI (l:=e) (i:=b) (w:=cA<|gD e b))<|Kl 0 49 (gP b)<|Kf 0<|f (b+1) (e.set b<|cA<|gD e b) (by grind [yS, BI]) gR) fun _ _=>M2 (.fza 0 7 5 [1,2]<|e.map aK) (xu (tR 4 true 0 5<|aX ia d) (tR 4 true 0 5<|aX ia c) rt rt rt ti) (bT (aY a) (tA aK e u.kids.length (oA:(e).length=u.kids.length))<|aX gH e)<|M2 (.fza 0 6 4 [1,2]<|d.map aQ) (HY (tR 4 true 0 4<|aX ia c) rt rt rt ti) (bT (aY 0) (tA aQ d u.words.length (oA:(d).length=u.words.length))<|aX ia d)<|M2 (.fza 0 5 3 [1,2]<|c.map aQ) (j4 rt rt rt ti) (bT (aY 0) (tA aQ c u.head.length (oA:(c).length=u.head.length))<|aX ia c)<|Kf 1 (aO (lc<|lc<|lc<|lc<|lc<|.cons (cJ<|rr0<|c.map aQ)<|.cons (cJ<|rr1<|d.map aQ)<|.cons (cJ<|rr2<|e.map aK) .nil)<|by kernel_rfl:Le _ (AV.agg [iV 0,iV 0,iV 0,iV u.kind,AV.str u.label,AV.ls (c.map aQ),AV.ls (d.map aQ),AV.ls (e.map aK)]))
theorem Pq:Go.Proofs.Builder.Extra Tryz.prog Tryz.ljoin_ren:=by
  repeat' (first | kernel_rfl | (intro w;kernel_rfl) | decide | constructor)
theorem S5 (l:List aN) (sep:aN) (h1:l.length≤140737488355328) (h2:(Lib.join l sep).length≤140737488355328):kP 299 [.ls (l.map mD), .str sep] (.str (Lib.join l sep)):=L5 (Go.Proofs.enters_of Tryz.func299 (by kernel_rfl) rfl) (fun a b c d e f g h i j k=>Go.Proofs.Any.strings_Join Go.Proofs.Tryz.ljoin Pq a b c d e f g h i j k) (fun a b c d=>Go.Proofs.Any.strings_Join_none Go.Proofs.Tryz.ljoin Pq a b c d) l sep h1 h2
theorem Xb:Go.Proofs.Builder.Extra Tryz.prog Tryz.lrep_ren:=by
  repeat' (first | kernel_rfl | (intro w;kernel_rfl) | decide | constructor)
theorem U8 (s:aN) (c:Nat) (h1:c≤9223372036854775807) (h2:s.length * c≤140737488355328):kP 368 [.str s,nV c] (.str (Lib.repeatL s c)):=EO (Go.Proofs.enters_of Tryz.func368 (by kernel_rfl) rfl) (fun a b d e f=>Go.Proofs.Any.strings_Repeat Go.Proofs.Tryz.lrep Xb a b d e f) s c h1 h2
theorem Om (s:aN) (ws:List PWord) (hw : ∀ w,w∈ws→1≤w.text.length∧w.text.length≤24) (hb:s.length+26 * ws.length≤2 ^ 40) (hn:ws.length≤2 ^ 20):kP 370 [.str s, .ls (ws.map aQ)] (.str (lh s ws)):=by
  have rr0 b' (h:(lh s ws)=b':=by first | rfl | (exact hj0.1.symm)):=h;exact bo Tryz.func370<|Kl 2 8 (ln aQ ws)<|Mg 0<|Uk (0:Nat) ws s [0,7,8,9] (fun a _ b=>([aw b,aW<|ws.map aQ,nV ws.length,nV a],[])) (fun a b c=>(ws).drop a=b∧lh c b=lh s ws∧List.length c+26 * b.length≤2 ^ 40) (fun _ a _=>a.length) (et rfl<|by first | rfl | (first | simp_all | (refine ⟨by (rw [← hj0.1,oQ];first | rw [DM h1] | rw [DL h1 h2] | rw [DI h1 h2]),?_⟩;have q:=hj0.2;simp only [lA,lC,lN] at *;omega))) fun a b c d e=>Mc b (fun a=>have b:=gJ d.1 a;have hj0:=i7 (J:=fun a b=>lh b a=lh s ws∧List.length b+26 * a.length≤2 ^ 40) (a:=c) a d.2;Kh 0 b<|Kf 1<|Le.str<|rr0 c) fun b f g=>let i:=[aZ 4 false 0 [ay [aw b.text,iV b.act,iV b.item,iV b.at_]]];have j:=gU d.1 g;have :=au j;have k:=gX (enc:=aQ) d.1 g;have hj0:=cD (J:=fun a b=>lh b a=lh s ws∧List.length b+26 * a.length≤2 ^ 40) (a:=c) g d.2;have :=hw b<|aR d.1 g;Kt 0 j<|Mx k<|Kv 3 (iI (s:=c) (u:=[32]) (H:=aa i) (by (first | first | assumption | omega | grind):(c).length+([32]).length≤2 ^ 62))<|K1 2 (.chr<|gD b.text 0) (yC (by first | omega | (simp only [oN,lM,lS] at *;omega) | (simp only [oN,lM,lS,lA,lR,lC,lN] at * <;> omega):0<(b.text).length))<|Kj 1 (Int.ofNat (gD b.text 0).toNat) 124 (fun j _=>Mt j<|Mt j<|Mt j<|MV j<|Kv 1 (iI (s:=c++ [32]) (u:=[92]) (H:=aa i) (by (first | first | assumption | omega | grind):(c++ [32]).length+([92]).length≤2 ^ 62))<|Kv 3 (iI (s:=c++ [32]++ [92]) (u:=b.text) (H:=aa i) (by (first | first | assumption | omega | grind):(c++ [32]++ [92]).length+(b.text).length≤2 ^ 62))<|Kl 1 31 (dg a)<|K1 0 (.frz 0 [0,7,8,9]) ti<|Mf<|e (a+1) f (c++ [32]++ [92]++b.text) (et (bM d.1 g)<|by first | exact ⟨rfl,hb⟩ | (refine ⟨by (rw [← hj0.1,oQ];first | rw [DM j] | rw [DL j h2] | rw [DI j h2]),?_⟩;grind))<|fw g) fun j _=>Kh 0 j<|Kh 0 j<|M1 (.chr<|gD b.text 0) (yC (by first | omega | (simp only [oN,lM,lS] at *;omega) | (simp only [oN,lM,lS,lA,lR,lC,lN] at * <;> omega):0<(b.text).length))<|Mh j<|Kw 0 j<|Mb (ae (Int.ofNat (gD b.text 0).toNat) 92) (fun k=>have :=ge k;Kv 0 (iI (s:=c++ [32]) (u:=[92]) (H:=aa i) (by (first | first | assumption | omega | grind):(c++ [32]).length+([92]).length≤2 ^ 62))<|Kv 3 (iI (s:=c++ [32]++ [92]) (u:=b.text) (H:=aa i) (by (first | first | assumption | omega | grind):(c++ [32]++ [92]).length+(b.text).length≤2 ^ 62))<|Kl 1 31 (dg a)<|K1 0 (.frz 0 [0,7,8,9]) ti<|Mf<|e (a+1) f (c++ [32]++ [92]++b.text) (et (bM d.1 g)<|by first | exact ⟨rfl,hb⟩ | (refine ⟨by (rw [← hj0.1,oQ];first | rw [DM j] | grind [DL] | rw [DI j k]),?_⟩;grind))<|fw g) fun k=>have :=wi k;Kv 2 (iI (s:=c++ [32]) (u:=b.text) (H:=aa i) (by (first | first | assumption | omega | grind):(c++ [32]).length+(b.text).length≤2 ^ 62))<|Kl 1 31 (dg a)<|K1 0 (.frz 0 [0,7,8,9]) ti<|Mf<|e (a+1) f (c++ [32]++b.text) (et (bM d.1 g)<|by first | exact ⟨rfl,hb⟩ | (refine ⟨by (rw [← hj0.1,oQ];first | rw [DM j] | rw [DL j k] | grind [DI]),?_⟩;grind))<|fw g
theorem rF {u:TUnit} (h:mV u):mV (cA u):=by
  obtain ⟨h1,h2⟩:=Lq u
  refine ⟨by rw [h1];exact h.1,fun x hx=>?_⟩
  obtain ⟨y,hy,rfl⟩:=h2 x hx
  obtain ⟨a,b,c,d,e⟩:=h.2 y hy
  rw [lT]
  refine ⟨by grind [TUnit.head],by grind [TUnit.words],c,fun w hw=>?_,fun w hw=>?_⟩
  · obtain ⟨v,hv,rfl⟩:=jd.1 hw;exact d v hv
  · obtain ⟨v,hv,rfl⟩:=jd.1 hw;exact e v hv
theorem Bw {u:TUnit} (h:rv u):mV (sN u):=by
  have e:be (sN u) = [sN u]:=by rw [dY];exact congrArg _ fu
  refine ⟨by rw [iP];exact bH (so (congrArg (1 + ·) lF)) (by omega),fun x hx=>?_⟩
  rw [e] at hx
  rw [pi.1 hx];exact h
theorem Cu (u:TUnit) (h:mV u):kP 342 [eU u] (eU (cA u)):=
  N7 u (bH h.1 (by omega)) fun x hx=>⟨bH (h.2 x hx).1 (by omega),bH (h.2 x hx).2.1 (by omega)⟩
theorem PY (u:TUnit) (d:Nat) (hd:d≤2 ^ 20) (h:rv u):kP 367 [eU u,nV d] (.bool (C9 u d)):=by
  have h1:=Cu (sN u) (Bw h)
  have h2:=xq (cA (sN u)) (rF (Bw h))
  have hz:=Vj d
  have rr0 b' (h:(C9 u d)=b':=by first | rfl | (unfold C9;simp only [aS,ak,bS, *];done)):=h;exact bo Tryz.func367<|Kn 13 (ar 8<|Int.ofNat d) (fun a=>Kt 0 (cQ a)<|Mp (aP.onArgs (.cons (aO (lc<|lc<|lc<|lc<|lc<|lc<|lc<|.cons bA .nil)<|by kernel_rfl) .nil) h1:kP 342 [ay [iV 0,iV 0,iV 0,iV u.kind,aw u.label,aW (u.head.map aQ),aW (u.words.map aQ),af]] _)<|Mt (cQ a)<|Mp h2<|MV (cQ a)<|Kf 0<|ca<|rr0<|kj<|cA<|sN u) fun a=>Mh (bO a)<|Mh (bO a)<|My (bO a)<|Ky 0<|rr0 false
theorem Vi (u:TUnit) (d:Nat) (hd:d≤2 ^ 20) (h:rv u) (hm:C9 u d=false):kP 344 [eU u,nV d] (.str (fG u d)):=by
  have h1:=PY u d hd h
  rw [hm] at h1
  have e:fG u d = []:=by unfold fG;simp_all
  rw [e]
  exact bo Tryz.func344<|Kp 3 h1<|Kf 2<|bq<|aw []
def L4 (u:TUnit) (d:Nat) (z18:aN):Prop:=(z18=bif ak (ae u.kind (0:Int)) then Lib.repeatL [(32:UInt8),(32:UInt8)] d++cP u.kind++([(32:UInt8)]++u.label) else Lib.repeatL [(32:UInt8),(32:UInt8)] d++cP u.kind)∧List.length z18≤(40:Nat)
noncomputable def L3 (u:TUnit) (d:Nat) (z18:aN):List AV × List AObj:=([AV.ptr 0 0 0 0,AV.str z18], [AObj.row 8 false 0 [AV.agg [iV u.act,iV u.item,iV u.n,iV u.kind,AV.str u.label,AV.ls (u.head.map aQ),AV.ls (u.words.map aQ),AV.ls (u.kids.map aK)]]])
def L2 (u:TUnit) (z18:aN) (z27:aN):Prop:=(z27=bif ar (0:Int) (Int.ofNat u.head.length) then lh (z18++ [(58:UInt8)]) u.head else z18)∧List.length z27≤(6700:Nat)
noncomputable def L1 (u:TUnit) (z18:aN) (z27:aN):List AV × List AObj:=([AV.ptr 0 0 0 0,AV.str z27], [AObj.row 8 false 0 [AV.agg [iV u.act,iV u.item,iV u.n,iV u.kind,AV.str u.label,AV.ls (u.head.map aQ),AV.ls (u.words.map aQ),AV.ls (u.kids.map aK)]]])
theorem Vh (u:TUnit) (d:Nat) (hd:d≤2 ^ 20) (h:rv u) (hm:C9 u d=true):kP 344 [eU u,nV d] (.str (fG u d)):=by
  have h1:=PY u d hd h
  obtain ⟨hd8,hlb,⟨hh1,hh2⟩,hw1,hw2⟩:=JH hm
  have hrl:=Lib.repeatL_length [32,32] d
  simp only [lC,lN] at hrl
  have h2:=U8 [32,32] d (by omega) (by grind)
  have hk:=wz u.kind
  have hkl:=zV u.kind
  have hp1 : ∀ s:aN,s.length≤2 ^ 14→kP 370 [.str s, .ls (u.head.map aQ)] (.str (lh s u.head)):=fun s hs=>Om s u.head hh2 (by omega) (by omega)
  have hp2 : ∀ s:aN,s.length≤2 ^ 14→kP 370 [.str s, .ls (u.words.map aQ)] (.str (lh s u.words)):=fun s hs=>Om s u.words hw2 (by omega) (by omega)
  rw [hm] at h1
  have rr0 b' (h:(fG u d)=b':=by first | rfl | (unfold fG;rw [hm];simp only [ak,cond_false];rw [← hz18.1,← hz27.1];first | (rw [h3];rfl) | (rw [h4];rfl) | (rw [h5];rfl) | (rw [h6];rfl) | (rw [h7];rfl))):=h;let q1:= [aZ 8 false 0 [ay [iV u.act,iV u.item,iV u.n,iV u.kind,aw u.label,aW (u.head.map aQ),aW (u.words.map aQ),aW (u.kids.map aK)]]];exact bo Tryz.func344<|Kp 3 h1<|Kp 2 h2<|Kp 1 hk<|Mv (iI (s:=Lib.repeatL [32,32] d) (u:=cP u.kind) (H:=AHeap.mk 1000000 Tr.nil) (by (first | first | assumption | ((try simp only [lA,lC,lN]);omega) | (simp only [lA,lC,lN] at *;omega)):(Lib.repeatL [32,32] d).length+(cP u.kind).length≤2 ^ 62))<|Mg 0<|Mj aN [2,5] (L3 u d) (L4 u d) (fun a=>Kn 2 (ae u.kind 0) (fun _=>Kv 2 (iI (s:=[32]) (u:=u.label) (H:=aa q1) (by (first | first | assumption | ((try simp only [lA,lC,lN]);omega) | (simp only [lA,lC,lN] at *;omega)):([32]).length+(u.label).length≤2 ^ 62))<|Mv (iI (s:=Lib.repeatL [32,32] d++cP u.kind) (u:=32::u.label) (H:=aa q1) (by (first | first | assumption | ((try simp only [lA,lC,lN]);omega) | (simp only [lA,lC,lN] at *;omega)):(Lib.repeatL [32,32] d++cP u.kind).length+(32::u.label).length≤2 ^ 62))<|Kf 0<|a (Lib.repeatL [32,32] d++cP u.kind++32::u.label) (by (refine ⟨by first | simp_all | (rw [h2];rfl) | (rw [h3];rfl) | (rw [h0];rfl),?_⟩;grind):(Lib.repeatL [(32:UInt8),(32:UInt8)] d++cP u.kind++(32:UInt8)::u.label=bif ak (ae u.kind (0:Int)) then Lib.repeatL [(32:UInt8),(32:UInt8)] d++cP u.kind++([(32:UInt8)]++u.label) else Lib.repeatL [(32:UInt8),(32:UInt8)] d++cP u.kind)∧(Lib.repeatL [(32:UInt8),(32:UInt8)] d++cP u.kind++(32:UInt8)::u.label).length≤40)) fun _=>Mf<|a (Lib.repeatL [32,32] d++cP u.kind) (by (refine ⟨by first | simp_all | (rw [h2];rfl) | (rw [h3];rfl) | (rw [h0];rfl),?_⟩;grind):(Lib.repeatL [(32:UInt8),(32:UInt8)] d++cP u.kind=bif ak (ae u.kind (0:Int)) then Lib.repeatL [(32:UInt8),(32:UInt8)] d++cP u.kind++([(32:UInt8)]++u.label) else Lib.repeatL [(32:UInt8),(32:UInt8)] d++cP u.kind)∧(Lib.repeatL [(32:UInt8),(32:UInt8)] d++cP u.kind).length≤40)) fun a hz18=>have hz18:(a=bif ak (ae u.kind (0:Int)) then Lib.repeatL [(32:UInt8),(32:UInt8)] d++cP u.kind++([(32:UInt8)]++u.label) else Lib.repeatL [(32:UInt8),(32:UInt8)] d++cP u.kind)∧List.length a≤40:=hz18;Mj aN [2,5] (L1 u a) (L2 u a) (fun b=>Kl 2 26 (ln aQ u.head)<|Kb 0 (ar 0<|Int.ofNat u.head.length) (fun h3=>Kv 0 (iI (s:=a) (u:=[58]) (H:=aa q1) (by (first | first | assumption | ((try simp only [lA,lC,lN]);omega) | (simp only [lA,lC,lN] at *;omega)):(a).length+([58]).length≤2 ^ 62))<|Kp 1 (hp1 (a++ [58])<|by first | assumption | ((try simp only [lA,lC,lN]);omega))<|Kf 0<|b (lh (a++ [58]) u.head) (by (refine ⟨by first | simp_all | (rw [h2];rfl) | (rw [h4];rfl) | (rw [h5];rfl),?_⟩;first | omega | (have q:=uf (fun w hw=>(hh2 w hw).2) (a++ [58]);grind)):(lh (a++ [(58:UInt8)]) u.head=bif ar (0:Int) (Int.ofNat u.head.length) then lh (a++ [(58:UInt8)]) u.head else a)∧List.length (lh (a++ [(58:UInt8)]) u.head)≤6700)) fun h3=>Mf<|b a (by (refine ⟨by first | simp_all | (rw [h2];rfl) | (rw [h4];rfl) | (rw [h5];rfl),?_⟩;first | omega | (have q:=uf (fun w hw=>(hh2 w hw).2) (a++ [58]);simp only [lA,lC,lN] at q;omega)):(a=bif ar (0:Int) (Int.ofNat u.head.length) then lh (a++ [(58:UInt8)]) u.head else a)∧List.length a≤6700)) fun b hz27=>have hz27:(b=bif ar (0:Int) (Int.ofNat u.head.length) then lh (a++ [(58:UInt8)]) u.head else a)∧List.length b≤6700:=hz27;Kl 2 35 (ln aQ u.words)<|Kb 0 (ar 0<|Int.ofNat u.words.length) (fun h4=>Kv 0 (iI (s:=b) (u:=[32,124]) (H:=aa q1) (by (first | first | assumption | ((try simp only [lA,lC,lN]);omega) | (simp only [lA,lC,lN] at *;omega)):(b).length+([32,124]).length≤2 ^ 62))<|Kp 1 (hp2 (b++ [32,124])<|by first | assumption | ((try simp only [lA,lC,lN]);omega))<|Kf 2<|Le.str<|rr0<|lh (b++ [32,124]) u.words) fun h4=>Kf 1<|Le.str<|rr0 b
theorem JP (u:TUnit) (d:Nat) (hd:d≤2 ^ 20) (h:rv u):kP 344 [eU u,nV d] (.str (fG u d)):=by
  grind [Vi, Vh]
noncomputable abbrev GR (ep n:Nat):AObj:= .row 1 false 0 [.slice 2 ep 0 n none]
noncomputable abbrev Du:AObj:= .row 1 false 0 [.func (.func 343) [] [.ptr 0 0 0 0, .ptr 1 0 0 0]]
noncomputable abbrev Ef (ep:Nat) (l:List aN):AObj:= .row 1 true ep (l.map mD)
def sV (u:TUnit) (d:Nat) (l:List aN) (x0:Nat × List TUnit × Nat × Nat × List aN):Prop:=(u.kids).drop x0.1=x0.2.1∧x0.2.2.2.1=x0.2.2.2.2.length∧x0.2.2.2.2++cS (d+(1:Nat)) x0.2.1=l++ [fG u d]++cS (d+(1:Nat)) u.kids∧x0.2.2.2.2.length+dP x0.2.1≤2 ^ 20
noncomputable def sK (u:TUnit) (d:Nat) (l:List aN) (x0:Nat × List TUnit × Nat × Nat × List aN):List AV × List AObj:=([nV d,AV.ptr 1 0 0 0,AV.ls (u.kids.map aK),nV u.kids.length,nV x0.1], [AObj.row 1 false 0 [AV.slice 2 x0.2.2.1 0 x0.2.2.2.1 none],AObj.row 1 false 0 [AV.func (Fn.func 343) [] [AV.ptr 0 0 0 0,AV.ptr 1 0 0 0]],AObj.row 1 true x0.2.2.1 (x0.2.2.2.2.map mD)])
theorem Xc : ∀ (u:TUnit) (d ep n:Nat) (l:List aN),n=l.length→l.length+nU u≤2 ^ 20→d+nU u≤2 ^ 20→(∀ x,x∈be u→rv x)→kC 343 [eU u,nV d, .ptr 0 0 0 0, .ptr 1 0 0 0] (aa [GR ep n,Du,Ef ep l])
    (fun v h=>∃ y:Nat × Nat × List aN,(y.2.1=y.2.2.length∧y.2.2=l++dS d u)∧v = .tuple []∧h=aa [GR y.1 y.2.1,Du,Ef y.1 y.2.2]):=by
  refine TUnit.ind fun u ih d ep n l hn hl hd ht=>?_
  have hq:=iP u
  have hkl:=ba u
  have hf:=JP u d (by omega) (ht u (dX u))
  have ihk : ∀ k,k∈u.kids→∀ (d ep n:Nat) (l:List aN),n=l.length→l.length+nU k≤2 ^ 20→d+nU k≤2 ^ 20→kC 343 [eU k,nV d, .ptr 0 0 0 0, .ptr 1 0 0 0] (aa [GR ep n,Du,Ef ep l])
    (fun v h=>∃ y:Nat × Nat × List aN,(y.2.1=y.2.2.length∧y.2.2=l++dS d k)∧v = .tuple []∧h=aa [GR y.1 y.2.1,Du,Ef y.1 y.2.2]):=fun k hk d ep n l a b c=>ih k hk d ep n l a b c (fun x hx=>ht x (bg hk hx))
  exact pB Tryz.func343 fun e=>Kp 3 hf<|Mg 0<|Mw (.apx ((l++ [fG u d]).map mD)<|.go 3<|.le 16 (nV u.kids.length)<|.go 0<|.frz 3 [1,3,15,16,17]<|.loop (Nat × List TUnit × Nat × Nat × List aN) [1,3,15,16,17] (sK u d l) (sV u d l) (fun e=>e.2.1.length) (0,u.kids,(ep+1,n+1,l++ [fG u d])) fun e=>.cs TUnit e.2.1 (.go 0<|.ff .fin) fun f _=>.go 0<|.tt<|.elem (eU f)<|.go 6<|.le 24 (nV<|d+1)<|.frz 3 [1,3,15,16,17,21,22,24]<|.eff (Nat × Nat × List aN) (fun _=>cj []) (fun e=>aa [GR e.1 e.2.1,Du,Ef e.1 e.2.2]) (fun g=>g.2.1=g.2.2.length∧g.2.2=e.2.2.2.2++dS (d+1) f) fun _=>.go 0<|.le 26 (nV<|e.1+1)<|.go 0 .fin)<|Y5 rt (eC (tR 1 true ep 4<|aX Io l) rt) (et (kX _ _:([aw (fG u d)]:List AV)≠ []) rt) (et (bT (aY ep) (by first | assumption | omega | simp_all | (refine aA (m:=2 ^ 31) ?_ ?_ ?_ <;> (try simp only [lM,lC,lN]) <;> omega):n=(l.map mD).length) (by first | assumption | omega | (simp only [lM];omega) | (refine aA (m:=2 ^ 31) ?_ ?_ ?_ <;> (try simp only [lM,lC,lN]) <;> omega):small (n+([AV.str (fG u d)]).length) 16=true))<|cN (f:=mD) (l:=l) (ws:=[fG u d])) (ln aK u.kids) (j4 (tR 1 true (ep+1) 3<|aX Io<|l++ [fG u d]) rt rt ti) (aY<|sK u d l (0,u.kids,(ep+1,n+1,l++ [fG u d]))) (et (rfl:List.drop 0 (u.kids)=u.kids) (by first | rfl | (first | grind | (have h1:=hj0.2.1;have h2:=hj0.2.2;rw [bc] at h2;rw [lG] at h1;exact ⟨hy1.1,(by rw [hy1.2,← h1];simp),(by rw [hy1.2,lA,ke];omega)⟩)):(n+1=(l++ [fG u d]).length∧l++ [fG u d]++cS (d+1) u.kids=l++ [fG u d]++cS (d+1) u.kids∧(l++ [fG u d]).length+dP u.kids≤2 ^ 20))) fun (f:Nat × List TUnit × Nat × Nat × List aN) (g:(sV u d l) f)=>et (fun (i:f.2.1 = [])=>have j:=gJ g.1 i;have :=i7 (J:=fun e f=>f.2.1=f.2.2.length∧f.2.2++cS (d+1) e=l++ [fG u d]++cS (d+1) u.kids∧f.2.2.length+dP e≤2 ^ 20) (a:=f.2.2) i g.2;et j<|e (f.2.2.1,f.2.2.2.1,f.2.2.2.2)<|by first | grind [wY, BM] | rfl) fun (e:TUnit) (i:List TUnit) (j:f.2.1=e::i)=>have o:=gU g.1 j;have :=au o;have p:=(gX (enc:=aK) g.1 j).trans<|congrArg some<|aI e;have :=cD (J:=fun e f=>f.2.1=f.2.2.length∧f.2.2++cS (d+1) e=l++ [fG u d]++cS (d+1) u.kids∧f.2.2.length+dP e≤2 ^ 20) (a:=f.2.2) j g.2;have q:=aR g.1 j;have r:f.2.2.2.2.length+nU e≤2 ^ 20:=(by grind [bc]);have s:d+1+nU e≤2 ^ 20:=(by have:=g9 q;omega);xu o p (gP d) (j4 (tR 1 true f.2.2.1 3<|aX Io f.2.2.2.2) rt rt ti) (ihk e q (d+1) f.2.2.1 f.2.2.2.1 f.2.2.2.2 (by first | assumption | omega | (simp only [lM];omega) | (refine aA (m:=2 ^ 31) ?_ ?_ ?_ <;> (try simp only [lM,lC,lN]) <;> omega)) r s) fun (o:Nat × Nat × List aN) (_:o.2.1=o.2.2.length∧o.2.2=f.2.2.2.2++dS (d+1) e)=>et (gP f.1)<|Nx.mk (I:=sV u d l) (m:=fun e=>e.2.1.length) (S:=sK u d l) (x:=f) (f.1+1,i,(o.1,o.2.1,o.2.2)) (et (bM g.1 j) (by first | exact ⟨by simp [hn],rfl,by simp;omega⟩ | grind [bc, lG, ke]:(o.2.1=o.2.2.length∧o.2.2++cS (d+1) i=l++ [fG u d]++cS (d+1) u.kids∧o.2.2.length+dP i≤2 ^ 20)))<|fw j
theorem Xd (u:TUnit) (d:Nat) (hl:nU u≤2 ^ 19) (hd:d+nU u≤2 ^ 20) (ht : ∀ x,x∈be u→rv x):kC 343 [eU u,nV d, .ptr 0 0 0 0, .ptr 1 0 0 0] (aa [.row 1 false 0 [.nils],Du])
    (fun v h=>∃ y:Nat × Nat × List aN,(y.2.1=y.2.2.length∧y.2.2=dS d u)∧v = .tuple []∧h=aa [GR y.1 y.2.1,Du,Ef y.1 y.2.2]):=by
  have hq:=iP u
  have hkl:=ba u
  have hf:=JP u d (by omega) (ht u (dX u))
  have ihk : ∀ k,k∈u.kids→∀ (d ep n:Nat) (l:List aN),n=l.length→l.length+nU k≤2 ^ 20→d+nU k≤2 ^ 20→kC 343 [eU k,nV d, .ptr 0 0 0 0, .ptr 1 0 0 0] (aa [GR ep n,Du,Ef ep l])
    (fun v h=>∃ y:Nat × Nat × List aN,(y.2.1=y.2.2.length∧y.2.2=l++dS d k)∧v = .tuple []∧h=aa [GR y.1 y.2.1,Du,Ef y.1 y.2.2]):=fun k hk d ep n l a b c=>Xc k d ep n l a b c (fun x hx=>ht x (bg hk hx))
  exact pB Tryz.func343 fun e=>Kp 3 hf<|Kl 5 16 (ln aK u.kids)<|Mg 0<|M0 (.ren [0,1,3,2] [] [1,3,15,16,17])<|M1 (.frz 3 [1,3,15,16,17]) (j4 rt rt rt ti)<|Uj aK u.kids (0:Nat) (1:Nat) ([fG u d]:List aN) [1,3,15,16,17] (fun e _ f g i=>([nV d,bK 1 0 0 0,aW<|u.kids.map aK,nV u.kids.length,nV e],[aZ 1 false 0 [aD 2 f 0 g none],aZ 1 false 0 [bJ (bW 343) [] [bK 0 0 0 0,bK 1 0 0 0]],aZ 1 true f<|i.map mD])) (fun e _ f g=>f=g.length∧g++cS (d+1) e= [fG u d]++cS (d+1) u.kids∧g.length+dP e≤2 ^ 20) (by first | rfl | (first | grind | (have h1:=hj0.2.1;have h2:=hj0.2.2;rw [bc] at h2;rw [lG] at h1;exact ⟨hy1.1,(by rw [hy1.2,← h1];simp),(by rw [hy1.2,lA,ke];omega)⟩))) (fun _ _ f g i _ _ _ j _=>Kh 0 j<|Mf<|e (f,g,i)<|by first | grind [wY, BM] | rfl) fun e _ f g i j m o p q r s _ t _=>have t:=(t).trans<|congrArg some<|aI o;have :=cD (J:=fun e f=>f.2.1=f.2.2.length∧f.2.2++cS (d+1) e= [fG u d]++cS (d+1) u.kids∧f.2.2.length+dP e≤2 ^ 20) (a:=(f,g,i)) r m;have j:=aR j r;have m:i.length+nU o≤2 ^ 20:=(by grind [bc]);have r:d+1+nU o≤2 ^ 20:=(by have:=g9 j;omega);Kt 0 s<|Mx t<|Kl 6 24 (gP d)<|M1 (.frz 3 [1,3,15,16,17,21,22,24]) (j4 (tR 1 true f 3<|aX Io i) rt rt ti)<|Mq (ihk o j (d+1) f g i (by first | assumption | omega) m r) fun f _=>Kl 0 26 (gP e)<|Kf 0<|q f.1 f.2.1 f.2.2<|by first | exact ⟨by simp [hl],rfl,by simp;omega⟩ | grind [bc, lG, ke]
theorem Vg (u:TUnit) (h:mV u) (hv:kj (cA u)=false):kP 298 [eU u] (.ls (([]:List aN).map mD)):=by
  have h1:=Cu u h
  have h2:=xq (cA u) (rF h)
  exact bo Tryz.func298<|Kp 2 h1<|Mp h2<|Kt 0 (cQ hv)<|Kf 0 bA
theorem Vf (u:TUnit) (h:mV u) (hv:kj (cA u)=true):kP 298 [eU u] (.ls ((dS 0 u).map mD)):=by
  have h1:=Cu u h
  have h2:=xq (cA u) (rF h)
  have h3:=Xd u 0 h.1 (by have:=h.1;omega) h.2
  have rr0 b' (h:((dS 0 u).map mD)=b':=by first | rfl | (rw [hy0.2])):=h;exact bo Tryz.func298<|Kp 2 h1<|Mp h2<|Kh 0 (bO hv)<|Mg 5<|M0 (.ren [1,2,0] [] [3,10,11])<|M1 (.frz 2 [3,10,11]) (bT rt rt ti)<|Mq h3 fun a hy0=>Mg 1<|M2 (.fsl 0 [] 2<|a.2.2.map mD) ti (bT (aY a.1) (tA mD a.2.2 a.2.1 (by first | assumption | omega:(a.2.2).length=a.2.1))<|aX Io a.2.2)<|Ml 2 (fK (a.2.2.map mD) false<|aX Io a.2.2)<|Mf<|cJ<|rr0<|a.2.2.map mD
theorem Xn (u:TUnit) (h:mV u) (hv:kj (cA u)=false):kP 243 [eU u] (.tuple [.str (xX u).1,iV (xX u).2]):=by
  have h1:=Vg u h hv
  have e:xX u=([],1):=by unfold xX;simp_all
  rw [e]
  exact bo Tryz.func243<|Kp 3 h1<|Kf 6<|bq<|cj [aw [],iV 1]
theorem Xm (u:TUnit) (h:mV u) (hv:kj (cA u)=true):kP 243 [eU u] (.tuple [.str (xX u).1,iV (xX u).2]):=by
  have h1:=Vf u h hv
  have hlen:=ke 0 u
  have hq:=iP u
  have hm:=h.1
  have hjl:=Pb (sep:= [10]) (B:=2 ^ 14) (l:=dS 0 u) (fun s hs=>zW 0 u s hs)
  rw [hlen] at hjl
  have hj2:(Lib.join (dS 0 u) [10]).length≤140737488355328:=bH hjl (bH (ec _ hm) (by grind))
  have hj3:(Lib.join (dS 0 u) [10]).length≤2 ^ 40:=bH hjl (bH (ec _ hm) (by grind))
  have hj:=S5 (dS 0 u) [10] (by omega) hj2
  have hz:ae (.ofNat (dS 0 u).length) 0=false:=by grind [Qe]
  have e:xX u=(bif ar 16384 (.ofNat (Lib.join (dS 0 u) [10]++ [10]).length) then ([],6) else (Lib.join (dS 0 u) [10]++ [10],0)):=by unfold xX;simp_all
  rw [e]
  clear e
  generalize Lib.join (dS 0 u) [10]=J at *
  cases hb:ar 16384 (.ofNat (J++ [10]).length)
  · have hb2:ar 16384 (.ofNat (J++ [10]).length)=false:=hb
    exact bo Tryz.func243<|Kp 3 h1<|Kl 2 9 (ln mD<|dS 0 u)<|Kh 0 hz<|Kp 0 hj<|Mv (iI (s:=J) (u:=[10]) (H:=aa [aZ 8 false 0 [ay [iV u.act,iV u.item,iV u.n,iV u.kind,aw u.label,aW<|u.head.map aQ,aW<|u.words.map aQ,aW<|u.kids.map aK]]]) (by (first | first | assumption | grind | omega | (simp only [lA,lC,lN] at *;omega)):(J).length+([10]).length≤2 ^ 62))<|Kh 3 hb<|Kf 2<|bq<|cj [aw<|J++ [10],iV 0]
  · have hb2:ar 16384 (.ofNat (J++ [10]).length)=true:=hb
    exact bo Tryz.func243<|Kp 3 h1<|Kl 2 9 (ln mD<|dS 0 u)<|Kh 0 hz<|Kp 0 hj<|Mv (iI (s:=J) (u:=[10]) (H:=aa [aZ 8 false 0 [ay [iV u.act,iV u.item,iV u.n,iV u.kind,aw u.label,aW<|u.head.map aQ,aW<|u.words.map aQ,aW<|u.kids.map aK]]]) (by (first | first | assumption | grind | omega | (simp only [lA,lC,lN] at *;omega)):(J).length+([10]).length≤2 ^ 62))<|Kt 3 hb<|Kf 1<|bq<|cj [aw [],iV 6]
theorem VO (u:TUnit) (h:mV u):kP 243 [eU u] (.tuple [.str (xX u).1,iV (xX u).2]):=by
  grind [Xn, Xm]
def Vp (u:TUnit):Bool:=G0 u && (ak (ae u.kind 0) && ae (xX u).2 0)
theorem Vo (u:TUnit) (h:mV u):kP 154 [eU u] (.bool (Vp u)):=by
  have q1:=VO u h
  have q2:=Wj u h
  have rr0 b' (h:(Vp u)=b':=by first | rfl | (unfold Vp;rw [h0];rfl) | (unfold Vp;rw [h0,h1];rfl) | (unfold Vp;rw [h0,h1,h2];rfl)):=h;exact bo Tryz.func154<|Kp 2 q1<|Kp 5 q2<|Kb 0 (G0 u) (fun h0=>Kt 0 h0<|Kt 0 h0<|Ku 0 h0<|Kn 0 (ae u.kind 0) (fun h1=>Kt 0 (cQ h1)<|Ku 0 (cQ h1)<|Kf 0<|ca<|rr0<|ae (xX u).2 0) fun h1=>Mh (bO h1)<|My (bO h1)<|Ky 0<|rr0 false) fun h0=>Mh h0<|Mh h0<|My h0<|Ky 2<|rr0 false
/-- What an item must be, so that the walks can count. -/
def xZ (x:PItem):Prop:=mR x∧(x.at_.length<2 ^ 40∧∀ s,s∈x.at_→s.label.length≤2 ^ 39)∧(x.to.length<2 ^ 40∧∀ s,s∈x.to→s.label.length≤2 ^ 39)∧(x.old.length<2 ^ 40∧∀ s,s∈x.old→s.length≤2 ^ 39)∧(x.new.length<2 ^ 40∧∀ s,s∈x.new→s.length≤2 ^ 39)∧x.label.length≤2 ^ 39∧x.for_.length≤2 ^ 39∧x.start.event.length≤2 ^ 39∧mV x.unit
/-- What a valid item is known to be. -/
def zb (x:PItem):Prop:=(x.kind=0∨x.kind=6→iY x.where_=true)∧(x.kind=0→Vp x.unit=true)∧(x.kind=2∨x.kind=3→pM x.old=true∧AD x.nth_=true)∧(x.kind=2∨x.kind=3∨x.kind=4→pM x.new=true)
theorem pI {l:List aN} {n:Int} (h:pL l n=true):pM l=true:=by
  simp_all [pL]
theorem UL (x:PItem) (hx:xZ x) (h0:0≤x.kind) (h6:x.kind≤6) : ∃ b,kP 46 [eI x] (.bool b)∧(b=true→zb x):=by
  obtain ⟨k,a,t,w,n,u,o,ne,l,f,s,ac,im,d,e,bs⟩:=x
  obtain ⟨hf,⟨ha,has⟩,⟨ht,hts⟩,⟨ho,hos⟩,⟨hn,hns⟩,hl,hfo,hse,hu⟩:=hx
  have hz:oO bw:=⟨by grind,by grind,by grind,trivial⟩
  have n0:(0:Nat)<2 ^ 60:=by omega
  obtain ⟨f1,f2,f3,f4,f5,f6,f7⟩:=hf
  have hff : ∀ k w n,mR ⟨k,a,t,w,n,u,o,ne,l,f,s,ac,im,d,e,bs⟩:=fun _ _ _=>⟨f1,f2,f3,f4,f5,f6,f7⟩
  have h0:0≤k:=h0
  have h6:k≤6:=h6
  have hk:k=0∨k=1∨k=2∨k=3∨k=4∨k=5∨k=6:=by omega
  rcases hk with rfl | rfl | rfl | rfl | rfl | rfl | rfl
  · refine ⟨_,ox ⟨0,a,t,w,n,u,o,ne,l,f,s,ac,im,d,e,bs⟩ (nl ⟨0,a,t,w,n,u,o,ne,l,f,s,ac,im,d,e,bs⟩ 0) 151 152 _ _ rfl rfl (T1 _) (sx _ (hff _ _ _) (wa ⟨0,a,t,w,n,u,o,ne,l,f,s,ac,im,d,e,bs⟩ (nl ⟨0,a,t,w,n,u,o,ne,l,f,s,ac,im,d,e,bs⟩ 0)) ⟨f1,n0,n0,n0,n0,f6,trivial⟩) (SR a t w n u o ne l f s ac im d e bs (Vp u) (Vo u hu)) ha has hfo hse,fun h=>?_⟩
    simp only [bV] at h
    exact ⟨fun _=>h.2.2.2.2.1,fun _=>h.2.2.2.2.2,fun q=>(by rcases q with q | q <;> cases q),fun q=>(by rcases q with q | q | q <;> cases q)⟩
  · refine ⟨_,ox ⟨1,a,t,w,n,u,o,ne,l,f,s,ac,im,d,e,bs⟩ (nl ⟨1,a,t,w,n,u,o,ne,l,f,s,ac,im,d,e,bs⟩ 1) 155 156 _ _ rfl rfl (T0 _) (sx _ (hff _ _ _) (wa ⟨1,a,t,w,n,u,o,ne,l,f,s,ac,im,d,e,bs⟩ (nl ⟨1,a,t,w,n,u,o,ne,l,f,s,ac,im,d,e,bs⟩ 1)) ⟨f1,n0,n0,n0,n0,hz,trivial⟩) (SP a t w n u o ne l f s ac im d e bs) ha has hfo hse,fun h=>?_⟩
    exact ⟨fun q=>(by rcases q with q | q <;> cases q),fun q=>(by cases q),fun q=>(by rcases q with q | q <;> cases q),fun q=>(by rcases q with q | q | q <;> cases q)⟩
  · refine ⟨_,ox ⟨2,a,t,w,n,u,o,ne,l,f,s,ac,im,d,e,bs⟩ (nl ⟨2,a,t,w,n,u,o,ne,l,f,s,ac,im,d,e,bs⟩ 2) 157 158 _ _ rfl rfl (TT _) (sx _ (hff _ _ _) (wa ⟨2,a,t,w,n,u,o,ne,l,f,s,ac,im,d,e,bs⟩ (nl ⟨2,a,t,w,n,u,o,ne,l,f,s,ac,im,d,e,bs⟩ 2)) ⟨f1,n0,f3,f4,n0,hz,trivial⟩) (SO a t w n u o ne l f s ac im d e bs ho hn hos hns) ha has hfo hse,fun h=>?_⟩
    simp only [bV] at h
    exact ⟨fun q=>(by rcases q with q | q <;> cases q),fun q=>(by cases q),fun _=>⟨pI h.2.2.2.2.1,h.2.2.2.2.2.2⟩,fun _=>pI h.2.2.2.2.2.1⟩
  · refine ⟨_,ox ⟨3,a,t,w,n,u,o,ne,l,f,s,ac,im,d,e,bs⟩ (nl ⟨3,a,t,w,n,u,o,ne,l,f,s,ac,im,d,e,bs⟩ 3) 161 162 _ _ rfl rfl (TS _) (sx _ (hff _ _ _) (wa ⟨3,a,t,w,n,u,o,ne,l,f,s,ac,im,d,e,bs⟩ (nl ⟨3,a,t,w,n,u,o,ne,l,f,s,ac,im,d,e,bs⟩ 3)) ⟨f1,n0,f3,f4,n0,hz,trivial⟩) (SN a t w n u o ne l f s ac im d e bs ho hn hos hns) ha has hfo hse,fun h=>?_⟩
    simp only [bV] at h
    exact ⟨fun q=>(by rcases q with q | q <;> cases q),fun q=>(by cases q),fun _=>⟨pI h.2.2.2.2.1,h.2.2.2.2.2.2.1⟩,fun _=>pI h.2.2.2.2.2.1⟩
  · refine ⟨_,ox ⟨4,a,t,w,n,u,o,ne,l,f,s,ac,im,d,e,bs⟩ (nl ⟨4,a,t,w,n,u,o,ne,l,f,s,ac,im,d,e,bs⟩ 4) 163 164 _ _ rfl rfl (TR _) (sx _ (hff _ _ _) (wa ⟨4,a,t,w,n,u,o,ne,l,f,s,ac,im,d,e,bs⟩ (nl ⟨4,a,t,w,n,u,o,ne,l,f,s,ac,im,d,e,bs⟩ 4)) ⟨f1,n0,n0,f4,n0,hz,trivial⟩) (SM a t w n u o ne l f s ac im d e bs hn hns) ha has hfo hse,fun h=>?_⟩
    simp only [bV] at h
    exact ⟨fun q=>(by rcases q with q | q <;> cases q),fun q=>(by cases q),fun q=>(by rcases q with q | q <;> cases q),fun _=>pI h.2.2.2.2⟩
  · refine ⟨_,ox ⟨5,a,t,w,n,u,o,ne,l,f,s,ac,im,d,e,bs⟩ (nl ⟨5,a,t,w,n,u,o,ne,l,f,s,ac,im,d,e,bs⟩ 5) 165 166 _ _ rfl rfl (TP _) (sx _ (hff _ _ _) (wa ⟨5,a,t,w,n,u,o,ne,l,f,s,ac,im,d,e,bs⟩ (nl ⟨5,a,t,w,n,u,o,ne,l,f,s,ac,im,d,e,bs⟩ 5)) ⟨f1,n0,n0,n0,n0,hz,trivial⟩) (SL a t w n u o ne l f s ac im d e bs hl) ha has hfo hse,fun h=>?_⟩
    exact ⟨fun q=>(by rcases q with q | q <;> cases q),fun q=>(by cases q),fun q=>(by rcases q with q | q <;> cases q),fun q=>(by rcases q with q | q | q <;> cases q)⟩
  · refine ⟨_,ox ⟨6,a,t,w,n,u,o,ne,l,f,s,ac,im,d,e,bs⟩ (nl ⟨6,a,t,w,n,u,o,ne,l,f,s,ac,im,d,e,bs⟩ 6) 168 169 _ _ rfl rfl (TO _) (sx _ (hff _ _ _) (wa ⟨6,a,t,w,n,u,o,ne,l,f,s,ac,im,d,e,bs⟩ (nl ⟨6,a,t,w,n,u,o,ne,l,f,s,ac,im,d,e,bs⟩ 6)) ⟨f1,f2,n0,n0,n0,hz,trivial⟩) (SI a t w n u o ne l f s ac im d e bs ht hts) ha has hfo hse,fun h=>?_⟩
    simp only [bV] at h
    exact ⟨fun _=>h.2.2.2.2.1,fun q=>(by cases q),fun q=>(by rcases q with q | q <;> cases q),fun q=>(by rcases q with q | q | q <;> cases q)⟩
theorem wJ {u:TUnit} (h:OkB u) : ∀ x,x∈be u→x.head.length<2 ^ 30∧x.words.length<2 ^ 30:=fun x hx=>⟨pZ (h.w x hx).1 (by omega),pZ (h.w x hx).2 (by omega)⟩
theorem CR (p:PId) (u:TUnit) (hn:nU u≤1024) : -1≤pP p u∧pP p u≤2 ^ 20:=by
  cases h:jY p u with
  | false=>rw [OE h];omega
  | true=>
    obtain ⟨q,i,h1,_,h3,h4,_⟩:=u0 u h
    have:=dD h1
    grind [ba]
theorem xo (w:Int) (u:TUnit) (p:PId) (hn:nU u≤1024) : -1≤(dz w u p).1.at_∧(dz w u p).1.at_≤2 ^ 41:=by
  have hb:=CR p u hn
  have key : ∀ n:Int,0≤n→n≤1→ -1≤(nK u p n).1.at_∧(nK u p n).1.at_≤2 ^ 41:=fun n h0 h1=>by
    unfold nK
    cases jY p u
    · exact ⟨by show (-1:Int)≤0;omega,by show (0:Int)≤_;omega⟩
    grind
  unfold dz
  cases ae w 0
  · cases ae w 1
    · grind
    · show -1≤Int.ofNat _∧Int.ofNat _≤2 ^ 41
      have:(eF p u).kids.length≤1024:=by
        cases h:cW p u with
        | true=>
          have:=dD (uS h).1
          grind [ba]
        | false=>unfold eF;rw [h];exact bE _
      grind
  simp_all
theorem vv {u:TUnit} (hu:OkB u) (p:PId):kP 48 [eU u,aV p] (.tuple [eU (eF p u), .bool (cW p u)]):=QK p u (bH hu.n (by omega)) (wJ hu)
theorem jM {u:TUnit} (hu:OkB u) (p:PId):kP 148 [eU u,aV p] (.tuple [aV (tJ p u),iV (pP p u), .bool (jY p u)]):=OB p u (bH hu.n (by omega))
theorem wW {u:TUnit} (hu:OkB u) (p:List PStep) (hp:p.length<2 ^ 40∧∀ s,s∈p→s.label.length≤2 ^ 39):kP 47 [eU u, .ls (p.map ax)] (.tuple [aV (aE u p).1,iV (aE u p).2]):=
  MY u p (Tf u p (bH hu.n (by omega)) hp.1 hp.2) (bH hu.n (by omega))
theorem J1 {u:TUnit} (hu:OkB u) (p:PId):kP 332 [eU u,aV p] (.tuple [e9 (dz 0 u p).1,iV (dz 0 u p).2]):=Pv u _ p _ (vv hu p)
theorem J0 {u:TUnit} (hu:OkB u) (p:PId):kP 335 [eU u,aV p] (.tuple [e9 (dz 1 u p).1,iV (dz 1 u p).2]):=Pw u _ p _ (vv hu p)
theorem JT {u:TUnit} (hu:OkB u) (p:PId):kP 337 [eU u,aV p] (.tuple [e9 (dz 2 u p).1,iV (dz 2 u p).2]):=Pk u p _ _ _ (jM hu p) (by have:=CR p u hu.n;omega)
theorem JS {u:TUnit} (hu:OkB u) (p:PId):kP 339 [eU u,aV p] (.tuple [e9 (dz 3 u p).1,iV (dz 3 u p).2]):=Pj u p _ _ _ (jM hu p) (by have:=CR p u hu.n;omega)
theorem vL {w:Int} (h:iY w=true):w=0∨w=1∨w=2∨w=3:=by
  unfold iY at h
  rw [bV] at h
  have h1:=gG h.1
  have h2:=gG h.2
  omega
/-- Where a unit is inserted. -/
theorem Sa {u:TUnit} (hu:OkB u) (p:List PStep) (hp:p.length<2 ^ 40∧∀ s,s∈p→s.label.length≤2 ^ 39) (w:Int) (hw:iY w=true):kP 219 [eU u, .ls (p.map ax),iV w]
    (.tuple [aV (Bi (aE u p).2 (dz w u (aE u p).1).1 (dz w u (aE u p).1).2).1.id,iV (Bi (aE u p).2 (dz w u (aE u p).1).1 (dz w u (aE u p).1).2).1.at_,iV (Bi (aE u p).2 (dz w u (aE u p).1).1 (dz w u (aE u p).1).2).2]):=by
  rcases vL hw with rfl | rfl | rfl | rfl
  · exact qn 0 _ rfl rfl u p _ _ _ _ (wW hu p hp) (J1 hu _)
  · exact qn 1 _ rfl rfl u p _ _ _ _ (wW hu p hp) (J0 hu _)
  · exact qn 2 _ rfl rfl u p _ _ _ _ (wW hu p hp) (JT hu _)
  · exact qn 3 _ rfl rfl u p _ _ _ _ (wW hu p hp) (JS hu _)
theorem VG {u:TUnit} (hu:OkB u) (p q:PId) (w:Int) (hw:iY w=true) : ∃ bs,kP 221 [eU u,aV p,aV q,iV w]
    (.tuple [e9 (nh p q (tJ p u) (pP p u) (jY p u) ((pd q u).any (bb p)) bs (dz w u q).1 (dz w u q).2).1,iV (nh p q (tJ p u) (pP p u) (jY p u) ((pd q u).any (bb p)) bs (dz w u q).1 (dz w u q).2).2]):=by
  have hb:=CR p u hu.n
  have hb : -1≤pP p u∧pP p u≤2 ^ 40:=by omega
  have hn:nU u≤2 ^ 20:=bH hu.n (by omega)
  have hal:(pd q u).length<2 ^ 40:=by
    grind [lu, pd]
  have hC:=KM (pd q u) p hal
  rcases vL hw with rfl | rfl | rfl | rfl
  · exact ⟨_,FN 0 _ rfl rfl rfl u p q _ _ _ _ _ _ _ hb (xo 0 u q hu.n) (jM hu p) (G5 q u hn) hC (J1 hu q)⟩
  · exact ⟨_,FN 1 _ rfl rfl rfl u p q _ _ _ _ _ _ _ hb (xo 1 u q hu.n) (jM hu p) (G5 q u hn) hC (J0 hu q)⟩
  · exact ⟨_,PR u p q _ _ _ _ _ _ _ hb (xo 2 u q hu.n) (jM hu p) (G5 q u hn) hC (JT hu q)⟩
  · exact ⟨_,PP u p q _ _ _ _ _ _ _ hb (xo 3 u q hu.n) (jM hu p) (G5 q u hn) hC (JS hu q)⟩
theorem F7 {B:Nat} : ∀ {l:List TUnit},(∀ x,x∈l→(m5 x).length≤B)→(l.flatMap m5).length≤B * l.length
  | [],_=>bE _
  | x::r,h=>by
    have h1:=h x fU
    have h2:=F7 (l:=r) fun y hy=>h y (fW _ hy)
    rw [List.flatMap_cons,lA,lC,Nat.mul_succ];omega
theorem N4 {u:TUnit} (h:mV u):(mI u).length≤2 ^ 29:=by
  rw [Ra]
  have h1 : ∀ x,x∈be u→(m5 x).length≤600:=fun x hx=>by
    obtain ⟨a,b,_⟩:=h.2 x hx
    grind [m5]
  have h2:=F7 h1
  have h3:(be u).length=nU u:=by grind [ld, dJ]
  rw [h3] at h2
  have:=h.1
  omega
theorem WM {e:Int} {sp:PSpot} {e2:Int} (h:(Bi e sp e2).2=0):e=0∧e2=0∧(Bi e sp e2).1=sp:=by
  unfold Bi at h ⊢
  cases h1:ae e 0 with
  | false=>rw [h1] at h;rw [show e=0 from h] at h1;cases h1
  | true=>
    rw [h1] at h
    cases h2:ae e2 0 with
    | false=>rw [h2] at h;rw [show e2=0 from h] at h2;cases h2
    | true=>exact ⟨ge h1,ge h2,rfl⟩
theorem TQ {u u2:TUnit} {te:Int} {full cf:Bool} : (L7 u te full cf u2).1=u∨(full=false∧cf=false∧(L7 u te full cf u2).1=u2):=by
  unfold L7;cases ae te 0 <;> cases full <;> cases cf <;> first | exact .inl rfl | simp_all
/-- An insertion has an outcome. -/
theorem Uo {u:TUnit} (hu:OkB u) (f:TUnit) (d:PDeed) (hd:xZ d.it) (hg:zb d.it) (hk:d.it.kind=0) : ∃ r:pe,kP 73 [eU u,eU f,az d] (eu r)∧OkB r.1:=by
  have hw:=hg.1 (.inl hk)
  have hD:=Qp u d.it _ _ _ (by rw [hk];rfl) (Sa hu d.it.at_ hd.2.1 d.it.where_ hw)
  cases he:ae (Bi (aE u d.it.at_).2 (dz d.it.where_ u (aE u d.it.at_).1).1 (dz d.it.where_ u (aE u d.it.at_).1).2).2 0 with
  | false=>exact ⟨(u,_),TX u f d _ _ _ he hD,hu⟩
  | true=>
    have e0:=ge he
    obtain ⟨e1,e2,e3⟩:=WM e0
    obtain ⟨n,n1,n2,n3⟩:=Fa hu (qj e1) e2
    rw [e0,e3,n1] at hD
    have ht:=hd.2.2.2.2.2.2.2.2
    have hS:=OZ d.act d.item d.it.unit (bH ht.1 (by omega)) (N4 ht) (fun x hx=>⟨bH (ht.2 x hx).1 (by omega),bH (ht.2 x hx).2.1 (by omega)⟩)
    have hsn:=OX d.act d.item d.it.unit 0 0
    have hsi:=uF d.act d.item d.it.unit 0 0
    have hsw:=Jz d.act d.item 300 d.it.unit 0 0 (fun x hx=>⟨(ht.2 x hx).1,(ht.2 x hx).2.1⟩)
    generalize cL d.act d.item d.it.unit 0 0=X at *
    have hn:=hu.n
    have hm:=ht.1
    have hX:nU X≤2 ^ 19:=by omega
    have hkp:(eF (dz d.it.where_ u (aE u d.it.at_).1).1.id u).kids.length<2 ^ 40:=by
      cases h:cW (dz d.it.where_ u (aE u d.it.at_).1).1.id u with
      | true=>have:=dD (uS h).1;grind [ba]
      | false=>unfold eF;rw [h];exact pZ (bE 0) (by omega)
    have hiu:(dJ u).length<2 ^ 40:=by grind [ld]
    have hix:(dJ X).length<2 ^ 40:=by grind [ld]
    refine ⟨_,S7 u f _ X _ d _ n (nU u) (nU X) _ _ _ _ (dJ u) (dJ X) (by omega) (by omega) hD (vv hu _) hS (yZ _ X hkp) (KC u X _ (by omega) (by omega)) (Di u (by omega)) (Di X (by omega)) (PG u (by omega)) (PG X (by omega)) (Y7 (dJ X) (dJ u) hiu hix) (NE _ n X u (by omega) (wJ hu) n3),?_⟩
    rcases TQ (u:=u) (u2:=dQ (dz d.it.where_ u (aE u d.it.at_).1).1.id (dI n X) u) (te:=Cs (eF (dz d.it.where_ u (aE u d.it.at_).1).1.id u) X) (full:=ak (ar (Int.ofNat (eF (dz d.it.where_ u (aE u d.it.at_).1).1.id u).kids.length) 64) || (QC u (dz d.it.where_ u (aE u d.it.at_).1).1.id X || ar 1024 (Int.ofNat (nU u+nU X)))) (cf:=(dJ X).any fun i=>(dJ u).any (bb i)) with q | ⟨q1,q2,q3⟩
    · simp_all
    · rw [q3]
      rw [A7,A7] at q1
      have q4:=aB q1.2.2
      simp only [oN] at q4
      refine hu.ins (by grind [OJ]) (fun p hp hq=>?_) (by omega) hsw
      grind [kg]
/-- A unit is taken away. -/
theorem Ue {u:TUnit} (hu:OkB u) {p:PId} (hp:jY p u=true) : ∃ q i,q∈be u∧tJ p u=bY q∧pP p u=Int.ofNat i∧i<q.kids.length∧bY (gD q.kids i)=p∧kP 141 [eU u,aV p] (eU (dQ (bY q) (iQ i) u)):=by
  obtain ⟨q,i,h1,h2,h3,h4,h5⟩:=u0 u hp
  have hP:=jM hu p
  rw [h2,h3,hp] at hP
  exact ⟨q,i,h1,h2,h3,h4,h5,xN u _ p _ i hP (NG (bY q) i u (bH hu.n (by omega)) (wJ hu) fun v hv hid=>by rw [hu.uni hv h1 ((gq _ v).1 hid)];omega)⟩
theorem WE {u x:TUnit} (hu:OkB u) (d:PDeed) (hp:jY (bY x) u=true) : ∃ r:pe,kP 74 [eU u,eU x,az d] (eu r)∧OkB r.1:=by
  obtain ⟨q,i,h1,h2,h3,h4,h5,h6⟩:=Ue hu hp
  exact ⟨_,SY u x _ d h6,(hu.del h1 h4).1⟩
theorem CN (l:List PWord):(uR l).length≤256:=by
  unfold uR
  cases h:ar 256 (Int.ofNat l.length) with
  | true=>simp_all
  | false=>have:=aB h;grind
theorem Od (a b:Int) (w:List PWord) (old new:List aN) (n:Int):(EN a b w old new n).1.length≤256:=by
  unfold EN
  cases ae (Int.ofNat old.length) 0
  · cases ae (Int.ofNat (nc (tz (bN w) old) n).length) 0
    · exact CN _
    simp_all
  simp_all
theorem S8 (a b:Int) (w:List PWord) (part new:List aN) (n:Int):(DY a b w part new n).1.length≤256:=by
  unfold DY
  cases (ae (Int.ofNat new.length) 0 || (ae (Int.ofNat part.length) 0 && ak (ae n 0)))
  · cases ae (Int.ofNat part.length) 0
    · cases ae (Int.ofNat (nc (tz (bN w) part) n).length) 0
      · exact CN _
      simp_all
    · exact CN _
  simp_all
theorem sT {l:List aN} (h:pM l=true):l.length≤256:=by
  unfold pM at h
  rw [bV] at h
  have:=gG h.1
  grind
theorem JE {n:Int} (h:AD n=true):0≤n∧n≤256:=by
  simp_all [AD, gG]
theorem Bs {u:TUnit} (hu:OkB u) (q:PId) {l:List PWord} (hl:l.length≤300):OkB (dQ q (lr l) u):=hu.keep (fun _=>⟨rfl,rfl⟩) fun v hv=>⟨(hu.w v hv).1,hl⟩
theorem O5 {u:TUnit} (hu:OkB u) (q:PId) {l:List PWord} (hl:l.length≤300):OkB (dQ q (zw l) u):=hu.keep (fun _=>⟨rfl,rfl⟩) fun v hv=>⟨hl,(hu.w v hv).2⟩
theorem LH {u:TUnit} (hu:OkB u) (q:PId) (s:aN):OkB (dQ q (qC s) u):=hu.keep (fun _=>⟨rfl,rfl⟩) fun v hv=>hu.w v hv
theorem I6 {u u2:TUnit} {e:Int} (h:OkB u) (h2:OkB u2):OkB (Ex u e u2).1:=by
  grind [Ex]
theorem Wm {u x:TUnit} (hu:OkB u) (hx:x∈be u) (d:PDeed) (hg:zb d.it) (hk:d.it.kind=2) : ∃ r:pe,kP 75 [eU u,eU x,az d] (eu r)∧OkB r.1:=by
  obtain ⟨h1,h2⟩:=hg.2.2.1 (.inl hk)
  have h3:=sT h1
  have h4:=sT (hg.2.2.2 (.inl hk))
  obtain ⟨h5,h6⟩:=JE h2
  have h7:=(hu.w x hx).2
  have hR:=SV d.act d.item x.words d.it.old d.it.new d.it.nth_ (by omega) (by omega) (by omega) h5 (by omega) (lp h5)
  exact ⟨_,Rs u x _ d _ _ hR (Nu (bY x) _ u (bH hu.n (by omega)) (wJ hu)),I6 hu (Bs hu _ (bH (Od ..) (by omega)))⟩
theorem WI {u x:TUnit} (hu:OkB u) (hx:x∈be u) (d:PDeed) (hg:zb d.it) (hk:d.it.kind=3) : ∃ r:pe,kP 76 [eU u,eU x,az d] (eu r)∧OkB r.1:=by
  obtain ⟨h1,h2⟩:=hg.2.2.1 (.inr hk)
  have h3:=sT h1
  have h4:=sT (hg.2.2.2 (.inr (.inl hk)))
  obtain ⟨h5,h6⟩:=JE h2
  have h7:=(hu.w x hx).2
  have hR:=Xe d.act d.item x.words d.it.old d.it.new d.it.nth_ (by omega) (by omega) (by omega) h5 (by omega)
  exact ⟨_,Sj u x _ d _ _ hR (NB (bY x) _ u (bH hu.n (by omega)) (wJ hu)),I6 hu (Bs hu _ (bH (S8 ..) (by omega)))⟩
theorem Xl {u x:TUnit} (hu:OkB u) (d:PDeed) (hg:zb d.it) (hk:d.it.kind=4) : ∃ r:pe,kP 77 [eU u,eU x,az d] (eu r)∧OkB r.1:=by
  have h4:=sT (hg.2.2.2 (.inr (.inr hk)))
  have hM:=xm d.it.new d.act d.item 0 (by omega) (by omega)
  exact ⟨_,Tk u x _ d _ hM (NF (bY x) _ u (bH hu.n (by omega)) (wJ hu)),O5 hu _ (by grind [fC])⟩
theorem Ul {u:TUnit} (hu:OkB u) (p:PId):(eF p u).kids.length<2 ^ 40:=by
  have hn:=hu.n
  cases h:cW p u with
  | true=>have:=dD (uS h).1;grind [ba]
  | false=>unfold eF;rw [h];exact pZ (bE 0) (by omega)
theorem WG {u x:TUnit} (hu:OkB u) (d:PDeed) : ∃ r:pe,kP 78 [eU u,eU x,az d] (eu r)∧OkB r.1:=by
  refine ⟨_,Sq u x _ _ d _ _ _ _ _ (jM hu (bY x)) (vv hu _) (yZ _ _ (Ul hu _)) (NA (bY x) d u (bH hu.n (by omega)) (wJ hu)),?_⟩
  grind [Sz, LH]
theorem SB {u u2:TUnit} {te:Int} {full:Bool} (h:OkB u) (h2:OkB u2):OkB (PK u te full u2).1:=by
  grind [PK]
theorem Xs {e2 e3:Int} {sp:PSpot} (h:(Gp 0 e2 sp e3).2=0):e2=0∧e3=0∧(Gp 0 e2 sp e3).1=sp:=by
  unfold Gp at h ⊢
  rw [show ae 0 0=true from rfl] at h ⊢
  simp only [cond_true] at h ⊢
  cases h1:ae e2 0 with
  | false=>rw [h1] at h;rw [show e2=0 from h] at h1;cases h1
  | true=>
    rw [h1] at h
    cases h2:ae e3 0 with
    | false=>rw [h2] at h;rw [show e3=0 from h] at h2;cases h2
    | true=>exact ⟨ge h1,ge h2,rfl⟩
/-- A move has an outcome. -/
theorem Xw {u x:TUnit} (hu:OkB u) (hx:x∈be u) (d:PDeed) (hd:xZ d.it) (hg:zb d.it) (hk:d.it.kind=6) (h0:(aE u d.it.at_).2=0) (hid:(aE u d.it.at_).1=bY x) (hp:jY (bY x) u=true) : ∃ r:pe,kP 79 [eU u,eU x,az d] (eu r)∧OkB r.1:=by
  have hw:=hg.1 (.inr hk)
  have hF:=wW hu d.it.at_ hd.2.1
  rw [h0,hid] at hF
  obtain ⟨bs,hG⟩:=VG hu (bY x) (aE u d.it.to).1 d.it.where_ hw
  obtain ⟨q,i,h1,h2,h3,h4,h5,h6⟩:=Ue hu hp
  have hD:=Qo u d.it _ _ _ _ _ _ (by rw [hk];rfl) (by rw [hk];rfl) hw hF (wW hu d.it.to hd.2.2.1) hG
  rw [h2,h3,hp] at hD
  cases he:ae (Gp 0 (aE u d.it.to).2 (nh (bY x) (aE u d.it.to).1 (bY q) (Int.ofNat i) true ((pd (aE u d.it.to).1 u).any (bb (bY x))) bs (dz d.it.where_ u (aE u d.it.to).1).1 (dz d.it.where_ u (aE u d.it.to).1).2).1 (nh (bY x) (aE u d.it.to).1 (bY q) (Int.ofNat i) true ((pd (aE u d.it.to).1 u).any (bb (bY x))) bs (dz d.it.where_ u (aE u d.it.to).1).1 (dz d.it.where_ u (aE u d.it.to).1).2).2).2 0 with
  | false=>exact ⟨(u,_),SC u x d _ _ _ he hD,hu⟩
  | true=>
    have e0:=ge he
    obtain ⟨e1,e2,e3⟩:=Xs e0
    obtain ⟨n,n1,n2,n3⟩:=PO hu h1 h4 (qj e1) e2
    rw [e0,e3,n1] at hD
    obtain ⟨hr,hpm⟩:=hu.del h1 h4
    have hkx:gD q.kids i=x:=hu.uni (iE h1 (bg (iw h4) (dX _))) hx h5
    rw [hkx] at hpm
    have hnr:=hr.n
    have hnx:=dD hx
    have hn:=hu.n
    refine ⟨_,SA u x _ _ _ d _ _ n _ _ _ _ _ hD (jM hu (bY x)) h6 (vv hr _) (yZ _ x (Ul hr _)) (KC _ x _ (by omega) (by omega)) (NC _ n x _ (by omega) (wJ hr) n3),SB hu ?_⟩
    have hnd:=D9.1 (hpm.nodup_iff.1 hu.nd)
    have hlen:=hpm.length_eq
    rw [lA,← ld,← ld,← ld] at hlen
    exact hr.ins hnd.2.1 (fun p hp hq=>hnd.2.2 p hq p hp rfl) (by omega) (fun y hy=>hu.w y (iE hx hy))
/-- An item's doer. -/
theorem Yi {u x:TUnit} (hu:OkB u) (hx:x∈be u) (d:PDeed) (hd:xZ d.it) (hg:zb d.it) (hk0:0≤d.it.kind) (hk6:d.it.kind≤6) (h0:(aE u d.it.at_).2=0) (hid:(aE u d.it.at_).1=bY x) (hp:jY (bY x) u=true) : ∃ r:pe,kP (UA d.it.kind) [eU u,eU x,az d] (eu r)∧OkB r.1:=by
  have hk:d.it.kind=0∨d.it.kind=1∨d.it.kind=2∨d.it.kind=3∨d.it.kind=4∨d.it.kind=5∨d.it.kind=6:=by omega
  rcases hk with h | h | h | h | h | h | h <;> rw [h]
  · exact Uo hu x d hd hg h
  · exact WE hu d hp
  · exact Wm hu hx d hg h
  · exact WI hu hx d hg h
  · exact Xl hu d hg h
  · exact WG hu d
  · exact Xw hu hx d hd hg h h0 hid hp
/-- An amendment has one outcome. -/
theorem T7 {u:TUnit} (hu:OkB u) (d:PDeed) (hd:xZ d.it) (hk0:0≤d.it.kind) (hk6:d.it.kind≤6) : ∃ r:pe,kP 26 [eU u,az d] (eu r)∧OkB r.1:=by
  obtain ⟨b,hV,hg⟩:=UL d.it hd hk0 hk6
  have hl:=Ve d hk0 hk6
  cases b with
  | false=>grind [T8]
  | true=>
    have hg:=hg rfl
    have hF:=wW hu d.it.at_ hd.2.1
    cases he:ae (aE u d.it.at_).2 0 with
    | false=>exact ⟨_,UQ u d _ _ _ hl hV he hF,hu⟩
    | true=>
      have e0:=ge he
      have hh:=qj e0
      obtain ⟨hx,hxi⟩:=uS hh
      rw [e0] at hF
      have hX:=vv hu (aE u d.it.at_).1
      cases hi:(ae (aE u d.it.at_).1.a u.act && (ae (aE u d.it.at_).1.i u.item && ae (aE u d.it.at_).1.n u.n)) with
      | true=>
        cases hk:ae d.it.kind 0 with
        | true=>
          have hk:=ge hk
          obtain ⟨r,h1,h2⟩:=Uo hu (eF (aE u d.it.at_).1 u) d hd hg hk
          exact ⟨r,RV u _ d _ _ _ r hl hV hF hX hi (by omega) (by rw [hk];exact h1),h2⟩
        | false=>exact ⟨_,T9 u _ d _ _ _ _ _ hl hV hF hX hi hk (wW hu d.it.to hd.2.2.1),hu⟩
      | false=>
        have hni:fP (aE u d.it.at_).1 u=false:=by
          cases q:fP (aE u d.it.at_).1 u with
          | false=>rfl
          | true=>
            have:=(gq _ u).1 q
            rw [← this] at hi
            have e:(ae (bY u).a u.act && (ae (bY u).i u.item && ae (bY u).n u.n))=true:=by
              show (ae u.act u.act && (ae u.item u.item && ae u.n u.n))=true
              rw [aT,aT,aT];rfl
            simp_all
        grind [Yi, Tv, UZ]
theorem Rw {k:Int} (h:rY k=true):0≤k∧k≤6:=by
  simp_all [rY, gG]
/-- What an amendment makes of a book: the one outcome there is. -/
structure AppOk (u:TUnit) (d:PDeed):Prop where
  b:OkB u
  i:xZ d.it
  a:rY d.it.kind=true
theorem RJ {u:TUnit} {d:PDeed} (h:AppOk u d) : ∃ r:pe,kP 26 [eU u,az d] (eu r)∧OkB r.1:=T7 h.b d h.i (Rw h.a).1 (Rw h.a).2
open Classical in
noncomputable def kn (u:TUnit) (d:PDeed):pe:=if h:AppOk u d then (RJ h).choose else (u,0)
theorem rQ {u:TUnit} {d:PDeed} (h:AppOk u d):kP 26 [eU u,az d] (.tuple [eU (kn u d).1,iV (kn u d).2])∧OkB (kn u d).1:=by
  unfold kn;rw [dif_pos h];exact (RJ h).choose_spec
theorem UE (u:TUnit) (d:PDeed) (h1:OkB u) (h2:xZ d.it) (h3:rY d.it.kind=true):kP 26 [eU u,az d] (.tuple [eU (kn u d).1,iV (kn u d).2]):=(rQ ⟨h1,h2,h3⟩).1
noncomputable def sI (u:TUnit) (d:PDeed):TUnit:=bif rY d.it.kind then (kn u d).1 else u
noncomputable def Fq (u:TUnit) (d:PDeed):List PFail:=bif rY d.it.kind then (bif ae (kn u d).2 0 then [] else [⟨d.act,d.item,(kn u d).2⟩]) else []
theorem OQ {u:TUnit} {d:PDeed} (h1:OkB u) (h2:xZ d.it):OkB (sI u d):=by
  unfold sI
  cases h:rY d.it.kind with
  | false=>grind
  | true=>exact (rQ ⟨h1,h2,h⟩).2
noncomputable def dU:TUnit→List PDeed→TUnit
  | u, []=>u
  | u,d::r=>dU (sI u d) r
noncomputable def ed:TUnit→List PDeed→List PFail
  | _, []=> []
  | u,d::r=>Fq u d++ed (sI u d) r
theorem GT : ∀ {l:List PDeed} {u:TUnit},OkB u→(∀ d,d∈l→xZ d.it)→OkB (dU u l)
  | [],_,h,_=>h
  | d::r,u,h,hl=>GT (l:=r) (u:=sI u d) (OQ h (hl d (fU ..))) fun x hx=>hl x (fW _ hx)
theorem va : ∀ (l:List PDeed) (u:TUnit),(ed u l).length≤l.length
  | [],_=>al _
  | d::r,u=>by
    have:=va r (sI u d)
    grind [Fq, ed]
theorem Wu {u:TUnit} {d:PDeed} {r:List PDeed} (h:rY d.it.kind=false):dU u (d::r)=dU u r∧ed u (d::r)=ed u r:=by
  rw [dU,ed,sI,Fq,h];simp_all
theorem RR {u:TUnit} {d:PDeed} {r:List PDeed} (h:rY d.it.kind=true) (h2:ae (kn u d).2 0=true):dU u (d::r)=dU (kn u d).1 r∧ed u (d::r)=ed (kn u d).1 r:=by
  rw [dU,ed,sI,Fq,h,h2];simp_all
theorem RP {u:TUnit} {d:PDeed} {r:List PDeed} (h:rY d.it.kind=true) (h2:ae (kn u d).2 0=false):dU u (d::r)=dU (kn u d).1 r∧ed u (d::r)=⟨d.act,d.item,(kn u d).2⟩::ed (kn u d).1 r:=by
  rw [dU,ed,sI,Fq,h,h2];simp_all
mutual
theorem Jy : ∀ (u:TUnit) (deep most:Int),mU u deep most≤most→Int.ofNat (nU u)≤mU u deep most
  | ⟨_,_,_,_,_,_,_,kids⟩,deep,most,h=>by
    rw [mU] at h ⊢
    cases hd:ar 20 deep with
    | true=>grind
    | false=>
      rw [hd] at h
      have:=Ja kids deep most 1 h
      grind [nU]
theorem Ja : ∀ (l:List TUnit) (deep most n:Int),mq l deep most n≤most→n+Int.ofNat (dP l)≤mq l deep most n
  | [],_,_,n,_=>by simp_all [mq, dP]
  | k::r,deep,most,n,h=>by
    rw [mq] at h ⊢
    cases hd:ar most n with
    | true=>rw [hd] at h;have:=au hd;grind
    | false=>
      rw [hd] at h
      have h2:=Ja r deep most _ h
      have h1:=Jy k (deep+1) (most - n) (by grind)
      grind [dP]
end
theorem EA {l:List PWord} (h:mz l=true):l.length≤300∧∀ w,w∈l→w.text.length≤100:=by
  unfold mz at h
  obtain ⟨h1,h2⟩:=ph.1 h
  refine ⟨by have:=gG h2;grind,fun w hw=>?_⟩
  have:=gG (nr.1 h1 w hw)
  grind
theorem Hk : ∀ (u:TUnit),kz u=true→∀ x,x∈be u→rv x:=by
  refine TUnit.ind fun u ih h x hx=>?_
  rw [BW] at h
  simp only [bV] at h
  obtain ⟨⟨⟨h0,h1⟩,h2⟩,h3⟩:=h
  rw [dY] at hx
  rcases fj.1 hx with rfl | hx
  · have h0:=gG h0
    simp only [oN] at h0
    have q1:=EA h1
    have q2:=EA h2
    exact ⟨q1.1,q2.1,by omega,fun w hw=>bH (q1.2 w hw) (by omega),fun w hw=>bH (q2.2 w hw) (by omega)⟩
  grind [l9]
theorem V0 {u:TUnit} {n:Nat} (h:GU u (.ofNat n)=true):nU u≤n∧∀ x,x∈be u→rv x:=by
  unfold GU at h
  obtain ⟨h1,h2⟩:=ph.1 h
  refine ⟨?_,Hk u h2⟩
  have h3:=gG h1
  have:=Jy u 0 (.ofNat n) h3
  grind
theorem O4 {x:PItem} (hf:mR x) (h:mp x=true):xZ x:=by
  rw [Dy] at h
  unfold xt at h
  simp only [bV] at h
  obtain ⟨⟨⟨⟨⟨⟨⟨⟨⟨⟨a1,a2⟩,a3⟩,a4⟩,a5⟩,a6⟩,a7⟩,a8⟩,a9⟩,a10⟩,b1,b2,b3,b4,b5⟩:=h
  have a1:=gG a1
  have a2:=gG a2
  have a3:=gG a3
  have a4:=gG a4
  have a5:=gG a5
  have a6:=gG a6
  have a7:=gG a7
  simp only [oN] at a1 a2 a3 a4 a5 a6 a7
  have hs : ∀ {l:List aN},l.all wS=true→∀ s,s∈l→s.length≤2 ^ 39:=fun h s hs=>by
    have:=gG (nr.1 h s hs);grind
  have ht : ∀ {l:List PStep},l.all wR=true→∀ s,s∈l→s.label.length≤2 ^ 39:=fun h s hs=>by
    have:=gG (nr.1 h s hs);grind
  have hu:=V0 (n:=30) a10
  exact ⟨hf,⟨by omega,ht b3⟩,⟨by omega,ht b4⟩,⟨by omega,hs b1⟩,⟨by omega,hs b2⟩,by omega,by omega,by omega,bH hu.1 (by omega),hu.2⟩
theorem Sn : ∀ (u:TUnit),nU u≤1024→(∀ x,x∈be u→x.head.length≤300∧x.words.length≤300)→oO u:=by
  refine TUnit.ind fun u ih hn hw=>?_
  have:=ba u
  obtain ⟨h1,h2⟩:=hw u (dX u)
  exact kR.2 ⟨by omega,by omega,by omega,fun k hk=>ih k hk (by have:=g9 hk;omega) fun x hx=>hw x (bg hk hx)⟩
theorem E8 {u:TUnit} (h:OkB u):oO u:=Sn u h.n h.w
theorem Ia {u v:TUnit} {l r:List PDeed} {xs:List PFail} (h:ed u l=xs++ed v r):xs.length≤l.length:=by
  grind [va]
theorem Rz (u:TUnit) (l:List PDeed) (hu:OkB u) (hl:l.length<2 ^ 30) (ho : ∀ d,d∈l→xZ d.it):kP 55 [eU u, .ls (l.map az)] (.tuple [eU (dU u l), .ls ((ed u l).map cV)]):=by
  have rr0 b' (h:((dU u l).act)=b':=by first | (rw [hj0.2.1];rfl) | (rw [hj0.2.2];rfl) | (rw [hj0.2.2.1];rfl) | (rw [hj0.2.2.2];simp only [ed,eX]) | exact aX fI _):=h;have rr1 b' (h:((dU u l).item)=b':=by first | (rw [hj0.2.1];rfl) | (rw [hj0.2.2];rfl) | (rw [hj0.2.2.1];rfl) | (rw [hj0.2.2.2];simp only [ed,eX]) | exact aX fI _):=h;have rr2 b' (h:((dU u l).n)=b':=by first | (rw [hj0.2.1];rfl) | (rw [hj0.2.2];rfl) | (rw [hj0.2.2.1];rfl) | (rw [hj0.2.2.2];simp only [ed,eX]) | exact aX fI _):=h;have rr3 b' (h:((dU u l).kind)=b':=by first | (rw [hj0.2.1];rfl) | (rw [hj0.2.2];rfl) | (rw [hj0.2.2.1];rfl) | (rw [hj0.2.2.2];simp only [ed,eX]) | exact aX fI _):=h;have rr4 b' (h:((dU u l).label)=b':=by first | (rw [hj0.2.1];rfl) | (rw [hj0.2.2];rfl) | (rw [hj0.2.2.1];rfl) | (rw [hj0.2.2.2];simp only [ed,eX]) | exact aX fI _):=h;have rr5 b' (h:(List.map aQ (dU u l).head)=b':=by first | (rw [hj0.2.1];rfl) | (rw [hj0.2.2];rfl) | (rw [hj0.2.2.1];rfl) | (rw [hj0.2.2.2];simp only [ed,eX]) | exact aX fI _):=h;have rr6 b' (h:(List.map aQ (dU u l).words)=b':=by first | (rw [hj0.2.1];rfl) | (rw [hj0.2.2];rfl) | (rw [hj0.2.2.1];rfl) | (rw [hj0.2.2.2];simp only [ed,eX]) | exact aX fI _):=h;have rr7 b' (h:(List.map aK (dU u l).kids)=b':=by first | (rw [hj0.2.1];rfl) | (rw [hj0.2.2];rfl) | (rw [hj0.2.2.1];rfl) | (rw [hj0.2.2.2];simp only [ed,eX]) | exact aX fI _):=h;have rr8 b' (h:((ed u l).map cV)=b':=by first | (rw [hj0.2.1];rfl) | (rw [hj0.2.2];rfl) | (rw [hj0.2.2.1];rfl) | (rw [hj0.2.2.2];simp only [ed,eX]) | exact aX fI _):=h;exact bo Tryz.func55<|Kl 2 5 bA<|Kl 2 12 (ln az l)<|Mg 0<|XS TUnit Nat Nat (List PFail) az l u [2,4,6,11,12,13] (fun a _ b=>([bK 0 0 0 0,bK 1 0 0 0,af,aW<|l.map az,nV l.length,nV a],[aZ 8 false 0 [ay [iV b.act,iV b.item,iV b.n,iV b.kind,aw b.label,aW<|b.head.map aQ,aW<|b.words.map aQ,aW<|b.kids.map aK]],aZ 8 false 0 [ay [iV 0,iV 0,iV 0,iV 0,aw [],af,af,af]]])) (fun a _ b c e f=>([bK 0 0 0 0,bK 1 0 0 0,aD 2 c 0 e none,aW<|l.map az,nV l.length,nV a],[aZ 8 false 0 [ay [iV b.act,iV b.item,iV b.n,iV b.kind,aw b.label,aW<|b.head.map aQ,aW<|b.words.map aQ,aW<|b.kids.map aK]],aZ 8 false 0 [ay [iV 0,iV 0,iV 0,iV 0,aw [],af,af,af]],aZ 3 true c<|f.map cV])) (fun a b=>OkB b∧dU u l=dU b a∧ed u l=ed b a) (fun a b _ c e=>OkB b∧c=e.length∧dU u l=dU b a∧ed u l=e++ed b a) sA (fun _ _ a _ _ _ b hj0=>Kh 0 b<|Kl 3 5 bA<|Mf<|cp<|.cons (aO (.cons (li<|rr0 a.act)<|.cons (li<|rr1 a.item)<|.cons (li<|rr2 a.n)<|.cons (li<|rr3 a.kind)<|.cons (Le.str<|rr4 a.label)<|.cons (cJ<|rr5<|a.head.map aQ)<|.cons (cJ<|rr6<|a.words.map aQ)<|.cons (cJ<|rr7<|a.kids.map aK) .nil)<|by kernel_rfl)<|.cons (cJ<|rr8 []) .nil) (fun a _ b c _ e f g i j k _ n hj0=>have c:=ho _<|aR c j;Kt 0 k<|Mx n<|Kp 5 (II e.it.kind)<|Kn 0 (rY e.it.kind) (fun _=>Kl 0 40 (dg a)<|K1 0 (.frz 2 [2,4,6,11,12,13]) (bT rt rt ti)<|Mf<|g b<|by grind [Wu]) fun j=>Kp 1 (UE b e sA c j)<|Kc 7 (kn b e).2 0 (fun _ _=>Kl 12 40 (dg a)<|Mg 0<|M0 (.ren [0,1,4,2,3] [] [2,4,6,11,12,13])<|M1 (.frz 3 [2,4,6,11,12,13]) (j4 rt rt rt ti)<|Mf<|i (kn b e).1 0 1 [PFail.mk e.act e.item (kn b e).2]<|by exact ⟨(rQ ⟨hj0.1,c,by omega⟩).2,rfl,hj0.2.1.trans (RP (by omega) (by omega)).1,hj0.2.2.trans (RP (by omega) (by omega)).2⟩) fun _ _=>Kl 2 40 (dg a)<|K1 0 (.frz 2 [2,4,6,11,12,13]) (bT rt rt ti)<|Mf<|g (kn b e).1<|by exact ⟨(rQ ⟨hj0.1,c,by omega⟩).2,hj0.2.1.trans (RR (by omega) (by omega)).1,hj0.2.2.trans (RR (by omega) (by omega)).2⟩) (fun _ _ a b c e _ _ _ f hj0=>Kh 0 f<|Mg 3<|M2 (.fsl 2 [4] 5<|e.map cV) (bT rt rt ti) (bT (aY b) (tA cV e c (oA:(e).length=c))<|aX fI e)<|Ml 5 (fK (e.map cV) false<|aX fI e)<|Mf<|cp<|.cons (aO (.cons (li<|rr0 a.act)<|.cons (li<|rr1 a.item)<|.cons (li<|rr2 a.n)<|.cons (li<|rr3 a.kind)<|.cons (Le.str<|rr4 a.label)<|.cons (cJ<|rr5<|a.head.map aQ)<|.cons (cJ<|rr6<|a.words.map aQ)<|.cons (cJ<|rr7<|a.kids.map aK) .nil)<|by kernel_rfl)<|.cons (cJ<|rr8<|e.map cV) .nil) fun a _ b c e f g _ i j _ k n o _ p hj0=>have g:=ho _<|aR g n;Kt 0 o<|Mx p<|Kp 5 (II i.it.kind)<|Kn 0 (rY i.it.kind) (fun _=>Kl 0 40 (dg a)<|K1 0 (.frz 3 [2,4,6,11,12,13]) (j4 (tR 3 true c 3<|aX fI f) rt rt ti)<|Mf<|k b c e f<|by grind [Wu]) fun n=>Kp 1 (UE b i sA g n)<|Kc 7 (kn b i).2 0 (fun _ _=>K1 7 .app (bT (aY c) (sA:e=(f.map cV).length) (by (have z:=Ia hj0.2.2.2;have z2:=hj0.2.1;refine aA (m:=2 ^ 31) ?_ ?_ ?_ <;> omega):small (e+1) 24=true))<|M1 (.obj 2<|aZ 3 true (c+1)<|(f++ [PFail.mk i.act i.item (kn b i).2]).map cV) (congrArg (aZ 3 true<|c+1)<|cN (f:=cV) (l:=f) (ws:=[PFail.mk i.act i.item (kn b i).2]))<|Kl 3 40 (dg a)<|K1 0 (.frz 3 [2,4,6,11,12,13]) (j4 (tR 3 true (c+1) 3<|aX fI<|f++ [PFail.mk i.act i.item (kn b i).2]) rt rt ti)<|Mf<|k (kn b i).1 (c+1) (e+1) (f++ [PFail.mk i.act i.item (kn b i).2])<|by exact ⟨(rQ ⟨hj0.1,g,by omega⟩).2,by simp_all,hj0.2.2.1.trans (RP (by omega) (by omega)).1,hj0.2.2.2.trans (by grind [RP])⟩) fun _ _=>Kl 2 40 (dg a)<|K1 0 (.frz 3 [2,4,6,11,12,13]) (j4 (tR 3 true c 3<|aX fI f) rt rt ti)<|Mf<|k (kn b i).1 c e f<|by exact ⟨(rQ ⟨hj0.1,g,by omega⟩).2,hj0.2.1,hj0.2.2.1.trans (RR (by omega) (by omega)).1,hj0.2.2.2.trans (by grind [RR])⟩
end Go.Proofs.YtempcdhknnjebaaGreatDoor
