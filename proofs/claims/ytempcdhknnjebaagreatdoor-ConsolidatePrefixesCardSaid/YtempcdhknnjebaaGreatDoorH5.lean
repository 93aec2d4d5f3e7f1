/- Functions walked: what each of them answers, for the law of prefixes: part 5. Conditions: those that each theorem names. -/
import Derived.Test.YtempcdhknnjebaaGreatDoorH4
namespace Go.Proofs.YtempcdhknnjebaaGreatDoor
open Go Go.Ev
noncomputable abbrev AL (l:List PWord):AObj:= .row 4 true 0 (l.map aQ)
noncomputable def D9:TypeInfo:=(Tryz.prog.info? 90).getD default
theorem D8:Tryz.prog.info? 90=some D9:=by kernel_rfl
theorem xo:D9.size=4:=by kernel_rfl
theorem va:D9.bytes=40:=by kernel_rfl
theorem TC (l:List PWord):dc 4 (l.map aQ)=true:=gY (fun w=>by cases w;rfl) l
/-- A copy of words: a row of its own. -/
theorem XL (ws:List PWord) (hl:ws.length≤2 ^ 20) (a b c d:AObj):kD 183 [.ls (ws.map aQ)] (aa [a,b,c,d]) (.sl0 4 0 ws.length none) (aa [a,b,c,d,AL ws]):=by
  by_cases hne:ws = []
  · subst hne
    have hE:(aa [a,b,c,d]).push (AL [])=aa [a,b,c,d,AL []]:=by kernel_rfl
    have h:=aD.psh (o:=AL []) (u:= .sl0 4 0 0 none) (qC [] (by omega) (aa [a,b,c,d])) Ds
    simp_all
  have hn:ws.map aQ≠ []:=fun h=>hne (List.map_eq_nil_iff.1 h)
  have hf:=TC ws
  have hsm:small (ws.map aQ).length 40=true:=by grind [ap]
  have hlen:ws.length=(ws.map aQ).length:=(bH ..).symm
  unfold AL
  rw [hlen]
  generalize ws.map aQ=L at hn hf hsm
  refine (aD.less (Ψ:=fun v h=>v = .slice 4 0 0 L.length none∧h=aa [a,b,c,d, .row 4 true 0 L]) ?_ fun v h ⟨h1,h2⟩=>⟨_,h1 ▸ Le.sl0,rfl,h2⟩)
  refine aD.enter 2 (fn:=Tryz.f183) Tryz.func183 (by kernel_rfl) rfl ⟨by kernel_rfl,by kernel_rfl⟩ ?_
  refine ah.seq (ah.mono (C4 o9 ip (ev 40) (s':=⟨dI 8 [(0, .ls L),(2, .nils)],aa [a,b,c,d]⟩) (.go 0 .fin) (by kernel_rfl)) ?_)
  rintro _ _ ⟨rfl,rfl⟩
  refine ah.seq (ah.seq (ah.mono (wR ip (ev 40) (Ψ:=fun s=>s=⟨dI 8 [(0, .ls L),(2, .nils),(3, .ps L false),(4, .bool false)],aa [a,b,c,d]⟩) (.go 0 (.nz 3 .abs (.go 0 .fin)))
    (W:=(L = []→False)∧(⟨dI 8 [(0, .ls L),(2, .nils),(3, .ps L false),(4, .bool false)],aa [a,b,c,d]⟩:St)=⟨dI 8 [(0, .ls L),(2, .nils),(3, .ps L false),(4, .bool false)],aa [a,b,c,d]⟩) ⟨hn,rfl⟩ (by kernel_rfl)) ?_))
  rintro _ _ ⟨rfl,rfl⟩
  refine ah.cond (t:=false) (by kernel_rfl) (fun h=>by grind) fun _=>ah.skip ?_
  refine ah.seq (ah.region ?_)
  show cJ _ _ _ _ [_,_,_,_] _ _
  refine cJ.one (s':=⟨dI 8 [(0, .ls L),(2, .nils),(3, .ps L false),(4, .bool false),(5, .ps [] true)],aa [a,b,c,d]⟩) (ev 40) (by kernel_rfl) ?_
  refine cJ.one (s':=⟨dI 8 [(0, .ls L),(2, .nils),(3, .ps L false),(4, .bool false),(5, .ps [] true),(6, .ls L)],aa [a,b,c,d]⟩) (ev 40) (by kernel_rfl) ?_
  refine qO (I:=fun k:Nat=>k=0) (r:=fun _=> .slice 4 0 0 L.length none) (H:=fun _=>aa [a,b,c,d, .row 4 true 0 L]) (by kernel_rfl)
    (fun pl M a w g1 g2 g3=>wj (z:=aQ ⟨[],0,0,0⟩) (z0:=aQ ⟨[],0,0,0⟩) (xs:=L) (t:=28) (tx:=28) (e:=90) (i:=D9) xo va (by kernel_rfl) ⟨90,by kernel_rfl⟩ D8 (by kernel_rfl) (Le.refl _) (by kernel_rfl) (by kernel_rfl) hn hf (by kernel_rfl) hsm (by omega) pl M a w g1 g2 g3) fun k _=>?_
  refine ⟨dI 8 [(0, .ls L),(2, .nils),(3, .ps L false),(4, .bool false),(5, .ps [] true),(6, .ls L),(7, .slice 4 0 0 L.length none)],by kernel_rfl,?_⟩
  refine cJ.one (s':=⟨dI 8 [(0, .ls L),(2, .slice 4 0 0 L.length none),(3, .ps L false),(4, .bool false),(5, .ps [] true),(6, .ls L),(7, .slice 4 0 0 L.length none)],aa [a,b,c,d, .row 4 true 0 L]⟩) (ev 40) (by kernel_rfl) (cJ.nil (ah.ret ⟨fun id h=>(by grind), .slice 4 0 0 L.length none,by kernel_rfl,by kernel_rfl,by kernel_rfl⟩))
theorem XI (ws:List PWord) (hl:ws.length≤2 ^ 20) (a b c d e:AObj):kD 183 [.ls (ws.map aQ)] (aa [a,b,c,d,e]) (.sl0 5 0 ws.length none) (aa [a,b,c,d,e,AL ws]):=by
  by_cases hne:ws = []
  · subst hne
    have hE:(aa [a,b,c,d,e]).push (AL [])=aa [a,b,c,d,e,AL []]:=by kernel_rfl
    have h:=aD.psh (o:=AL []) (u:= .sl0 5 0 0 none) (qC [] (by omega) (aa [a,b,c,d,e])) Ds
    simp_all
  have hn:ws.map aQ≠ []:=fun h=>hne (List.map_eq_nil_iff.1 h)
  have hf:=TC ws
  have hsm:small (ws.map aQ).length 40=true:=by grind [ap]
  have hlen:ws.length=(ws.map aQ).length:=(bH ..).symm
  unfold AL
  rw [hlen]
  generalize ws.map aQ=L at hn hf hsm
  refine (aD.less (Ψ:=fun v h=>v = .slice 5 0 0 L.length none∧h=aa [a,b,c,d,e, .row 4 true 0 L]) ?_ fun v h ⟨h1,h2⟩=>⟨_,h1 ▸ Le.sl0,rfl,h2⟩)
  refine aD.enter 2 (fn:=Tryz.f183) Tryz.func183 (by kernel_rfl) rfl ⟨by kernel_rfl,by kernel_rfl⟩ ?_
  refine ah.seq (ah.mono (C4 o9 ip (ev 40) (s':=⟨dI 8 [(0, .ls L),(2, .nils)],aa [a,b,c,d,e]⟩) (.go 0 .fin) (by kernel_rfl)) ?_)
  rintro _ _ ⟨rfl,rfl⟩
  refine ah.seq (ah.seq (ah.mono (wR ip (ev 40) (Ψ:=fun s=>s=⟨dI 8 [(0, .ls L),(2, .nils),(3, .ps L false),(4, .bool false)],aa [a,b,c,d,e]⟩) (.go 0 (.nz 3 .abs (.go 0 .fin)))
    (W:=(L = []→False)∧(⟨dI 8 [(0, .ls L),(2, .nils),(3, .ps L false),(4, .bool false)],aa [a,b,c,d,e]⟩:St)=⟨dI 8 [(0, .ls L),(2, .nils),(3, .ps L false),(4, .bool false)],aa [a,b,c,d,e]⟩) ⟨hn,rfl⟩ (by kernel_rfl)) ?_))
  rintro _ _ ⟨rfl,rfl⟩
  refine ah.cond (t:=false) (by kernel_rfl) (fun h=>by grind) fun _=>ah.skip ?_
  refine ah.seq (ah.region ?_)
  show cJ _ _ _ _ [_,_,_,_] _ _
  refine cJ.one (s':=⟨dI 8 [(0, .ls L),(2, .nils),(3, .ps L false),(4, .bool false),(5, .ps [] true)],aa [a,b,c,d,e]⟩) (ev 40) (by kernel_rfl) ?_
  refine cJ.one (s':=⟨dI 8 [(0, .ls L),(2, .nils),(3, .ps L false),(4, .bool false),(5, .ps [] true),(6, .ls L)],aa [a,b,c,d,e]⟩) (ev 40) (by kernel_rfl) ?_
  refine qO (I:=fun k:Nat=>k=0) (r:=fun _=> .slice 5 0 0 L.length none) (H:=fun _=>aa [a,b,c,d,e, .row 4 true 0 L]) (by kernel_rfl)
    (fun pl M a w g1 g2 g3=>wj (z:=aQ ⟨[],0,0,0⟩) (z0:=aQ ⟨[],0,0,0⟩) (xs:=L) (t:=28) (tx:=28) (e:=90) (i:=D9) xo va (by kernel_rfl) ⟨90,by kernel_rfl⟩ D8 (by kernel_rfl) (Le.refl _) (by kernel_rfl) (by kernel_rfl) hn hf (by kernel_rfl) hsm (by omega) pl M a w g1 g2 g3) fun k _=>?_
  refine ⟨dI 8 [(0, .ls L),(2, .nils),(3, .ps L false),(4, .bool false),(5, .ps [] true),(6, .ls L),(7, .slice 5 0 0 L.length none)],by kernel_rfl,?_⟩
  refine cJ.one (s':=⟨dI 8 [(0, .ls L),(2, .slice 5 0 0 L.length none),(3, .ps L false),(4, .bool false),(5, .ps [] true),(6, .ls L),(7, .slice 5 0 0 L.length none)],aa [a,b,c,d,e, .row 4 true 0 L]⟩) (ev 40) (by kernel_rfl) (cJ.nil (ah.ret ⟨fun id h=>(by grind), .slice 5 0 0 L.length none,by kernel_rfl,by kernel_rfl,by kernel_rfl⟩))
noncomputable abbrev Co (u:TUnit) (k:AV):AV:= .agg [iV u.act,iV u.item,iV u.n,iV u.kind, .str u.label, .sl0 3 0 u.head.length none, .sl0 4 0 u.words.length none,k]
noncomputable abbrev TX (u:TUnit) (i j:Nat) (k:AV):AObj:= .row 8 false 0 [.agg [iV u.act,iV u.item,iV u.n,iV u.kind, .str u.label, .sl0 i 0 u.head.length none, .sl0 j 0 u.words.length none,k]]
theorem WA (u:TUnit) (hk:0<u.kids.length) (hn:nU u≤2 ^ 20) (ht : ∀ x,x∈bc u→x.head.length≤2 ^ 20∧x.words.length≤2 ^ 20):kC 87 [eU u] (aa [vc u,vk])
    (fun v h=>∃ y:Nat × Nat × List TUnit,(y.2.1=u.kids.length∧y.2.2=u.kids)∧v=Co u (.slice 5 y.1 0 y.2.1 none)∧h=aa [vc u,vk,TX u 3 4 (.slice 5 y.1 0 y.2.1 none),AL u.head,AL u.words, .row 8 true y.1 (y.2.2.map aK)]):=by
  have hkl:=bj u
  have c1:=(ht u (c8 u)).1
  have c2:=(ht u (c8 u)).2
  have ihk : ∀ k,k∈u.kids→kP 87 [eU k] (eU k):=fun k hk=>Gk k (bG (sj (gN hk)) hn) (fun x hx=>⟨o4 (ht x (bf hk hx)).1 (by omega),o4 (ht x (bf hk hx)).2 (by omega)⟩)
  let q1:= [av [iV u.act,iV u.item,iV u.n,iV u.kind,ak u.label,aW (u.head.map aQ),aW (u.words.map aQ),aW (u.kids.map aK)]];let q2:= [av [iV 0,iV 0,iV 0,iV 0,ak [],ab,ab,ab]];let q3:=aZ 8 false 0 q2;let q4:=aZ 8 false 0 q1;let q5:=List.map aQ u.head;let q6:=aZ 4 true 0 q5;exact ph Tryz.func87 fun a=>Mg 3<|M3 (.efx true (AV.sl0 4 0 u.head.length none)<|aa [aZ 8 false 0 q1,aZ 8 false 0 q2,aZ 8 false 0 q1,aZ 8 false 0 q2,aZ 4 true 0 q5]) (GN rt rt rt rt ti) (GN (aU<|some q3) (aU<|some q4) (aU<|some q3) (aU<|some q4) ti) (XL u.head c1 q4 q3 q4 q3)<|Mg 1<|M3 (.efx true (AV.sl0 5 0 u.words.length none)<|aa [aZ 8 false 0 q1,aZ 8 false 0 q2,aZ 8 false 0 q1,aZ 8 false 0 q2,aZ 4 true 0 q5,aZ 4 true 0<|u.words.map aQ]) (xU (tR 4 true 0 5<|aX iq u.head) rt rt rt rt ti) (xU (aU<|some q6) (aU<|some q3) (aU<|some q4) (aU<|some q3) (aU<|some q4) ti) (XI u.words c2 q4 q3 q4 q3 q6)<|Kl 7 16 (ln aK u.kids)<|Mg 0<|lV Nat Nat (List TUnit) aK u.kids [1,2,3,15,16,17] (fun a _=>([bJ 2 0 0 0,bJ 3 0 0 0,ab,aW<|u.kids.map aK,nV u.kids.length,nV a],[aZ 8 false 0 [av [iV u.act,iV u.item,iV u.n,iV u.kind,ak u.label,aW<|u.head.map aQ,aW<|u.words.map aQ,aW<|u.kids.map aK]],aZ 8 false 0 [av [iV 0,iV 0,iV 0,iV 0,ak [],ab,ab,ab]],aZ 8 false 0 [av [iV u.act,iV u.item,iV u.n,iV u.kind,ak u.label,AV.sl0 4 0 u.head.length none,AV.sl0 5 0 u.words.length none,aW<|u.kids.map aK]],aZ 8 false 0 [av [iV 0,iV 0,iV 0,iV 0,ak [],ab,ab,ab]],aZ 4 true 0<|u.head.map aQ,aZ 4 true 0<|u.words.map aQ])) (fun a _ b c d=>([bJ 2 0 0 0,bJ 3 0 0 0,aI 6 b 0 c none,aW<|u.kids.map aK,nV u.kids.length,nV a],[aZ 8 false 0 [av [iV u.act,iV u.item,iV u.n,iV u.kind,ak u.label,aW<|u.head.map aQ,aW<|u.words.map aQ,aW<|u.kids.map aK]],aZ 8 false 0 [av [iV 0,iV 0,iV 0,iV 0,ak [],ab,ab,ab]],aZ 8 false 0 [av [iV u.act,iV u.item,iV u.n,iV u.kind,ak u.label,AV.sl0 4 0 u.head.length none,AV.sl0 5 0 u.words.length none,aW<|u.kids.map aK]],aZ 8 false 0 [av [iV 0,iV 0,iV 0,iV 0,ak [],ab,ab,ab]],aZ 4 true 0<|u.head.map aQ,aZ 4 true 0<|u.words.map aQ,aZ 8 true b<|d.map aK])) (fun a=>a=u.kids) (fun a _ b c=>b=c.length∧(0:Nat)<c.length∧c++a=u.kids∧c.length+a.length=u.kids.length) (by rfl) (fun _ _ _ _ _ a _=>Kh 0 a<|Mg 4<|Mw .abs (sA:False)) (fun a _ _ b c d _ e f g _ i _=>have i:=(i).trans<|congrArg some<|aG c;have b:=cG (J:=fun a _=>a=u.kids) (a:=()) f b;Kt 0 g<|Mx i<|Kp 4 (ihk c gR)<|K1 1 (.obj 7<|aZ 8 true 0<|List.map aK [c]) (congrArg (aZ 8 true 0)<|R7 (f:=aK) (g:=Go.Ev.eU) (ws:=[c]) aG)<|Kl 1 26 (dt a)<|Mg 0<|Mw (.ren [0,1,2,3,4,5,7,6] [4,5,7] [1,2,3,15,16,17]<|.frz 7 [1,2,3,15,16,17] .fin)<|GN (tS 4 true 0<|aX iq u.head) (tS 4 true 0<|aX iq u.words) (tS 8 true 0<|aX gC [c]) (XH (tR 8 true 0 7<|aX gC [c]) (tR 4 true 0 7<|aX iq u.words) (tR 4 true 0 7<|aX iq u.head) rt rt rt rt ti)<|e 0 1 [c]<|by (refine ⟨rfl,by simp,?_,?_⟩ <;> (rw [← b]) <;> (first | rfl | grind))) (fun _ _ b c d _ _ _ e _=>Kh 0 e<|Mg 4<|Mw (.ren [0,1,3,4,5,6,2] [4,5,6] [2]<|.frz 6 [2] .fin)<|GN (tS 4 true 0<|aX iq u.head) (tS 4 true 0<|aX iq u.words) (tS 8 true b<|aX gC d) (LF (tR 8 true b 6<|aX gC d) (tR 4 true 0 6<|aX iq u.words) (tR 4 true 0 6<|aX iq u.head) rt rt rt ti)<|a (b,c,d) sA) fun a _ b c d _ e f g _ i j l _ n _=>have n:=(n).trans<|congrArg some<|aG f;have e:=cG (J:=fun a b=>b.2.1=b.2.2.length∧(0:Nat)<b.2.2.length∧b.2.2++a=u.kids∧b.2.2.length+a.length=u.kids.length) (a:=(b,c,d)) j e;Kt 0 l<|Mx n<|Kp 4 (ihk f gR)<|K1 0 .app (cW (aU b) (sA:c=(d.map aK).length) (by (refine ap (m:=2 ^ 21) ?_ ?_ ?_ <;> omega):small (c+1) 120=true))<|M1 (.obj 6<|aZ 8 true (b+1)<|(d++ [f]).map aK) (congrArg (aZ 8 true<|b+1)<|xW (f:=aK) (g:=Go.Ev.eU) (l:=d) (ws:=[f]) aG)<|Kl 1 26 (dt a)<|K1 0 (.frz 7 [1,2,3,15,16,17]) (XH (tR 8 true (b+1) 7<|aX gC<|d++ [f]) (tR 4 true 0 7<|aX iq u.words) (tR 4 true 0 7<|aX iq u.head) rt rt rt rt ti)<|Mf<|i (b+1) (c+1) (d++ [f])<|by (refine ⟨by simp_all,by simp,?_,?_⟩ <;> first | (rw [← e.2.2.1];simp;done) | grind)
theorem WB (u:TUnit) (hk:u.kids = []) (ht : ∀ x,x∈bc u→x.head.length≤2 ^ 20∧x.words.length≤2 ^ 20):kD 87 [eU u] (aa [vc u,vk]) (Co u .nils) (aa [vc u,vk,TX u 3 4 .nils,AL u.head,AL u.words]):=by
  have c1:=(ht u (c8 u)).1
  have c2:=(ht u (c8 u)).2
  have hz:ar 0 (Int.ofNat u.kids.length)=false:=by rw [hk];rfl
  let q:= [av [iV u.act,iV u.item,iV u.n,iV u.kind,ak u.label,aW (u.head.map aQ),aW (u.words.map aQ),aW (u.kids.map aK)]];let q1:= [av [iV 0,iV 0,iV 0,iV 0,ak [],ab,ab,ab]];let q2:= [aZ 8 false 0 q,aZ 8 false 0 q1,aZ 8 false 0 [av [iV u.act,iV u.item,iV u.n,iV u.kind,ak u.label,AV.sl0 4 0 u.head.length none,AV.sl0 5 0 u.words.length none,aW (u.kids.map aK)]],aZ 8 false 0 q1,aZ 4 true 0 (u.head.map aQ),aZ 4 true 0 (u.words.map aQ)];let q3:=aZ 8 false 0 q1;let q4:=aZ 8 false 0 q;let q5:= [bJ 2 0 0 0,bJ 3 0 0 0,ab,aW (u.kids.map aK),nV u.kids.length,iV 0];let q6:=List.map aQ u.head;let q7:=aZ 4 true 0 q6;exact fH Tryz.func87 fun a=>Mg 3<|M3 (.efx true (AV.sl0 4 0 u.head.length none)<|aa [aZ 8 false 0 q,aZ 8 false 0 q1,aZ 8 false 0 q,aZ 8 false 0 q1,aZ 4 true 0 q6]) (GN rt rt rt rt ti) (GN (aU<|some q3) (aU<|some q4) (aU<|some q3) (aU<|some q4) ti) (XL u.head c1 q4 q3 q4 q3)<|Mg 1<|M3 (.efx true (AV.sl0 5 0 u.words.length none)<|aa [aZ 8 false 0 q,aZ 8 false 0 q1,aZ 8 false 0 q,aZ 8 false 0 q1,aZ 4 true 0 q6,aZ 4 true 0<|u.words.map aQ]) (xU (tR 4 true 0 5<|aX iq u.head) rt rt rt rt ti) (xU (aU<|some q7) (aU<|some q3) (aU<|some q4) (aU<|some q3) (aU<|some q4) ti) (XI u.words c2 q4 q3 q4 q3 q7)<|Kl 7 16 (ln aK u.kids)<|Mg 0<|W6 [1,2,3,15,16,17] (q5,q2) True 0 ti fun _ _=>Kh 0 hz<|Mg 4<|M2 (.ren [0,1,3,4,5,2] [4,5] [2]) (tS 4 true 0<|aX iq u.head) (tS 4 true 0<|aX iq u.words)<|M1 (.frz 5 [2]) (xU (tR 4 true 0 5<|aX iq u.words) (tR 4 true 0 5<|aX iq u.head) rt rt rt ti)<|Mf a
noncomputable abbrev XK (ep:Nat) (l:List TUnit):AObj:= .row 8 true ep (l.map aK)
theorem Jf (u:TUnit) {k k':AV} (h:Le k k') (h2:ct k=true):Le (Co u k) (Co u k'):=aL (.cons (Le.refl _) (.cons (Le.refl _) (.cons (Le.refl _) (.cons (Le.refl _) (.cons (Le.refl _) (.cons (Le.refl _) (.cons (Le.refl _) (.cons h .nil)))))))) (by simp only [List.all_cons,List.all_nil,h2];rfl)
theorem Wu (u:TUnit) (hn:nU u≤2 ^ 20) (ht : ∀ x,x∈bc u→x.head.length≤2 ^ 20∧x.words.length≤2 ^ 20):kC 87 [eU u] (aa [vc u,vk])
    (fun v h=>∃ ep:Nat,True∧v=Co u (.sl0 5 ep u.kids.length none)∧h=aa [vc u,vk, .dead,AL u.head,AL u.words,XK ep u.kids]):=by
  rcases Nat.eq_zero_or_pos u.kids.length with hk | hk
  · have hk:=List.length_eq_zero_iff.1 hk
    refine aD.dead (i:=2) (Ib (Ψ':=fun v h=>v=Co u (.sl0 5 0 0 none)∧h=aa [vc u,vk,TX u 3 4 .nils,AL u.head,AL u.words,XK 0 u.kids]) (XK 0 u.kids) (WB u hk ht) fun v h' ⟨h1,h2⟩=>⟨Co u (.sl0 5 0 0 none),h1 ▸ Jf u Le.sl0n rfl,rfl,?_⟩) (al 2) (by omega) fun v h' ⟨h1,h2⟩=>⟨0,trivial,by simp_all,?_⟩
    · rw [h2];kernel_rfl
    · rw [h2];kernel_rfl
  · refine aD.dead (i:=2) (aD.less (Ψ':=fun v h=>∃ ep:Nat,v=Co u (.sl0 5 ep u.kids.length none)∧h=aa [vc u,vk,TX u 3 4 (.slice 5 ep 0 u.kids.length none),AL u.head,AL u.words,XK ep u.kids]) (WA u hk hn ht) fun v h' ⟨y,⟨e1,e2⟩,h1,h2⟩=>⟨Co u (.sl0 5 y.1 u.kids.length none),?_,y.1,rfl,?_⟩) (al 2) (by omega) fun v h' ⟨ep,h1,h2⟩=>⟨ep,trivial,h1,?_⟩
    · rw [h1,e1];exact Jf u Le.sl0 rfl
    · simp_all
    · rw [h2];kernel_rfl
/-- The first 'i' elements changed by 'f'. -/
def kQ {α:Type} (f:α→α) (l:List α) (i:Nat):List α:=(l.take i).map f++l.drop i
theorem uF {α:Type} {f:α→α} {l:List α} {i:Nat} : (kQ f l i).length=l.length:=by
  grind [kQ]
theorem uG {α:Type} {f:α→α} {l:List α} {i:Nat} (h:l.length≤i):kQ f l i=l.map f:=by
  grind [kQ, List.take_of_length_le]
theorem yt {α:Type} [Inhabited α] {f:α→α} {l:List α} {i:Nat} (h:i<l.length):gD (kQ f l i) i=gD l i:=by
  have e:((l.take i).map f).length=i:=by grind
  simp_all [kQ, gD, o7]
theorem Bl {α:Type} [Inhabited α] {f:α→α} {l:List α} {i:Nat} (h:i<l.length):(kQ f l i).set i (f (gD l i))=kQ f l (i+1):=by
  have e:((l.take i).map f).length=i:=by grind
  have hg:gD l i=l[i]:=by unfold gD;simp_all
  unfold kQ
  rw [List.set_append_right _ _ (by omega),e,Nat.sub_self,hg,MI h,List.set_cons_zero,MN h,pw,pf]
  rfl
theorem yp {l:List PWord} {i:Nat} (h:i<l.length):(kQ gd l i).set i ⟨(gD (kQ gd l i) i).text,0,0,0⟩=kQ gd l (i+1):=by
  rw [yt h];exact Bl h
theorem Nb : ∀ u:TUnit,nU u≤2 ^ 20→(∀ x,x∈bc u→x.head.length≤2 ^ 20∧x.words.length≤2 ^ 20)→kP 342 [eU u] (eU (cp u)):=by
  refine TUnit.ind fun u ih hn ht=>?_
  have hkl:=bj u
  have c1:=(ht u (c8 u)).1
  have c2:=(ht u (c8 u)).2
  have hc:=Wu u hn ht
  have ihk : ∀ k,k∈u.kids→kP 342 [eU k] (eU (cp k)):=fun k hk=>ih k hk (bG (sj (gN hk)) hn) (fun x hx=>ht x (bf hk hx))
  rw [lH]
  have rr0 b' (h:(List.map aQ (TUnit.mk 0 0 0 u.kind u.label (u.head.map gd) (u.words.map gd) (u.kids.map cp)).head)=b':=by (rw [hx1.2,uG (by (simp only [oN] at *;omega))];rfl)):=h;have rr1 b' (h:(List.map aQ (TUnit.mk 0 0 0 u.kind u.label (u.head.map gd) (u.words.map gd) (u.kids.map cp)).words)=b':=by (rw [hx2.2,uG (by (simp only [oN] at *;omega))];rfl)):=h;have rr2 b' (h:(List.map aK (TUnit.mk 0 0 0 u.kind u.label (u.head.map gd) (u.words.map gd) (u.kids.map cp)).kids)=b':=by (rw [hx3.2,uG (by (simp only [oN] at *;omega))];rfl)):=h;exact bp Tryz.func342<|Mg 2<|Mq hc fun a _=>Mg 10<|M0 (.un 2)<|Mg 7<|KJ (0:Nat) u.head [1,2,4,15,16,17,22,23] (fun b c=>([bJ 0 0 0 0,bJ 1 0 0 0,AV.sl0 3 0 u.head.length none,kK [AV.sl0 3 0 u.head.length none,AV.sl0 4 0 u.words.length none] true,iV 2,iV 0,nV u.head.length,nV b],[aZ 8 false 0 [av [iV 0,iV 0,iV 0,iV u.kind,ak u.label,AV.sl0 3 0 u.head.length none,AV.sl0 4 0 u.words.length none,AV.sl0 5 a u.kids.length none]],aZ 8 false 0 [av [iV 0,iV 0,iV 0,iV 0,ak [],ab,ab,ab]],AObj.dead,aZ 4 true 0<|c.map aQ,aZ 4 true 0<|u.words.map aQ,aZ 8 true a<|u.kids.map aK])) (fun a b=>a≤u.head.length∧b=kQ gd u.head a) (fun a _=>u.head.length - a) (by exact ⟨bN _,rfl⟩) fun b c hx1 d=>have hx1:b≤u.head.length∧c=kQ gd u.head b:=hx1;have :c.length=u.head.length:=(by grind [uF]);Ka 0 (Int.ofNat b) (Int.ofNat u.head.length) (fun _ _=>K1 4 .rix (et (aU 0) (sA:b<u.head.length))<|K1 0 (.rst (aQ<|gD c b)<|(c.set b<|PWord.mk (gD c b).text 0 0 0).map aQ) (cW (aU 0) (aT aQ (sA:b<(c).length))<|jA (f:=aQ) (l:=c) (i:=b) (w:=PWord.mk (gD c b).text 0 0 0))<|Kl 0 31 (jo b)<|Kf 0<|d (b+1) (c.set b<|PWord.mk (gD c b).text 0 0 0) (by grind [yp]) gR) fun _ _=>Mg 9<|KJ (0:Nat) u.words [1,2,4,15,16,17,22,23] (fun b d=>([bJ 0 0 0 0,bJ 1 0 0 0,AV.sl0 4 0 u.words.length none,kK [AV.sl0 3 0 u.head.length none,AV.sl0 4 0 u.words.length none] true,iV 2,iV 1,nV u.words.length,nV b],[aZ 8 false 0 [av [iV 0,iV 0,iV 0,iV u.kind,ak u.label,AV.sl0 3 0 u.head.length none,AV.sl0 4 0 u.words.length none,AV.sl0 5 a u.kids.length none]],aZ 8 false 0 [av [iV 0,iV 0,iV 0,iV 0,ak [],ab,ab,ab]],AObj.dead,aZ 4 true 0<|c.map aQ,aZ 4 true 0<|d.map aQ,aZ 8 true a<|u.kids.map aK])) (fun a b=>a≤u.words.length∧b=kQ gd u.words a) (fun a _=>u.words.length - a) (by exact ⟨bN _,rfl⟩) fun b d hx2 e=>have hx2:b≤u.words.length∧d=kQ gd u.words b:=hx2;have :d.length=u.words.length:=(by grind [uF]);Ka 0 (Int.ofNat b) (Int.ofNat u.words.length) (fun _ _=>K1 4 .rix (et (aU 0) (sA:b<u.words.length))<|K1 0 (.rst (aQ<|gD d b)<|(d.set b<|PWord.mk (gD d b).text 0 0 0).map aQ) (cW (aU 0) (aT aQ (sA:b<(d).length))<|jA (f:=aQ) (l:=d) (i:=b) (w:=PWord.mk (gD d b).text 0 0 0))<|Kl 0 31 (jo b)<|Kf 0<|e (b+1) (d.set b<|PWord.mk (gD d b).text 0 0 0) (by grind [yp]) gR) fun _ _=>Mg 7<|KJ (0:Nat) u.kids [1,2,35,36] (fun b e=>([bJ 0 0 0 0,bJ 1 0 0 0,nV u.kids.length,nV b],[aZ 8 false 0 [av [iV 0,iV 0,iV 0,iV u.kind,ak u.label,AV.sl0 3 0 u.head.length none,AV.sl0 4 0 u.words.length none,AV.sl0 5 a u.kids.length none]],aZ 8 false 0 [av [iV 0,iV 0,iV 0,iV 0,ak [],ab,ab,ab]],AObj.dead,aZ 4 true 0<|c.map aQ,aZ 4 true 0<|d.map aQ,aZ 8 true a<|e.map aK])) (fun a b=>a≤u.kids.length∧b=kQ cp u.kids a) (fun a _=>u.kids.length - a) (by exact ⟨bN _,rfl⟩) fun b e hx3 f=>have hx3:b≤u.kids.length∧e=kQ cp u.kids b:=hx3;have :e.length=u.kids.length:=(by grind [uF]);have g:b<u.kids.length→kP (342:FuncId) [eU (gD e b)] (eU (cp (gD e b))):=fun h=>ihk _ (by grind [yt, iY]);Ka 0 (Int.ofNat b) (Int.ofNat u.kids.length) (fun _ _=>K1 7 .rix (et (aU a) (sA:b<u.kids.length))<|Mr (et (aU a)<|qf aK (g:=Go.Ev.eU) aG (sA:b<(e).length))<|Mp (g sA)<|M1 .rix (et (aU a) (sA:b<u.kids.length))<|M3 (.rst (av [iV (gD e b).act,iV (gD e b).item,iV (gD e b).n,iV (gD e b).kind,ak (gD e b).label,aW<|List.map aQ (gD e b).head,aW<|List.map aQ (gD e b).words,aW<|List.map aK (gD e b).kids])<|(e.set b<|cp<|gD e b).map aK) rt (gT (tR 8 true a 6<|aX gC e) rt) (cW (aU a) (qf aK (g:=Go.Ev.eU) aG (sA:b<(e).length))<|Ch (f:=aK) (g:=Go.Ev.eU) aG (l:=e) (i:=b) (w:=cp<|gD e b))<|Kl 0 49 (jo b)<|Kf 0<|f (b+1) (e.set b<|cp<|gD e b) (by grind [yt, Bl]) gR) fun _ _=>M2 (.fza 0 7 5 [1,2]<|e.map aK) (xU (tR 4 true 0 5<|aX iq d) (tR 4 true 0 5<|aX iq c) rt rt rt ti) (cW (aU a) (tA aK e u.kids.length (oA:(e).length=u.kids.length))<|aX gC e)<|M2 (.fza 0 6 4 [1,2]<|d.map aQ) (GN (tR 4 true 0 4<|aX iq c) rt rt rt ti) (cW (aU 0) (tA aQ d u.words.length (oA:(d).length=u.words.length))<|aX iq d)<|M2 (.fza 0 5 3 [1,2]<|c.map aQ) (j5 rt rt rt ti) (cW (aU 0) (tA aQ c u.head.length (oA:(c).length=u.head.length))<|aX iq c)<|Kf 1 (aL (lc<|lc<|lc<|lc<|lc<|.cons (cw<|rr0<|c.map aQ)<|.cons (cw<|rr1<|d.map aQ)<|.cons (cw<|rr2<|e.map aK) .nil)<|by kernel_rfl:Le _ (AV.agg [iV 0,iV 0,iV 0,iV u.kind,AV.str u.label,AV.ls (c.map aQ),AV.ls (d.map aQ),AV.ls (e.map aK)]))
theorem Ol:Go.Proofs.Builder.Extra Tryz.prog Tryz.ljoin_ren:=by
  repeat' (first | kernel_rfl | (intro w;kernel_rfl) | decide | constructor)
theorem SX (l:List aO) (sep:aO) (h1:l.length≤140737488355328) (h2:(Lib.join l sep).length≤140737488355328):kP 299 [.ls (l.map mr), .str sep] (.str (Lib.join l sep)):=Lc (Go.Proofs.enters_of Tryz.func299 (by kernel_rfl) rfl) (fun a b c d e f g h i j k=>Go.Proofs.Any.strings_Join Go.Proofs.Tryz.ljoin Ol a b c d e f g h i j k) (fun a b c d=>Go.Proofs.Any.strings_Join_none Go.Proofs.Tryz.ljoin Ol a b c d) l sep h1 h2
theorem Wa:Go.Proofs.Builder.Extra Tryz.prog Tryz.lrep_ren:=by
  repeat' (first | kernel_rfl | (intro w;kernel_rfl) | decide | constructor)
theorem UK (s:aO) (c:Nat) (h1:c≤9223372036854775807) (h2:s.length * c≤140737488355328):kP 368 [.str s,nV c] (.str (Lib.repeatL s c)):=Ep (Go.Proofs.enters_of Tryz.func368 (by kernel_rfl) rfl) (fun a b d e f=>Go.Proofs.Any.strings_Repeat Go.Proofs.Tryz.lrep Wa a b d e f) s c h1 h2
theorem NN (s:aO) (ws:List PWord) (hw : ∀ w,w∈ws→1≤w.text.length∧w.text.length≤24) (hb:s.length+26 * ws.length≤2 ^ 40) (hn:ws.length≤2 ^ 20):kP 370 [.str s, .ls (ws.map aQ)] (.str (ly s ws)):=by
  have rr0 b' (h:(ly s ws)=b':=by first | rfl | (exact hj0.1.symm)):=h;exact bp Tryz.func370<|Kl 2 8 (ln aQ ws)<|Mg 0<|TR (0:Nat) ws s [0,7,8,9] (fun a _ b=>([ak b,aW<|ws.map aQ,nV ws.length,nV a],[])) (fun a b c=>(ws).drop a=b∧ly c b=ly s ws∧List.length c+26 * b.length≤2 ^ 40) (fun _ a _=>a.length) (et rfl<|by first | rfl | (first | simp_all | (refine ⟨by (rw [← hj0.1,nS];first | rw [Do h1] | rw [Dn h1 h2] | rw [Dm h1 h2]),?_⟩;have q:=hj0.2;simp only [lA,lC,lN] at *;omega))) fun a b c d e=>Mc b (fun a=>have b:=gy d.1 a;have hj0:=jV (J:=fun a b=>ly b a=ly s ws∧List.length b+26 * a.length≤2 ^ 40) (a:=c) a d.2;Kh 0 b<|Kf 1<|Le.str<|rr0 c) fun b f g=>let i:=[aZ 4 false 0 [av [ak b.text,iV b.act,iV b.item,iV b.at_]]];have j:=gc d.1 g;have :=au j;have k:=gv (enc:=aQ) d.1 g;have hj0:=cG (J:=fun a b=>ly b a=ly s ws∧List.length b+26 * a.length≤2 ^ 40) (a:=c) g d.2;have :=hw b<|aN d.1 g;Kt 0 j<|Mx k<|Kv 3 (iC (s:=c) (u:=[32]) (H:=aa i) (by (first | first | assumption | omega | grind):(c).length+([32]).length≤2 ^ 62))<|K1 2 (.chr<|gD b.text 0) (yc (by first | omega | (simp only [oN,lM,lS] at *;omega) | (simp only [oN,lM,lS,lA,lR,lC,lN] at * <;> omega):0<(b.text).length))<|Kj 1 (Int.ofNat (gD b.text 0).toNat) 124 (fun j _=>Mt j<|Mt j<|Mt j<|MV j<|Kv 1 (iC (s:=c++ [32]) (u:=[92]) (H:=aa i) (by (first | first | assumption | omega | grind):(c++ [32]).length+([92]).length≤2 ^ 62))<|Kv 3 (iC (s:=c++ [32]++ [92]) (u:=b.text) (H:=aa i) (by (first | first | assumption | omega | grind):(c++ [32]++ [92]).length+(b.text).length≤2 ^ 62))<|Kl 1 31 (dt a)<|K1 0 (.frz 0 [0,7,8,9]) ti<|Mf<|e (a+1) f (c++ [32]++ [92]++b.text) (et (bP d.1 g)<|by first | exact ⟨rfl,hb⟩ | (refine ⟨by (rw [← hj0.1,nS];first | rw [Do j] | rw [Dn j h2] | rw [Dm j h2]),?_⟩;grind))<|fu g) fun j _=>Kh 0 j<|Kh 0 j<|M1 (.chr<|gD b.text 0) (yc (by first | omega | (simp only [oN,lM,lS] at *;omega) | (simp only [oN,lM,lS,lA,lR,lC,lN] at * <;> omega):0<(b.text).length))<|Mh j<|Kw 0 j<|Mb (ae (Int.ofNat (gD b.text 0).toNat) 92) (fun k=>have :=je k;Kv 0 (iC (s:=c++ [32]) (u:=[92]) (H:=aa i) (by (first | first | assumption | omega | grind):(c++ [32]).length+([92]).length≤2 ^ 62))<|Kv 3 (iC (s:=c++ [32]++ [92]) (u:=b.text) (H:=aa i) (by (first | first | assumption | omega | grind):(c++ [32]++ [92]).length+(b.text).length≤2 ^ 62))<|Kl 1 31 (dt a)<|K1 0 (.frz 0 [0,7,8,9]) ti<|Mf<|e (a+1) f (c++ [32]++ [92]++b.text) (et (bP d.1 g)<|by first | exact ⟨rfl,hb⟩ | (refine ⟨by (rw [← hj0.1,nS];first | rw [Do j] | grind [Dn] | rw [Dm j k]),?_⟩;grind))<|fu g) fun k=>have :=F3 k;Kv 2 (iC (s:=c++ [32]) (u:=b.text) (H:=aa i) (by (first | first | assumption | omega | grind):(c++ [32]).length+(b.text).length≤2 ^ 62))<|Kl 1 31 (dt a)<|K1 0 (.frz 0 [0,7,8,9]) ti<|Mf<|e (a+1) f (c++ [32]++b.text) (et (bP d.1 g)<|by first | exact ⟨rfl,hb⟩ | (refine ⟨by (rw [← hj0.1,nS];first | rw [Do j] | rw [Dn j k] | grind [Dm]),?_⟩;grind))<|fu g
theorem rm {u:TUnit} (h:mX u):mX (cp u):=by
  obtain ⟨h1,h2⟩:=KB u
  refine ⟨by rw [h1];exact h.1,fun x hx=>?_⟩
  obtain ⟨y,hy,rfl⟩:=h2 x hx
  obtain ⟨a,b,c,d,e⟩:=h.2 y hy
  rw [lH]
  refine ⟨by grind [TUnit.head],by grind [TUnit.words],c,fun w hw=>?_,fun w hw=>?_⟩
  · obtain ⟨v,hv,rfl⟩:=j8.1 hw;exact d v hv
  · obtain ⟨v,hv,rfl⟩:=j8.1 hw;exact e v hv
theorem A5 {u:TUnit} (h:rY u):mX (sn u):=by
  have e:bc (sn u) = [sn u]:=by rw [dW];exact congrArg _ fg
  refine ⟨by rw [iI];exact bG (vU (congrArg (1 + ·) lr)) (by omega),fun x hx=>?_⟩
  rw [e] at hx
  rw [mQ.1 hx];exact h
theorem Cb (u:TUnit) (h:mX u):kP 342 [eU u] (eU (cp u)):=
  Nb u (bG h.1 (by omega)) fun x hx=>⟨bG (h.2 x hx).1 (by omega),bG (h.2 x hx).2.1 (by omega)⟩
theorem Oh (u:TUnit) (d:Nat) (hd:d≤2 ^ 20) (h:rY u):kP 367 [eU u,nV d] (.bool (CN u d)):=by
  have h1:=Cb (sn u) (A5 h)
  have h2:=wE (cp (sn u)) (rm (A5 h))
  have hz:=Uc d
  have rr0 b' (h:(CN u d)=b':=by first | rfl | (unfold CN;simp only [aS,aj,bS, *];done)):=h;exact bp Tryz.func367<|Kn 13 (ar 8<|Int.ofNat d) (fun a=>Kt 0 (b7 a)<|Mp (aM.onArgs (.cons (aL (lc<|lc<|lc<|lc<|lc<|lc<|lc<|.cons bu .nil)<|by kernel_rfl) .nil) h1:kP 342 [av [iV 0,iV 0,iV 0,iV u.kind,ak u.label,aW (u.head.map aQ),aW (u.words.map aQ),ab]] _)<|Mt (b7 a)<|Mp h2<|MV (b7 a)<|Kf 0<|cq<|rr0<|kU<|cp<|sn u) fun a=>Mh (bL a)<|Mh (bL a)<|My (bL a)<|Ky 0<|rr0 false
theorem Us (u:TUnit) (d:Nat) (hd:d≤2 ^ 20) (h:rY u) (hm:CN u d=false):kP 344 [eU u,nV d] (.str (fD u d)):=by
  have h1:=Oh u d hd h
  rw [hm] at h1
  have e:fD u d = []:=by unfold fD;simp_all
  rw [e]
  exact bp Tryz.func344<|Kp 3 h1<|Kf 2<|bv<|ak []
def Lb (u:TUnit) (d:Nat) (z18:aO):Prop:=(z18=bif aj (ae u.kind (0:Int)) then Lib.repeatL [(32:UInt8),(32:UInt8)] d++cM u.kind++([(32:UInt8)]++u.label) else Lib.repeatL [(32:UInt8),(32:UInt8)] d++cM u.kind)∧List.length z18≤(40:Nat)
noncomputable def La (u:TUnit) (d:Nat) (z18:aO):List AV × List AObj:=([AV.ptr 0 0 0 0,AV.str z18], [AObj.row 8 false 0 [AV.agg [iV u.act,iV u.item,iV u.n,iV u.kind,AV.str u.label,AV.ls (u.head.map aQ),AV.ls (u.words.map aQ),AV.ls (u.kids.map aK)]]])
def Ly (u:TUnit) (z18:aO) (z27:aO):Prop:=(z27=bif ar (0:Int) (Int.ofNat u.head.length) then ly (z18++ [(58:UInt8)]) u.head else z18)∧List.length z27≤(6700:Nat)
noncomputable def Lv (u:TUnit) (z18:aO) (z27:aO):List AV × List AObj:=([AV.ptr 0 0 0 0,AV.str z27], [AObj.row 8 false 0 [AV.agg [iV u.act,iV u.item,iV u.n,iV u.kind,AV.str u.label,AV.ls (u.head.map aQ),AV.ls (u.words.map aQ),AV.ls (u.kids.map aK)]]])
theorem Ur (u:TUnit) (d:Nat) (hd:d≤2 ^ 20) (h:rY u) (hm:CN u d=true):kP 344 [eU u,nV d] (.str (fD u d)):=by
  have h1:=Oh u d hd h
  obtain ⟨hd8,hlb,⟨hh1,hh2⟩,hw1,hw2⟩:=Jv hm
  have hrl:=Lib.repeatL_length [32,32] d
  simp only [lC,lN] at hrl
  have h2:=UK [32,32] d (by omega) (by grind)
  have hk:=vG u.kind
  have hkl:=yM u.kind
  have hp1 : ∀ s:aO,s.length≤2 ^ 14→kP 370 [.str s, .ls (u.head.map aQ)] (.str (ly s u.head)):=fun s hs=>NN s u.head hh2 (by omega) (by omega)
  have hp2 : ∀ s:aO,s.length≤2 ^ 14→kP 370 [.str s, .ls (u.words.map aQ)] (.str (ly s u.words)):=fun s hs=>NN s u.words hw2 (by omega) (by omega)
  rw [hm] at h1
  have rr0 b' (h:(fD u d)=b':=by first | rfl | (unfold fD;rw [hm];simp only [aj,cond_false];rw [← hz18.1,← hz27.1];first | (rw [h3];rfl) | (rw [h4];rfl) | (rw [h5];rfl) | (rw [h6];rfl) | (rw [h7];rfl))):=h;let q1:= [aZ 8 false 0 [av [iV u.act,iV u.item,iV u.n,iV u.kind,ak u.label,aW (u.head.map aQ),aW (u.words.map aQ),aW (u.kids.map aK)]]];exact bp Tryz.func344<|Kp 3 h1<|Kp 2 h2<|Kp 1 hk<|Mv (iC (s:=Lib.repeatL [32,32] d) (u:=cM u.kind) (H:=AHeap.mk 1000000 Tr.nil) (by (first | first | assumption | ((try simp only [lA,lC,lN]);omega) | (simp only [lA,lC,lN] at *;omega)):(Lib.repeatL [32,32] d).length+(cM u.kind).length≤2 ^ 62))<|Mg 0<|Mj aO [2,5] (La u d) (Lb u d) (fun a=>Kn 2 (ae u.kind 0) (fun _=>Kv 2 (iC (s:=[32]) (u:=u.label) (H:=aa q1) (by (first | first | assumption | ((try simp only [lA,lC,lN]);omega) | (simp only [lA,lC,lN] at *;omega)):([32]).length+(u.label).length≤2 ^ 62))<|Mv (iC (s:=Lib.repeatL [32,32] d++cM u.kind) (u:=32::u.label) (H:=aa q1) (by (first | first | assumption | ((try simp only [lA,lC,lN]);omega) | (simp only [lA,lC,lN] at *;omega)):(Lib.repeatL [32,32] d++cM u.kind).length+(32::u.label).length≤2 ^ 62))<|Kf 0<|a (Lib.repeatL [32,32] d++cM u.kind++32::u.label) (by (refine ⟨by first | simp_all | (rw [h2];rfl) | (rw [h3];rfl) | (rw [h0];rfl),?_⟩;grind):(Lib.repeatL [(32:UInt8),(32:UInt8)] d++cM u.kind++(32:UInt8)::u.label=bif aj (ae u.kind (0:Int)) then Lib.repeatL [(32:UInt8),(32:UInt8)] d++cM u.kind++([(32:UInt8)]++u.label) else Lib.repeatL [(32:UInt8),(32:UInt8)] d++cM u.kind)∧(Lib.repeatL [(32:UInt8),(32:UInt8)] d++cM u.kind++(32:UInt8)::u.label).length≤40)) fun _=>Mf<|a (Lib.repeatL [32,32] d++cM u.kind) (by (refine ⟨by first | simp_all | (rw [h2];rfl) | (rw [h3];rfl) | (rw [h0];rfl),?_⟩;grind):(Lib.repeatL [(32:UInt8),(32:UInt8)] d++cM u.kind=bif aj (ae u.kind (0:Int)) then Lib.repeatL [(32:UInt8),(32:UInt8)] d++cM u.kind++([(32:UInt8)]++u.label) else Lib.repeatL [(32:UInt8),(32:UInt8)] d++cM u.kind)∧(Lib.repeatL [(32:UInt8),(32:UInt8)] d++cM u.kind).length≤40)) fun a hz18=>have hz18:(a=bif aj (ae u.kind (0:Int)) then Lib.repeatL [(32:UInt8),(32:UInt8)] d++cM u.kind++([(32:UInt8)]++u.label) else Lib.repeatL [(32:UInt8),(32:UInt8)] d++cM u.kind)∧List.length a≤40:=hz18;Mj aO [2,5] (Lv u a) (Ly u a) (fun b=>Kl 2 26 (ln aQ u.head)<|Kb 0 (ar 0<|Int.ofNat u.head.length) (fun h3=>Kv 0 (iC (s:=a) (u:=[58]) (H:=aa q1) (by (first | first | assumption | ((try simp only [lA,lC,lN]);omega) | (simp only [lA,lC,lN] at *;omega)):(a).length+([58]).length≤2 ^ 62))<|Kp 1 (hp1 (a++ [58])<|by first | assumption | ((try simp only [lA,lC,lN]);omega))<|Kf 0<|b (ly (a++ [58]) u.head) (by (refine ⟨by first | simp_all | (rw [h2];rfl) | (rw [h4];rfl) | (rw [h5];rfl),?_⟩;first | omega | (have q:=uX (fun w hw=>(hh2 w hw).2) (a++ [58]);grind)):(ly (a++ [(58:UInt8)]) u.head=bif ar (0:Int) (Int.ofNat u.head.length) then ly (a++ [(58:UInt8)]) u.head else a)∧List.length (ly (a++ [(58:UInt8)]) u.head)≤6700)) fun h3=>Mf<|b a (by (refine ⟨by first | simp_all | (rw [h2];rfl) | (rw [h4];rfl) | (rw [h5];rfl),?_⟩;first | omega | (have q:=uX (fun w hw=>(hh2 w hw).2) (a++ [58]);simp only [lA,lC,lN] at q;omega)):(a=bif ar (0:Int) (Int.ofNat u.head.length) then ly (a++ [(58:UInt8)]) u.head else a)∧List.length a≤6700)) fun b hz27=>have hz27:(b=bif ar (0:Int) (Int.ofNat u.head.length) then ly (a++ [(58:UInt8)]) u.head else a)∧List.length b≤6700:=hz27;Kl 2 35 (ln aQ u.words)<|Kb 0 (ar 0<|Int.ofNat u.words.length) (fun h4=>Kv 0 (iC (s:=b) (u:=[32,124]) (H:=aa q1) (by (first | first | assumption | ((try simp only [lA,lC,lN]);omega) | (simp only [lA,lC,lN] at *;omega)):(b).length+([32,124]).length≤2 ^ 62))<|Kp 1 (hp2 (b++ [32,124])<|by first | assumption | ((try simp only [lA,lC,lN]);omega))<|Kf 2<|Le.str<|rr0<|ly (b++ [32,124]) u.words) fun h4=>Kf 1<|Le.str<|rr0 b
theorem Je (u:TUnit) (d:Nat) (hd:d≤2 ^ 20) (h:rY u):kP 344 [eU u,nV d] (.str (fD u d)):=by
  grind [Us, Ur]
noncomputable abbrev Gl (ep n:Nat):AObj:= .row 1 false 0 [.slice 2 ep 0 n none]
noncomputable abbrev Db:AObj:= .row 1 false 0 [.func (.func 343) [] [.ptr 0 0 0 0, .ptr 1 0 0 0]]
noncomputable abbrev EJ (ep:Nat) (l:List aO):AObj:= .row 1 true ep (l.map mr)
def rT (u:TUnit) (d:Nat) (l:List aO) (x0:Nat × List TUnit × Nat × Nat × List aO):Prop:=(u.kids).drop x0.1=x0.2.1∧x0.2.2.2.1=x0.2.2.2.2.length∧x0.2.2.2.2++cO (d+(1:Nat)) x0.2.1=l++ [fD u d]++cO (d+(1:Nat)) u.kids∧x0.2.2.2.2.length+dM x0.2.1≤2 ^ 20
noncomputable def rS (u:TUnit) (d:Nat) (l:List aO) (x0:Nat × List TUnit × Nat × Nat × List aO):List AV × List AObj:=([nV d,AV.ptr 1 0 0 0,AV.ls (u.kids.map aK),nV u.kids.length,nV x0.1], [AObj.row 1 false 0 [AV.slice 2 x0.2.2.1 0 x0.2.2.2.1 none],AObj.row 1 false 0 [AV.func (Fn.func 343) [] [AV.ptr 0 0 0 0,AV.ptr 1 0 0 0]],AObj.row 1 true x0.2.2.1 (x0.2.2.2.2.map mr)])
theorem Wb : ∀ (u:TUnit) (d ep n:Nat) (l:List aO),n=l.length→l.length+nU u≤2 ^ 20→d+nU u≤2 ^ 20→(∀ x,x∈bc u→rY x)→kC 343 [eU u,nV d, .ptr 0 0 0 0, .ptr 1 0 0 0] (aa [Gl ep n,Db,EJ ep l])
    (fun v h=>∃ y:Nat × Nat × List aO,(y.2.1=y.2.2.length∧y.2.2=l++dN d u)∧v = .tuple []∧h=aa [Gl y.1 y.2.1,Db,EJ y.1 y.2.2]):=by
  refine TUnit.ind fun u ih d ep n l hn hl hd ht=>?_
  have hq:=iI u
  have hkl:=bj u
  have hf:=Je u d (by omega) (ht u (c8 u))
  have ihk : ∀ k,k∈u.kids→∀ (d ep n:Nat) (l:List aO),n=l.length→l.length+nU k≤2 ^ 20→d+nU k≤2 ^ 20→kC 343 [eU k,nV d, .ptr 0 0 0 0, .ptr 1 0 0 0] (aa [Gl ep n,Db,EJ ep l])
    (fun v h=>∃ y:Nat × Nat × List aO,(y.2.1=y.2.2.length∧y.2.2=l++dN d k)∧v = .tuple []∧h=aa [Gl y.1 y.2.1,Db,EJ y.1 y.2.2]):=fun k hk d ep n l a b c=>ih k hk d ep n l a b c (fun x hx=>ht x (bf hk hx))
  exact ph Tryz.func343 fun e=>Kp 3 hf<|Mg 0<|Mw (.apx ((l++ [fD u d]).map mr)<|.go 3<|.le 16 (nV u.kids.length)<|.go 0<|.frz 3 [1,3,15,16,17]<|.loop (Nat × List TUnit × Nat × Nat × List aO) [1,3,15,16,17] (rS u d l) (rT u d l) (fun e=>e.2.1.length) (0,u.kids,(ep+1,n+1,l++ [fD u d])) fun e=>.cs TUnit e.2.1 (.go 0<|.ff .fin) fun f _=>.go 0<|.tt<|.elem (eU f)<|.go 6<|.le 24 (nV<|d+1)<|.frz 3 [1,3,15,16,17,21,22,24]<|.eff (Nat × Nat × List aO) (fun _=>cV []) (fun e=>aa [Gl e.1 e.2.1,Db,EJ e.1 e.2.2]) (fun g=>g.2.1=g.2.2.length∧g.2.2=e.2.2.2.2++dN (d+1) f) fun _=>.go 0<|.le 26 (nV<|e.1+1)<|.go 0 .fin)<|YW rt (gT (tR 1 true ep 4<|aX IZ l) rt) (et (o3 _ _:([ak (fD u d)]:List AV)≠ []) rt) (et (cW (aU ep) (by first | assumption | omega | simp_all | (refine ap (m:=2 ^ 31) ?_ ?_ ?_ <;> (try simp only [lM,lC,lN]) <;> omega):n=(l.map mr).length) (by first | assumption | omega | (simp only [lM];omega) | (refine ap (m:=2 ^ 31) ?_ ?_ ?_ <;> (try simp only [lM,lC,lN]) <;> omega):small (n+([AV.str (fD u d)]).length) 16=true))<|dg (f:=mr) (l:=l) (ws:=[fD u d])) (ln aK u.kids) (j5 (tR 1 true (ep+1) 3<|aX IZ<|l++ [fD u d]) rt rt ti) (aU<|rS u d l (0,u.kids,(ep+1,n+1,l++ [fD u d]))) (et (rfl:List.drop 0 (u.kids)=u.kids) (by first | rfl | (first | grind | (have h1:=hj0.2.1;have h2:=hj0.2.2;rw [ba] at h2;rw [lu] at h1;exact ⟨hy1.1,(by rw [hy1.2,← h1];simp),(by rw [hy1.2,lA,kw];omega)⟩)):(n+1=(l++ [fD u d]).length∧l++ [fD u d]++cO (d+1) u.kids=l++ [fD u d]++cO (d+1) u.kids∧(l++ [fD u d]).length+dM u.kids≤2 ^ 20))) fun (f:Nat × List TUnit × Nat × Nat × List aO) (g:(rT u d l) f)=>et (fun (i:f.2.1 = [])=>have j:=gy g.1 i;have :=jV (J:=fun e f=>f.2.1=f.2.2.length∧f.2.2++cO (d+1) e=l++ [fD u d]++cO (d+1) u.kids∧f.2.2.length+dM e≤2 ^ 20) (a:=f.2.2) i g.2;et j<|e (f.2.2.1,f.2.2.2.1,f.2.2.2.2)<|by first | grind [vD, Bn] | rfl) fun (e:TUnit) (i:List TUnit) (j:f.2.1=e::i)=>have o:=gc g.1 j;have :=au o;have p:=(gv (enc:=aK) g.1 j).trans<|congrArg some<|aG e;have :=cG (J:=fun e f=>f.2.1=f.2.2.length∧f.2.2++cO (d+1) e=l++ [fD u d]++cO (d+1) u.kids∧f.2.2.length+dM e≤2 ^ 20) (a:=f.2.2) j g.2;have q:=aN g.1 j;have r:f.2.2.2.2.length+nU e≤2 ^ 20:=(by grind [ba]);have s:d+1+nU e≤2 ^ 20:=(by have:=gN q;omega);xU o p (jo d) (j5 (tR 1 true f.2.2.1 3<|aX IZ f.2.2.2.2) rt rt ti) (ihk e q (d+1) f.2.2.1 f.2.2.2.1 f.2.2.2.2 (by first | assumption | omega | (simp only [lM];omega) | (refine ap (m:=2 ^ 31) ?_ ?_ ?_ <;> (try simp only [lM,lC,lN]) <;> omega)) r s) fun (o:Nat × Nat × List aO) (_:o.2.1=o.2.2.length∧o.2.2=f.2.2.2.2++dN (d+1) e)=>et (jo f.1)<|Nx.mk (I:=rT u d l) (m:=fun e=>e.2.1.length) (S:=rS u d l) (x:=f) (f.1+1,i,(o.1,o.2.1,o.2.2)) (et (bP g.1 j) (by first | exact ⟨by simp [hn],rfl,by simp;omega⟩ | grind [ba, lu, kw]:(o.2.1=o.2.2.length∧o.2.2++cO (d+1) i=l++ [fD u d]++cO (d+1) u.kids∧o.2.2.length+dM i≤2 ^ 20)))<|fu j
theorem Wc (u:TUnit) (d:Nat) (hl:nU u≤2 ^ 19) (hd:d+nU u≤2 ^ 20) (ht : ∀ x,x∈bc u→rY x):kC 343 [eU u,nV d, .ptr 0 0 0 0, .ptr 1 0 0 0] (aa [.row 1 false 0 [.nils],Db])
    (fun v h=>∃ y:Nat × Nat × List aO,(y.2.1=y.2.2.length∧y.2.2=dN d u)∧v = .tuple []∧h=aa [Gl y.1 y.2.1,Db,EJ y.1 y.2.2]):=by
  have hq:=iI u
  have hkl:=bj u
  have hf:=Je u d (by omega) (ht u (c8 u))
  have ihk : ∀ k,k∈u.kids→∀ (d ep n:Nat) (l:List aO),n=l.length→l.length+nU k≤2 ^ 20→d+nU k≤2 ^ 20→kC 343 [eU k,nV d, .ptr 0 0 0 0, .ptr 1 0 0 0] (aa [Gl ep n,Db,EJ ep l])
    (fun v h=>∃ y:Nat × Nat × List aO,(y.2.1=y.2.2.length∧y.2.2=l++dN d k)∧v = .tuple []∧h=aa [Gl y.1 y.2.1,Db,EJ y.1 y.2.2]):=fun k hk d ep n l a b c=>Wb k d ep n l a b c (fun x hx=>ht x (bf hk hx))
  exact ph Tryz.func343 fun e=>Kp 3 hf<|Kl 5 16 (ln aK u.kids)<|Mg 0<|M0 (.ren [0,1,3,2] [] [1,3,15,16,17])<|M1 (.frz 3 [1,3,15,16,17]) (j5 rt rt rt ti)<|Tc aK u.kids (0:Nat) (1:Nat) ([fD u d]:List aO) [1,3,15,16,17] (fun e _ f g i=>([nV d,bJ 1 0 0 0,aW<|u.kids.map aK,nV u.kids.length,nV e],[aZ 1 false 0 [aI 2 f 0 g none],aZ 1 false 0 [bW (bX 343) [] [bJ 0 0 0 0,bJ 1 0 0 0]],aZ 1 true f<|i.map mr])) (fun e _ f g=>f=g.length∧g++cO (d+1) e= [fD u d]++cO (d+1) u.kids∧g.length+dM e≤2 ^ 20) (by first | rfl | (first | grind | (have h1:=hj0.2.1;have h2:=hj0.2.2;rw [ba] at h2;rw [lu] at h1;exact ⟨hy1.1,(by rw [hy1.2,← h1];simp),(by rw [hy1.2,lA,kw];omega)⟩))) (fun _ _ f g i _ _ _ j _=>Kh 0 j<|Mf<|e (f,g,i)<|by first | grind [vD, Bn] | rfl) fun e _ f g i j m o p q r s _ t _=>have t:=(t).trans<|congrArg some<|aG o;have :=cG (J:=fun e f=>f.2.1=f.2.2.length∧f.2.2++cO (d+1) e= [fD u d]++cO (d+1) u.kids∧f.2.2.length+dM e≤2 ^ 20) (a:=(f,g,i)) r m;have j:=aN j r;have m:i.length+nU o≤2 ^ 20:=(by grind [ba]);have r:d+1+nU o≤2 ^ 20:=(by have:=gN j;omega);Kt 0 s<|Mx t<|Kl 6 24 (jo d)<|M1 (.frz 3 [1,3,15,16,17,21,22,24]) (j5 (tR 1 true f 3<|aX IZ i) rt rt ti)<|Mq (ihk o j (d+1) f g i (by first | assumption | omega) m r) fun f _=>Kl 0 26 (jo e)<|Kf 0<|q f.1 f.2.1 f.2.2<|by first | exact ⟨by simp [hl],rfl,by simp;omega⟩ | grind [ba, lu, kw]
theorem Up (u:TUnit) (h:mX u) (hv:kU (cp u)=false):kP 298 [eU u] (.ls (([]:List aO).map mr)):=by
  have h1:=Cb u h
  have h2:=wE (cp u) (rm h)
  exact bp Tryz.func298<|Kp 2 h1<|Mp h2<|Kt 0 (b7 hv)<|Kf 0 bu
theorem Uo (u:TUnit) (h:mX u) (hv:kU (cp u)=true):kP 298 [eU u] (.ls ((dN 0 u).map mr)):=by
  have h1:=Cb u h
  have h2:=wE (cp u) (rm h)
  have h3:=Wc u 0 h.1 (by have:=h.1;omega) h.2
  have rr0 b' (h:((dN 0 u).map mr)=b':=by first | rfl | (rw [hy0.2])):=h;exact bp Tryz.func298<|Kp 2 h1<|Mp h2<|Kh 0 (bL hv)<|Mg 5<|M0 (.ren [1,2,0] [] [3,10,11])<|M1 (.frz 2 [3,10,11]) (cW rt rt ti)<|Mq h3 fun a hy0=>Mg 1<|M2 (.fsl 0 [] 2<|a.2.2.map mr) ti (cW (aU a.1) (tA mr a.2.2 a.2.1 (by first | assumption | omega:(a.2.2).length=a.2.1))<|aX IZ a.2.2)<|Ml 2 (eH (a.2.2.map mr) false<|aX IZ a.2.2)<|Mf<|cw<|rr0<|a.2.2.map mr
theorem Wm (u:TUnit) (h:mX u) (hv:kU (cp u)=false):kP 243 [eU u] (.tuple [.str (wl u).1,iV (wl u).2]):=by
  have h1:=Up u h hv
  have e:wl u=([],1):=by unfold wl;simp_all
  rw [e]
  exact bp Tryz.func243<|Kp 3 h1<|Kf 6<|bv<|cV [ak [],iV 1]
theorem Wl (u:TUnit) (h:mX u) (hv:kU (cp u)=true):kP 243 [eU u] (.tuple [.str (wl u).1,iV (wl u).2]):=by
  have h1:=Uo u h hv
  have hlen:=kw 0 u
  have hq:=iI u
  have hm:=h.1
  have hjl:=OD (sep:= [10]) (B:=2 ^ 14) (l:=dN 0 u) (fun s hs=>yH 0 u s hs)
  rw [hlen] at hjl
  have hj2:(Lib.join (dN 0 u) [10]).length≤140737488355328:=bG hjl (bG (eW _ hm) (by grind))
  have hj3:(Lib.join (dN 0 u) [10]).length≤2 ^ 40:=bG hjl (bG (eW _ hm) (by grind))
  have hj:=SX (dN 0 u) [10] (by omega) hj2
  have hz:ae (.ofNat (dN 0 u).length) 0=false:=by grind [PB]
  have e:wl u=(bif ar 16384 (.ofNat (Lib.join (dN 0 u) [10]++ [10]).length) then ([],6) else (Lib.join (dN 0 u) [10]++ [10],0)):=by unfold wl;simp_all
  rw [e]
  clear e
  generalize Lib.join (dN 0 u) [10]=J at *
  cases hb:ar 16384 (.ofNat (J++ [10]).length)
  · have hb2:ar 16384 (.ofNat (J++ [10]).length)=false:=hb
    exact bp Tryz.func243<|Kp 3 h1<|Kl 2 9 (ln mr<|dN 0 u)<|Kh 0 hz<|Kp 0 hj<|Mv (iC (s:=J) (u:=[10]) (H:=aa [aZ 8 false 0 [av [iV u.act,iV u.item,iV u.n,iV u.kind,ak u.label,aW<|u.head.map aQ,aW<|u.words.map aQ,aW<|u.kids.map aK]]]) (by (first | first | assumption | grind | omega | (simp only [lA,lC,lN] at *;omega)):(J).length+([10]).length≤2 ^ 62))<|Kh 3 hb<|Kf 2<|bv<|cV [ak<|J++ [10],iV 0]
  · have hb2:ar 16384 (.ofNat (J++ [10]).length)=true:=hb
    exact bp Tryz.func243<|Kp 3 h1<|Kl 2 9 (ln mr<|dN 0 u)<|Kh 0 hz<|Kp 0 hj<|Mv (iC (s:=J) (u:=[10]) (H:=aa [aZ 8 false 0 [av [iV u.act,iV u.item,iV u.n,iV u.kind,ak u.label,aW<|u.head.map aQ,aW<|u.words.map aQ,aW<|u.kids.map aK]]]) (by (first | first | assumption | grind | omega | (simp only [lA,lC,lN] at *;omega)):(J).length+([10]).length≤2 ^ 62))<|Kt 3 hb<|Kf 1<|bv<|cV [ak [],iV 6]
theorem U0 (u:TUnit) (h:mX u):kP 243 [eU u] (.tuple [.str (wl u).1,iV (wl u).2]):=by
  grind [Wm, Wl]
def UC (u:TUnit):Bool:=Gp u && (aj (ae u.kind 0) && ae (wl u).2 0)
theorem UB (u:TUnit) (h:mX u):kP 154 [eU u] (.bool (UC u)):=by
  have q1:=U0 u h
  have q2:=Vd u h
  have rr0 b' (h:(UC u)=b':=by first | rfl | (unfold UC;rw [h0];rfl) | (unfold UC;rw [h0,h1];rfl) | (unfold UC;rw [h0,h1,h2];rfl)):=h;exact bp Tryz.func154<|Kp 2 q1<|Kp 5 q2<|Kb 0 (Gp u) (fun h0=>Kt 0 h0<|Kt 0 h0<|Ku 0 h0<|Kn 0 (ae u.kind 0) (fun h1=>Kt 0 (b7 h1)<|Ku 0 (b7 h1)<|Kf 0<|cq<|rr0<|ae (wl u).2 0) fun h1=>Mh (bL h1)<|My (bL h1)<|Ky 0<|rr0 false) fun h0=>Mh h0<|Mh h0<|My h0<|Ky 2<|rr0 false
/-- What an item must be, so that the walks can count. -/
def wS (x:PItem):Prop:=mI x∧(x.at_.length<2 ^ 40∧∀ s,s∈x.at_→s.label.length≤2 ^ 39)∧(x.to.length<2 ^ 40∧∀ s,s∈x.to→s.label.length≤2 ^ 39)∧(x.old.length<2 ^ 40∧∀ s,s∈x.old→s.length≤2 ^ 39)∧(x.new.length<2 ^ 40∧∀ s,s∈x.new→s.length≤2 ^ 39)∧x.label.length≤2 ^ 39∧x.for_.length≤2 ^ 39∧x.start.event.length≤2 ^ 39∧mX x.unit
/-- What a valid item is known to be. -/
def y9 (x:PItem):Prop:=(x.kind=0∨x.kind=6→iX x.where_=true)∧(x.kind=0→UC x.unit=true)∧(x.kind=2∨x.kind=3→pB x.old=true∧Ad x.nth_=true)∧(x.kind=2∨x.kind=3∨x.kind=4→pB x.new=true)
theorem pu {l:List aO} {n:Int} (h:pA l n=true):pB l=true:=by
  simp_all [pA]
theorem TT (x:PItem) (hx:wS x) (h0:0≤x.kind) (h6:x.kind≤6) : ∃ b,kP 46 [eI x] (.bool b)∧(b=true→y9 x):=by
  obtain ⟨k,a,t,w,n,u,o,ne,l,f,s,ac,im,d,e,bs⟩:=x
  obtain ⟨hf,⟨ha,has⟩,⟨ht,hts⟩,⟨ho,hos⟩,⟨hn,hns⟩,hl,hfo,hse,hu⟩:=hx
  have hz:oC bx:=⟨by grind,by grind,by grind,trivial⟩
  have n0:(0:Nat)<2 ^ 60:=by omega
  obtain ⟨f1,f2,f3,f4,f5,f6,f7⟩:=hf
  have hff : ∀ k w n,mI ⟨k,a,t,w,n,u,o,ne,l,f,s,ac,im,d,e,bs⟩:=fun _ _ _=>⟨f1,f2,f3,f4,f5,f6,f7⟩
  have h0:0≤k:=h0
  have h6:k≤6:=h6
  have hk:k=0∨k=1∨k=2∨k=3∨k=4∨k=5∨k=6:=by omega
  rcases hk with rfl | rfl | rfl | rfl | rfl | rfl | rfl
  · refine ⟨_,oX ⟨0,a,t,w,n,u,o,ne,l,f,s,ac,im,d,e,bs⟩ (nw ⟨0,a,t,w,n,u,o,ne,l,f,s,ac,im,d,e,bs⟩ 0) 151 152 _ _ rfl rfl (S8 _) (sZ _ (hff _ _ _) (vP ⟨0,a,t,w,n,u,o,ne,l,f,s,ac,im,d,e,bs⟩ (nw ⟨0,a,t,w,n,u,o,ne,l,f,s,ac,im,d,e,bs⟩ 0)) ⟨f1,n0,n0,n0,n0,f6,trivial⟩) (R5 a t w n u o ne l f s ac im d e bs (UC u) (UB u hu)) ha has hfo hse,fun h=>?_⟩
    simp only [bK] at h
    exact ⟨fun _=>h.2.2.2.2.1,fun _=>h.2.2.2.2.2,fun q=>(by rcases q with q | q <;> cases q),fun q=>(by rcases q with q | q | q <;> cases q)⟩
  · refine ⟨_,oX ⟨1,a,t,w,n,u,o,ne,l,f,s,ac,im,d,e,bs⟩ (nw ⟨1,a,t,w,n,u,o,ne,l,f,s,ac,im,d,e,bs⟩ 1) 155 156 _ _ rfl rfl (S7 _) (sZ _ (hff _ _ _) (vP ⟨1,a,t,w,n,u,o,ne,l,f,s,ac,im,d,e,bs⟩ (nw ⟨1,a,t,w,n,u,o,ne,l,f,s,ac,im,d,e,bs⟩ 1)) ⟨f1,n0,n0,n0,n0,hz,trivial⟩) (R4 a t w n u o ne l f s ac im d e bs) ha has hfo hse,fun h=>?_⟩
    exact ⟨fun q=>(by rcases q with q | q <;> cases q),fun q=>(by cases q),fun q=>(by rcases q with q | q <;> cases q),fun q=>(by rcases q with q | q | q <;> cases q)⟩
  · refine ⟨_,oX ⟨2,a,t,w,n,u,o,ne,l,f,s,ac,im,d,e,bs⟩ (nw ⟨2,a,t,w,n,u,o,ne,l,f,s,ac,im,d,e,bs⟩ 2) 157 158 _ _ rfl rfl (S6 _) (sZ _ (hff _ _ _) (vP ⟨2,a,t,w,n,u,o,ne,l,f,s,ac,im,d,e,bs⟩ (nw ⟨2,a,t,w,n,u,o,ne,l,f,s,ac,im,d,e,bs⟩ 2)) ⟨f1,n0,f3,f4,n0,hz,trivial⟩) (R3 a t w n u o ne l f s ac im d e bs ho hn hos hns) ha has hfo hse,fun h=>?_⟩
    simp only [bK] at h
    exact ⟨fun q=>(by rcases q with q | q <;> cases q),fun q=>(by cases q),fun _=>⟨pu h.2.2.2.2.1,h.2.2.2.2.2.2⟩,fun _=>pu h.2.2.2.2.2.1⟩
  · refine ⟨_,oX ⟨3,a,t,w,n,u,o,ne,l,f,s,ac,im,d,e,bs⟩ (nw ⟨3,a,t,w,n,u,o,ne,l,f,s,ac,im,d,e,bs⟩ 3) 161 162 _ _ rfl rfl (S5 _) (sZ _ (hff _ _ _) (vP ⟨3,a,t,w,n,u,o,ne,l,f,s,ac,im,d,e,bs⟩ (nw ⟨3,a,t,w,n,u,o,ne,l,f,s,ac,im,d,e,bs⟩ 3)) ⟨f1,n0,f3,f4,n0,hz,trivial⟩) (R0 a t w n u o ne l f s ac im d e bs ho hn hos hns) ha has hfo hse,fun h=>?_⟩
    simp only [bK] at h
    exact ⟨fun q=>(by rcases q with q | q <;> cases q),fun q=>(by cases q),fun _=>⟨pu h.2.2.2.2.1,h.2.2.2.2.2.2.1⟩,fun _=>pu h.2.2.2.2.2.1⟩
  · refine ⟨_,oX ⟨4,a,t,w,n,u,o,ne,l,f,s,ac,im,d,e,bs⟩ (nw ⟨4,a,t,w,n,u,o,ne,l,f,s,ac,im,d,e,bs⟩ 4) 163 164 _ _ rfl rfl (S4 _) (sZ _ (hff _ _ _) (vP ⟨4,a,t,w,n,u,o,ne,l,f,s,ac,im,d,e,bs⟩ (nw ⟨4,a,t,w,n,u,o,ne,l,f,s,ac,im,d,e,bs⟩ 4)) ⟨f1,n0,n0,f4,n0,hz,trivial⟩) (RT a t w n u o ne l f s ac im d e bs hn hns) ha has hfo hse,fun h=>?_⟩
    simp only [bK] at h
    exact ⟨fun q=>(by rcases q with q | q <;> cases q),fun q=>(by cases q),fun q=>(by rcases q with q | q <;> cases q),fun _=>pu h.2.2.2.2⟩
  · refine ⟨_,oX ⟨5,a,t,w,n,u,o,ne,l,f,s,ac,im,d,e,bs⟩ (nw ⟨5,a,t,w,n,u,o,ne,l,f,s,ac,im,d,e,bs⟩ 5) 165 166 _ _ rfl rfl (S3 _) (sZ _ (hff _ _ _) (vP ⟨5,a,t,w,n,u,o,ne,l,f,s,ac,im,d,e,bs⟩ (nw ⟨5,a,t,w,n,u,o,ne,l,f,s,ac,im,d,e,bs⟩ 5)) ⟨f1,n0,n0,n0,n0,hz,trivial⟩) (RS a t w n u o ne l f s ac im d e bs hl) ha has hfo hse,fun h=>?_⟩
    exact ⟨fun q=>(by rcases q with q | q <;> cases q),fun q=>(by cases q),fun q=>(by rcases q with q | q <;> cases q),fun q=>(by rcases q with q | q | q <;> cases q)⟩
  · refine ⟨_,oX ⟨6,a,t,w,n,u,o,ne,l,f,s,ac,im,d,e,bs⟩ (nw ⟨6,a,t,w,n,u,o,ne,l,f,s,ac,im,d,e,bs⟩ 6) 168 169 _ _ rfl rfl (S2 _) (sZ _ (hff _ _ _) (vP ⟨6,a,t,w,n,u,o,ne,l,f,s,ac,im,d,e,bs⟩ (nw ⟨6,a,t,w,n,u,o,ne,l,f,s,ac,im,d,e,bs⟩ 6)) ⟨f1,f2,n0,n0,n0,hz,trivial⟩) (RR a t w n u o ne l f s ac im d e bs ht hts) ha has hfo hse,fun h=>?_⟩
    simp only [bK] at h
    exact ⟨fun _=>h.2.2.2.2.1,fun q=>(by cases q),fun q=>(by rcases q with q | q <;> cases q),fun q=>(by rcases q with q | q | q <;> cases q)⟩
theorem vA {u:TUnit} (h:OkB u) : ∀ x,x∈bc u→x.head.length<2 ^ 30∧x.words.length<2 ^ 30:=fun x hx=>⟨o4 (h.w x hx).1 (by omega),o4 (h.w x hx).2 (by omega)⟩
theorem CA (p:PId) (u:TUnit) (hn:nU u≤1024) : -1≤pF p u∧pF p u≤2 ^ 20:=by
  cases h:jQ p u with
  | false=>rw [N4 h];omega
  | true=>
    obtain ⟨q,i,h1,_,h3,h4,_⟩:=uo u h
    have:=dA h1
    grind [bj]
theorem xJ (w:Int) (u:TUnit) (p:PId) (hn:nU u≤1024) : -1≤(dV w u p).1.at_∧(dV w u p).1.at_≤2 ^ 41:=by
  have hb:=CA p u hn
  have key : ∀ n:Int,0≤n→n≤1→ -1≤(m7 u p n).1.at_∧(m7 u p n).1.at_≤2 ^ 41:=fun n h0 h1=>by
    unfold m7
    cases jQ p u
    · exact ⟨by show (-1:Int)≤0;omega,by show (0:Int)≤_;omega⟩
    grind
  unfold dV
  cases ae w 0
  · cases ae w 1
    · grind
    · show -1≤Int.ofNat _∧Int.ofNat _≤2 ^ 41
      have:(eu p u).kids.length≤1024:=by
        cases h:cZ p u with
        | true=>
          have:=dA (pE h).1
          grind [bj]
        | false=>unfold eu;rw [h];exact bN _
      grind
  simp_all
theorem uR {u:TUnit} (hu:OkB u) (p:PId):kP 48 [eU u,aV p] (.tuple [eU (eu p u), .bool (cZ p u)]):=Pg p u (bG hu.n (by omega)) (vA hu)
theorem jE {u:TUnit} (hu:OkB u) (p:PId):kP 148 [eU u,aV p] (.tuple [aV (sP p u),iV (pF p u), .bool (jQ p u)]):=N1 p u (bG hu.n (by omega))
theorem vu {u:TUnit} (hu:OkB u) (p:List PStep) (hp:p.length<2 ^ 40∧∀ s,s∈p→s.label.length≤2 ^ 39):kP 47 [eU u, .ls (p.map ax)] (.tuple [aV (aB u p).1,iV (aB u p).2]):=
  Lp u p (Sr u p (bG hu.n (by omega)) hp.1 hp.2) (bG hu.n (by omega))
theorem Jl {u:TUnit} (hu:OkB u) (p:PId):kP 332 [eU u,aV p] (.tuple [eO (dV 0 u p).1,iV (dV 0 u p).2]):=OA u _ p _ (uR hu p)
theorem Ji {u:TUnit} (hu:OkB u) (p:PId):kP 335 [eU u,aV p] (.tuple [eO (dV 1 u p).1,iV (dV 1 u p).2]):=Ou u _ p _ (uR hu p)
theorem Jh {u:TUnit} (hu:OkB u) (p:PId):kP 337 [eU u,aV p] (.tuple [eO (dV 2 u p).1,iV (dV 2 u p).2]):=Ot u p _ _ _ (jE hu p) (by have:=CA p u hu.n;omega)
theorem Jg {u:TUnit} (hu:OkB u) (p:PId):kP 339 [eU u,aV p] (.tuple [eO (dV 3 u p).1,iV (dV 3 u p).2]):=Oo u p _ _ _ (jE hu p) (by have:=CA p u hu.n;omega)
theorem vv {w:Int} (h:iX w=true):w=0∨w=1∨w=2∨w=3:=by
  unfold iX at h
  rw [bK] at h
  have h1:=gu h.1
  have h2:=gu h.2
  omega
/-- Where a unit is inserted. -/
theorem Rn {u:TUnit} (hu:OkB u) (p:List PStep) (hp:p.length<2 ^ 40∧∀ s,s∈p→s.label.length≤2 ^ 39) (w:Int) (hw:iX w=true):kP 219 [eU u, .ls (p.map ax),iV w]
    (.tuple [aV (BV (aB u p).2 (dV w u (aB u p).1).1 (dV w u (aB u p).1).2).1.id,iV (BV (aB u p).2 (dV w u (aB u p).1).1 (dV w u (aB u p).1).2).1.at_,iV (BV (aB u p).2 (dV w u (aB u p).1).1 (dV w u (aB u p).1).2).2]):=by
  rcases vv hw with rfl | rfl | rfl | rfl
  · exact qb 0 _ rfl rfl u p _ _ _ _ (vu hu p hp) (Jl hu _)
  · exact qb 1 _ rfl rfl u p _ _ _ _ (vu hu p hp) (Ji hu _)
  · exact qb 2 _ rfl rfl u p _ _ _ _ (vu hu p hp) (Jh hu _)
  · exact qb 3 _ rfl rfl u p _ _ _ _ (vu hu p hp) (Jg hu _)
theorem UO {u:TUnit} (hu:OkB u) (p q:PId) (w:Int) (hw:iX w=true) : ∃ bs,kP 221 [eU u,aV p,aV q,iV w]
    (.tuple [eO (nq p q (sP p u) (pF p u) (jQ p u) ((pq q u).any (bw p)) bs (dV w u q).1 (dV w u q).2).1,iV (nq p q (sP p u) (pF p u) (jQ p u) ((pq q u).any (bw p)) bs (dV w u q).1 (dV w u q).2).2]):=by
  have hb:=CA p u hu.n
  have hb : -1≤pF p u∧pF p u≤2 ^ 40:=by omega
  have hn:nU u≤2 ^ 20:=bG hu.n (by omega)
  have hal:(pq q u).length<2 ^ 40:=by
    grind [ll, pq]
  have hC:=J5 (pq q u) p hal
  rcases vv hw with rfl | rfl | rfl | rfl
  · exact ⟨_,Fg 0 _ rfl rfl rfl u p q _ _ _ _ _ _ _ hb (xJ 0 u q hu.n) (jE hu p) (GA q u hn) hC (Jl hu q)⟩
  · exact ⟨_,Fg 1 _ rfl rfl rfl u p q _ _ _ _ _ _ _ hb (xJ 1 u q hu.n) (jE hu p) (GA q u hn) hC (Ji hu q)⟩
  · exact ⟨_,PK u p q _ _ _ _ _ _ _ hb (xJ 2 u q hu.n) (jE hu p) (GA q u hn) hC (Jh hu q)⟩
  · exact ⟨_,PJ u p q _ _ _ _ _ _ _ hb (xJ 3 u q hu.n) (jE hu p) (GA q u hn) hC (Jg hu q)⟩
theorem FC {B:Nat} : ∀ {l:List TUnit},(∀ x,x∈l→(mN x).length≤B)→(l.flatMap mN).length≤B * l.length
  | [],_=>bN _
  | x::r,h=>by
    have h1:=h x fp
    have h2:=FC (l:=r) fun y hy=>h y (fY _ hy)
    rw [List.flatMap_cons,lA,lC,Nat.mul_succ];omega
theorem Ny {u:TUnit} (h:mX u):(mE u).length≤2 ^ 29:=by
  rw [Qr]
  have h1 : ∀ x,x∈bc u→(mN x).length≤600:=fun x hx=>by
    obtain ⟨a,b,_⟩:=h.2 x hx
    grind [mN]
  have h2:=FC h1
  have h3:(bc u).length=nU u:=by grind [lj, dQ]
  rw [h3] at h2
  have:=h.1
  omega
theorem VS {e:Int} {sp:PSpot} {e2:Int} (h:(BV e sp e2).2=0):e=0∧e2=0∧(BV e sp e2).1=sp:=by
  unfold BV at h ⊢
  cases h1:ae e 0 with
  | false=>rw [h1] at h;rw [show e=0 from h] at h1;cases h1
  | true=>
    rw [h1] at h
    cases h2:ae e2 0 with
    | false=>rw [h2] at h;rw [show e2=0 from h] at h2;cases h2
    | true=>exact ⟨je h1,je h2,rfl⟩
theorem SU {u u2:TUnit} {te:Int} {full cf:Bool} : (Lf u te full cf u2).1=u∨(full=false∧cf=false∧(Lf u te full cf u2).1=u2):=by
  unfold Lf;cases ae te 0 <;> cases full <;> cases cf <;> first | exact .inl rfl | simp_all
/-- An insertion has an outcome. -/
theorem TB {u:TUnit} (hu:OkB u) (f:TUnit) (d:PDeed) (hd:wS d.it) (hg:y9 d.it) (hk:d.it.kind=0) : ∃ r:pz,kP 73 [eU u,eU f,az d] (ee r)∧OkB r.1:=by
  have hw:=hg.1 (.inl hk)
  have hD:=PL u d.it _ _ _ (by rw [hk];rfl) (Rn hu d.it.at_ hd.2.1 d.it.where_ hw)
  cases he:ae (BV (aB u d.it.at_).2 (dV d.it.where_ u (aB u d.it.at_).1).1 (dV d.it.where_ u (aB u d.it.at_).1).2).2 0 with
  | false=>exact ⟨(u,_),Sz u f d _ _ _ he hD,hu⟩
  | true=>
    have e0:=je he
    obtain ⟨e1,e2,e3⟩:=VS e0
    obtain ⟨n,n1,n2,n3⟩:=E9 hu (qX e1) e2
    rw [e0,e3,n1] at hD
    have ht:=hd.2.2.2.2.2.2.2.2
    have hS:=Ng d.act d.item d.it.unit (bG ht.1 (by omega)) (Ny ht) (fun x hx=>⟨bG (ht.2 x hx).1 (by omega),bG (ht.2 x hx).2.1 (by omega)⟩)
    have hsn:=Nh d.act d.item d.it.unit 0 0
    have hsi:=ux d.act d.item d.it.unit 0 0
    have hsw:=IH d.act d.item 300 d.it.unit 0 0 (fun x hx=>⟨(ht.2 x hx).1,(ht.2 x hx).2.1⟩)
    generalize cF d.act d.item d.it.unit 0 0=X at *
    have hn:=hu.n
    have hm:=ht.1
    have hX:nU X≤2 ^ 19:=by omega
    have hkp:(eu (dV d.it.where_ u (aB u d.it.at_).1).1.id u).kids.length<2 ^ 40:=by
      cases h:cZ (dV d.it.where_ u (aB u d.it.at_).1).1.id u with
      | true=>have:=dA (pE h).1;grind [bj]
      | false=>unfold eu;rw [h];exact o4 (bN 0) (by omega)
    have hiu:(dQ u).length<2 ^ 40:=by grind [lj]
    have hix:(dQ X).length<2 ^ 40:=by grind [lj]
    refine ⟨_,SK u f _ X _ d _ n (nU u) (nU X) _ _ _ _ (dQ u) (dQ X) (by omega) (by omega) hD (uR hu _) hS (xC _ X hkp) (JS u X _ (by omega) (by omega)) (Dq u (by omega)) (Dq X (by omega)) (O7 u (by omega)) (O7 X (by omega)) (YK (dQ X) (dQ u) hiu hix) (M9 _ n X u (by omega) (vA hu) n3),?_⟩
    rcases SU (u:=u) (u2:=cS (dV d.it.where_ u (aB u d.it.at_).1).1.id (dF n X) u) (te:=Cy (eu (dV d.it.where_ u (aB u d.it.at_).1).1.id u) X) (full:=aj (ar (Int.ofNat (eu (dV d.it.where_ u (aB u d.it.at_).1).1.id u).kids.length) 64) || (PT u (dV d.it.where_ u (aB u d.it.at_).1).1.id X || ar 1024 (Int.ofNat (nU u+nU X)))) (cf:=(dQ X).any fun i=>(dQ u).any (bw i)) with q | ⟨q1,q2,q3⟩
    · simp_all
    · rw [q3]
      rw [Au,Au] at q1
      have q4:=aF q1.2.2
      simp only [oN] at q4
      refine hu.ins (by grind [Nl]) (fun p hp hq=>?_) (by omega) hsw
      grind [ka]
/-- A unit is taken away. -/
theorem Tm {u:TUnit} (hu:OkB u) {p:PId} (hp:jQ p u=true) : ∃ q i,q∈bc u∧sP p u=bV q∧pF p u=Int.ofNat i∧i<q.kids.length∧bV (gD q.kids i)=p∧kP 141 [eU u,aV p] (eU (cS (bV q) (gP i) u)):=by
  obtain ⟨q,i,h1,h2,h3,h4,h5⟩:=uo u hp
  have hP:=jE hu p
  rw [h2,h3,hp] at hP
  exact ⟨q,i,h1,h2,h3,h4,h5,xm u _ p _ i hP (NZ (bV q) i u (bG hu.n (by omega)) (vA hu) fun v hv hid=>by rw [hu.uni hv h1 ((gJ _ v).1 hid)];omega)⟩
theorem VI {u x:TUnit} (hu:OkB u) (d:PDeed) (hp:jQ (bV x) u=true) : ∃ r:pz,kP 74 [eU u,eU x,az d] (ee r)∧OkB r.1:=by
  obtain ⟨q,i,h1,h2,h3,h4,h5,h6⟩:=Tm hu hp
  exact ⟨_,Ry u x _ d h6,(hu.del h1 h4).1⟩
theorem Cp (l:List PWord):(ug l).length≤256:=by
  unfold ug
  cases h:ar 256 (Int.ofNat l.length) with
  | true=>simp_all
  | false=>have:=aF h;grind
theorem NE (a b:Int) (w:List PWord) (old new:List aO) (n:Int):(Eo a b w old new n).1.length≤256:=by
  unfold Eo
  cases ae (Int.ofNat old.length) 0
  · cases ae (Int.ofNat (nK (s5 (bI w) old) n).length) 0
    · exact Cp _
    simp_all
  simp_all
theorem SV (a b:Int) (w:List PWord) (part new:List aO) (n:Int):(C1 a b w part new n).1.length≤256:=by
  unfold C1
  cases (ae (Int.ofNat new.length) 0 || (ae (Int.ofNat part.length) 0 && aj (ae n 0)))
  · cases ae (Int.ofNat part.length) 0
    · cases ae (Int.ofNat (nK (s5 (bI w) part) n).length) 0
      · exact Cp _
      simp_all
    · exact Cp _
  simp_all
theorem sB {l:List aO} (h:pB l=true):l.length≤256:=by
  unfold pB at h
  rw [bK] at h
  have:=gu h.1
  grind
theorem Jj {n:Int} (h:Ad n=true):0≤n∧n≤256:=by
  simp_all [Ad, gu]
theorem Bw {u:TUnit} (hu:OkB u) (q:PId) {l:List PWord} (hl:l.length≤300):OkB (cS q (lh l) u):=hu.keep (fun _=>⟨rfl,rfl⟩) fun v hv=>⟨(hu.w v hv).1,hl⟩
theorem Ox {u:TUnit} (hu:OkB u) (q:PId) {l:List PWord} (hl:l.length≤300):OkB (cS q (y6 l) u):=hu.keep (fun _=>⟨rfl,rfl⟩) fun v hv=>⟨hl,(hu.w v hv).2⟩
theorem LV {u:TUnit} (hu:OkB u) (q:PId) (s:aO):OkB (cS q (qm s) u):=hu.keep (fun _=>⟨rfl,rfl⟩) fun v hv=>hu.w v hv
theorem Io {u u2:TUnit} {e:Int} (h:OkB u) (h2:OkB u2):OkB (DS u e u2).1:=by
  grind [DS]
theorem Vr {u x:TUnit} (hu:OkB u) (hx:x∈bc u) (d:PDeed) (hg:y9 d.it) (hk:d.it.kind=2) : ∃ r:pz,kP 75 [eU u,eU x,az d] (ee r)∧OkB r.1:=by
  obtain ⟨h1,h2⟩:=hg.2.2.1 (.inl hk)
  have h3:=sB h1
  have h4:=sB (hg.2.2.2 (.inl hk))
  obtain ⟨h5,h6⟩:=Jj h2
  have h7:=(hu.w x hx).2
  have hR:=Rv d.act d.item x.words d.it.old d.it.new d.it.nth_ (by omega) (by omega) (by omega) h5 (by omega) (lg h5)
  exact ⟨_,QO u x _ d _ _ hR (M4 (bV x) _ u (bG hu.n (by omega)) (vA hu)),Io hu (Bw hu _ (bG (NE ..) (by omega)))⟩
theorem VP {u x:TUnit} (hu:OkB u) (hx:x∈bc u) (d:PDeed) (hg:y9 d.it) (hk:d.it.kind=3) : ∃ r:pz,kP 76 [eU u,eU x,az d] (ee r)∧OkB r.1:=by
  obtain ⟨h1,h2⟩:=hg.2.2.1 (.inr hk)
  have h3:=sB h1
  have h4:=sB (hg.2.2.2 (.inr (.inl hk)))
  obtain ⟨h5,h6⟩:=Jj h2
  have h7:=(hu.w x hx).2
  have hR:=Wd d.act d.item x.words d.it.old d.it.new d.it.nth_ (by omega) (by omega) (by omega) h5 (by omega)
  exact ⟨_,Re u x _ d _ _ hR (M6 (bV x) _ u (bG hu.n (by omega)) (vA hu)),Io hu (Bw hu _ (bG (SV ..) (by omega)))⟩
theorem Wi {u x:TUnit} (hu:OkB u) (d:PDeed) (hg:y9 d.it) (hk:d.it.kind=4) : ∃ r:pz,kP 77 [eU u,eU x,az d] (ee r)∧OkB r.1:=by
  have h4:=sB (hg.2.2.2 (.inr (.inr hk)))
  have hM:=xX d.it.new d.act d.item 0 (by omega) (by omega)
  exact ⟨_,Sf u x _ d _ hM (NQ (bV x) _ u (bG hu.n (by omega)) (vA hu)),Ox hu _ (by grind [fh])⟩
theorem Tt {u:TUnit} (hu:OkB u) (p:PId):(eu p u).kids.length<2 ^ 40:=by
  have hn:=hu.n
  cases h:cZ p u with
  | true=>have:=dA (pE h).1;grind [bj]
  | false=>unfold eu;rw [h];exact o4 (bN 0) (by omega)
theorem VN {u x:TUnit} (hu:OkB u) (d:PDeed) : ∃ r:pz,kP 78 [eU u,eU x,az d] (ee r)∧OkB r.1:=by
  refine ⟨_,Rb u x _ _ d _ _ _ _ _ (jE hu (bV x)) (uR hu _) (xC _ _ (Tt hu _)) (M5 (bV x) d u (bG hu.n (by omega)) (vA hu)),?_⟩
  grind [Rc, LV]
theorem RH {u u2:TUnit} {te:Int} {full:Bool} (h:OkB u) (h2:OkB u2):OkB (Of u te full u2).1:=by
  grind [Of]
theorem Wr {e2 e3:Int} {sp:PSpot} (h:(GY 0 e2 sp e3).2=0):e2=0∧e3=0∧(GY 0 e2 sp e3).1=sp:=by
  unfold GY at h ⊢
  rw [show ae 0 0=true from rfl] at h ⊢
  simp only [cond_true] at h ⊢
  cases h1:ae e2 0 with
  | false=>rw [h1] at h;rw [show e2=0 from h] at h1;cases h1
  | true=>
    rw [h1] at h
    cases h2:ae e3 0 with
    | false=>rw [h2] at h;rw [show e3=0 from h] at h2;cases h2
    | true=>exact ⟨je h1,je h2,rfl⟩
/-- A move has an outcome. -/
theorem Wk {u x:TUnit} (hu:OkB u) (hx:x∈bc u) (d:PDeed) (hd:wS d.it) (hg:y9 d.it) (hk:d.it.kind=6) (h0:(aB u d.it.at_).2=0) (hid:(aB u d.it.at_).1=bV x) (hp:jQ (bV x) u=true) : ∃ r:pz,kP 79 [eU u,eU x,az d] (ee r)∧OkB r.1:=by
  have hw:=hg.1 (.inr hk)
  have hF:=vu hu d.it.at_ hd.2.1
  rw [h0,hid] at hF
  obtain ⟨bs,hG⟩:=UO hu (bV x) (aB u d.it.to).1 d.it.where_ hw
  obtain ⟨q,i,h1,h2,h3,h4,h5,h6⟩:=Tm hu hp
  have hD:=PI u d.it _ _ _ _ _ _ (by rw [hk];rfl) (by rw [hk];rfl) hw hF (vu hu d.it.to hd.2.2.1) hG
  rw [h2,h3,hp] at hD
  cases he:ae (GY 0 (aB u d.it.to).2 (nq (bV x) (aB u d.it.to).1 (bV q) (Int.ofNat i) true ((pq (aB u d.it.to).1 u).any (bw (bV x))) bs (dV d.it.where_ u (aB u d.it.to).1).1 (dV d.it.where_ u (aB u d.it.to).1).2).1 (nq (bV x) (aB u d.it.to).1 (bV q) (Int.ofNat i) true ((pq (aB u d.it.to).1 u).any (bw (bV x))) bs (dV d.it.where_ u (aB u d.it.to).1).1 (dV d.it.where_ u (aB u d.it.to).1).2).2).2 0 with
  | false=>exact ⟨(u,_),RI u x d _ _ _ he hD,hu⟩
  | true=>
    have e0:=je he
    obtain ⟨e1,e2,e3⟩:=Wr e0
    obtain ⟨n,n1,n2,n3⟩:=PW hu h1 h4 (qX e1) e2
    rw [e0,e3,n1] at hD
    obtain ⟨hr,hpm⟩:=hu.del h1 h4
    have hkx:gD q.kids i=x:=hu.uni (ii h1 (bf (iY h4) (c8 _))) hx h5
    rw [hkx] at hpm
    have hnr:=hr.n
    have hnx:=dA hx
    have hn:=hu.n
    refine ⟨_,RG u x _ _ _ d _ _ n _ _ _ _ _ hD (jE hu (bV x)) h6 (uR hr _) (xC _ x (Tt hr _)) (JS _ x _ (by omega) (by omega)) (M7 _ n x _ (by omega) (vA hr) n3),RH hu ?_⟩
    have hnd:=List.nodup_append.1 (hpm.nodup_iff.1 hu.nd)
    have hlen:=hpm.length_eq
    rw [lA,← lj,← lj,← lj] at hlen
    exact hr.ins hnd.2.1 (fun p hp hq=>hnd.2.2 p hq p hp rfl) (by omega) (fun y hy=>hu.w y (ii hx hy))
/-- An item's doer. -/
theorem Xr {u x:TUnit} (hu:OkB u) (hx:x∈bc u) (d:PDeed) (hd:wS d.it) (hg:y9 d.it) (hk0:0≤d.it.kind) (hk6:d.it.kind≤6) (h0:(aB u d.it.at_).2=0) (hid:(aB u d.it.at_).1=bV x) (hp:jQ (bV x) u=true) : ∃ r:pz,kP (TH d.it.kind) [eU u,eU x,az d] (ee r)∧OkB r.1:=by
  have hk:d.it.kind=0∨d.it.kind=1∨d.it.kind=2∨d.it.kind=3∨d.it.kind=4∨d.it.kind=5∨d.it.kind=6:=by omega
  rcases hk with h | h | h | h | h | h | h <;> rw [h]
  · exact TB hu x d hd hg h
  · exact VI hu d hp
  · exact Vr hu hx d hg h
  · exact VP hu hx d hg h
  · exact Wi hu d hg h
  · exact VN hu d
  · exact Wk hu hx d hd hg h h0 hid hp
/-- An amendment has one outcome. -/
theorem TK {u:TUnit} (hu:OkB u) (d:PDeed) (hd:wS d.it) (hk0:0≤d.it.kind) (hk6:d.it.kind≤6) : ∃ r:pz,kP 26 [eU u,az d] (ee r)∧OkB r.1:=by
  obtain ⟨b,hV,hg⟩:=TT d.it hd hk0 hk6
  have hl:=Un d hk0 hk6
  cases b with
  | false=>grind [TV]
  | true=>
    have hg:=hg rfl
    have hF:=vu hu d.it.at_ hd.2.1
    cases he:ae (aB u d.it.at_).2 0 with
    | false=>exact ⟨_,TU u d _ _ _ hl hV he hF,hu⟩
    | true=>
      have e0:=je he
      have hh:=qX e0
      obtain ⟨hx,hxi⟩:=pE hh
      rw [e0] at hF
      have hX:=uR hu (aB u d.it.at_).1
      cases hi:(ae (aB u d.it.at_).1.a u.act && (ae (aB u d.it.at_).1.i u.item && ae (aB u d.it.at_).1.n u.n)) with
      | true=>
        cases hk:ae d.it.kind 0 with
        | true=>
          have hk:=je hk
          obtain ⟨r,h1,h2⟩:=TB hu (eu (aB u d.it.at_).1 u) d hd hg hk
          exact ⟨r,Qd u _ d _ _ _ r hl hV hF hX hi (by omega) (by rw [hk];exact h1),h2⟩
        | false=>exact ⟨_,TY u _ d _ _ _ _ _ hl hV hF hX hi hk (vu hu d.it.to hd.2.2.1),hu⟩
      | false=>
        have hni:fL (aB u d.it.at_).1 u=false:=by
          cases q:fL (aB u d.it.at_).1 u with
          | false=>rfl
          | true=>
            have:=(gJ _ u).1 q
            rw [← this] at hi
            have e:(ae (bV u).a u.act && (ae (bV u).i u.item && ae (bV u).n u.n))=true:=by
              show (ae u.act u.act && (ae u.item u.item && ae u.n u.n))=true
              rw [bZ,bZ,bZ];rfl
            simp_all
        grind [Xr, Sh, Tq]
theorem Qn {k:Int} (h:rQ k=true):0≤k∧k≤6:=by
  simp_all [rQ, gu]
/-- What an amendment makes of a book: the one outcome there is. -/
structure AppOk (u:TUnit) (d:PDeed):Prop where
  b:OkB u
  i:wS d.it
  a:rQ d.it.kind=true
theorem Qb {u:TUnit} {d:PDeed} (h:AppOk u d) : ∃ r:pz,kP 26 [eU u,az d] (ee r)∧OkB r.1:=TK h.b d h.i (Qn h.a).1 (Qn h.a).2
open Classical in
noncomputable def kh (u:TUnit) (d:PDeed):pz:=if h:AppOk u d then (Qb h).choose else (u,0)
theorem qH {u:TUnit} {d:PDeed} (h:AppOk u d):kP 26 [eU u,az d] (.tuple [eU (kh u d).1,iV (kh u d).2])∧OkB (kh u d).1:=by
  unfold kh;rw [dif_pos h];exact (Qb h).choose_spec
theorem TN (u:TUnit) (d:PDeed) (h1:OkB u) (h2:wS d.it) (h3:rQ d.it.kind=true):kP 26 [eU u,az d] (.tuple [eU (kh u d).1,iV (kh u d).2]):=(qH ⟨h1,h2,h3⟩).1
noncomputable def sl (u:TUnit) (d:PDeed):TUnit:=bif rQ d.it.kind then (kh u d).1 else u
noncomputable def E0 (u:TUnit) (d:PDeed):List PFail:=bif rQ d.it.kind then (bif ae (kh u d).2 0 then [] else [⟨d.act,d.item,(kh u d).2⟩]) else []
theorem Nf {u:TUnit} {d:PDeed} (h1:OkB u) (h2:wS d.it):OkB (sl u d):=by
  unfold sl
  cases h:rQ d.it.kind with
  | false=>grind
  | true=>exact (qH ⟨h1,h2,h⟩).2
noncomputable def dJ:TUnit→List PDeed→TUnit
  | u, []=>u
  | u,d::r=>dJ (sl u d) r
noncomputable def eT:TUnit→List PDeed→List PFail
  | _, []=> []
  | u,d::r=>E0 u d++eT (sl u d) r
theorem Gn : ∀ {l:List PDeed} {u:TUnit},OkB u→(∀ d,d∈l→wS d.it)→OkB (dJ u l)
  | [],_,h,_=>h
  | d::r,u,h,hl=>Gn (l:=r) (u:=sl u d) (Nf h (hl d (fp ..))) fun x hx=>hl x (fY _ hx)
theorem BH : ∀ (l:List PDeed) (u:TUnit),(eT u l).length≤l.length
  | [],_=>al _
  | d::r,u=>by
    have:=BH r (sl u d)
    grind [E0, eT]
theorem VC {u:TUnit} {d:PDeed} {r:List PDeed} (h:rQ d.it.kind=false):dJ u (d::r)=dJ u r∧eT u (d::r)=eT u r:=by
  rw [dJ,eT,sl,E0,h];simp_all
theorem RQ {u:TUnit} {d:PDeed} {r:List PDeed} (h:rQ d.it.kind=true) (h2:ae (kh u d).2 0=true):dJ u (d::r)=dJ (kh u d).1 r∧eT u (d::r)=eT (kh u d).1 r:=by
  rw [dJ,eT,sl,E0,h,h2];simp_all
theorem Q9 {u:TUnit} {d:PDeed} {r:List PDeed} (h:rQ d.it.kind=true) (h2:ae (kh u d).2 0=false):dJ u (d::r)=dJ (kh u d).1 r∧eT u (d::r)=⟨d.act,d.item,(kh u d).2⟩::eT (kh u d).1 r:=by
  rw [dJ,eT,sl,E0,h,h2];simp_all
mutual
theorem I0 : ∀ (u:TUnit) (deep most:Int),mJ u deep most≤most→Int.ofNat (nU u)≤mJ u deep most
  | ⟨_,_,_,_,_,_,_,kids⟩,deep,most,h=>by
    rw [mJ] at h ⊢
    cases hd:ar 20 deep with
    | true=>grind
    | false=>
      rw [hd] at h
      have:=I1 kids deep most 1 h
      grind [nU]
theorem I1 : ∀ (l:List TUnit) (deep most n:Int),mK l deep most n≤most→n+Int.ofNat (dM l)≤mK l deep most n
  | [],_,_,n,_=>by simp_all [mK, dM]
  | k::r,deep,most,n,h=>by
    rw [mK] at h ⊢
    cases hd:ar most n with
    | true=>rw [hd] at h;have:=au hd;grind
    | false=>
      rw [hd] at h
      have h2:=I1 r deep most _ h
      have h1:=I0 k (deep+1) (most - n) (by grind)
      grind [dM]
end
theorem Eb {l:List PWord} (h:mV l=true):l.length≤300∧∀ w,w∈l→w.text.length≤100:=by
  unfold mV at h
  obtain ⟨h1,h2⟩:=pv.1 h
  refine ⟨by have:=gu h2;grind,fun w hw=>?_⟩
  have:=gu (na.1 h1 w hw)
  grind
theorem GS : ∀ (u:TUnit),kV u=true→∀ x,x∈bc u→rY x:=by
  refine TUnit.ind fun u ih h x hx=>?_
  rw [AG] at h
  simp only [bK] at h
  obtain ⟨⟨⟨h0,h1⟩,h2⟩,h3⟩:=h
  rw [dW] at hx
  rcases fz.1 hx with rfl | hx
  · have h0:=gu h0
    simp only [oN] at h0
    have q1:=Eb h1
    have q2:=Eb h2
    exact ⟨q1.1,q2.1,by omega,fun w hw=>bG (q1.2 w hw) (by omega),fun w hw=>bG (q2.2 w hw) (by omega)⟩
  grind [lO]
theorem U5 {u:TUnit} {n:Nat} (h:FP u (.ofNat n)=true):nU u≤n∧∀ x,x∈bc u→rY x:=by
  unfold FP at h
  obtain ⟨h1,h2⟩:=pv.1 h
  refine ⟨?_,GS u h2⟩
  have h3:=gu h1
  have:=I0 u 0 (.ofNat n) h3
  grind
theorem Oz {x:PItem} (hf:mI x) (h:mh x=true):wS x:=by
  rw [DQ] at h
  unfold xY at h
  simp only [bK] at h
  obtain ⟨⟨⟨⟨⟨⟨⟨⟨⟨⟨a1,a2⟩,a3⟩,a4⟩,a5⟩,a6⟩,a7⟩,a8⟩,a9⟩,a10⟩,b1,b2,b3,b4,b5⟩:=h
  have a1:=gu a1
  have a2:=gu a2
  have a3:=gu a3
  have a4:=gu a4
  have a5:=gu a5
  have a6:=gu a6
  have a7:=gu a7
  simp only [oN] at a1 a2 a3 a4 a5 a6 a7
  have hs : ∀ {l:List aO},l.all we=true→∀ s,s∈l→s.length≤2 ^ 39:=fun h s hs=>by
    have:=gu (na.1 h s hs);grind
  have ht : ∀ {l:List PStep},l.all wc=true→∀ s,s∈l→s.label.length≤2 ^ 39:=fun h s hs=>by
    have:=gu (na.1 h s hs);grind
  have hu:=U5 (n:=30) a10
  exact ⟨hf,⟨by omega,ht b3⟩,⟨by omega,ht b4⟩,⟨by omega,hs b1⟩,⟨by omega,hs b2⟩,by omega,by omega,by omega,bG hu.1 (by omega),hu.2⟩
theorem RA : ∀ (u:TUnit),nU u≤1024→(∀ x,x∈bc u→x.head.length≤300∧x.words.length≤300)→oC u:=by
  refine TUnit.ind fun u ih hn hw=>?_
  have:=bj u
  obtain ⟨h1,h2⟩:=hw u (c8 u)
  exact kI.2 ⟨by omega,by omega,by omega,fun k hk=>ih k hk (by have:=gN hk;omega) fun x hx=>hw x (bf hk hx)⟩
theorem EG {u:TUnit} (h:OkB u):oC u:=RA u h.n h.w
theorem H0 {u v:TUnit} {l r:List PDeed} {xs:List PFail} (h:eT u l=xs++eT v r):xs.length≤l.length:=by
  grind [BH]
theorem Qh (u:TUnit) (l:List PDeed) (hu:OkB u) (hl:l.length<2 ^ 30) (ho : ∀ d,d∈l→wS d.it):kP 55 [eU u, .ls (l.map az)] (.tuple [eU (dJ u l), .ls ((eT u l).map iZ)]):=by
  have rr0 b' (h:((dJ u l).act)=b':=by first | (rw [hj0.2.1];rfl) | (rw [hj0.2.2];rfl) | (rw [hj0.2.2.1];rfl) | (rw [hj0.2.2.2];simp only [eT,ez]) | exact aX fF _):=h;have rr1 b' (h:((dJ u l).item)=b':=by first | (rw [hj0.2.1];rfl) | (rw [hj0.2.2];rfl) | (rw [hj0.2.2.1];rfl) | (rw [hj0.2.2.2];simp only [eT,ez]) | exact aX fF _):=h;have rr2 b' (h:((dJ u l).n)=b':=by first | (rw [hj0.2.1];rfl) | (rw [hj0.2.2];rfl) | (rw [hj0.2.2.1];rfl) | (rw [hj0.2.2.2];simp only [eT,ez]) | exact aX fF _):=h;have rr3 b' (h:((dJ u l).kind)=b':=by first | (rw [hj0.2.1];rfl) | (rw [hj0.2.2];rfl) | (rw [hj0.2.2.1];rfl) | (rw [hj0.2.2.2];simp only [eT,ez]) | exact aX fF _):=h;have rr4 b' (h:((dJ u l).label)=b':=by first | (rw [hj0.2.1];rfl) | (rw [hj0.2.2];rfl) | (rw [hj0.2.2.1];rfl) | (rw [hj0.2.2.2];simp only [eT,ez]) | exact aX fF _):=h;have rr5 b' (h:(List.map aQ (dJ u l).head)=b':=by first | (rw [hj0.2.1];rfl) | (rw [hj0.2.2];rfl) | (rw [hj0.2.2.1];rfl) | (rw [hj0.2.2.2];simp only [eT,ez]) | exact aX fF _):=h;have rr6 b' (h:(List.map aQ (dJ u l).words)=b':=by first | (rw [hj0.2.1];rfl) | (rw [hj0.2.2];rfl) | (rw [hj0.2.2.1];rfl) | (rw [hj0.2.2.2];simp only [eT,ez]) | exact aX fF _):=h;have rr7 b' (h:(List.map aK (dJ u l).kids)=b':=by first | (rw [hj0.2.1];rfl) | (rw [hj0.2.2];rfl) | (rw [hj0.2.2.1];rfl) | (rw [hj0.2.2.2];simp only [eT,ez]) | exact aX fF _):=h;have rr8 b' (h:((eT u l).map iZ)=b':=by first | (rw [hj0.2.1];rfl) | (rw [hj0.2.2];rfl) | (rw [hj0.2.2.1];rfl) | (rw [hj0.2.2.2];simp only [eT,ez]) | exact aX fF _):=h;exact bp Tryz.func55<|Kl 2 5 bu<|Kl 2 12 (ln az l)<|Mg 0<|W0 TUnit Nat Nat (List PFail) az l u [2,4,6,11,12,13] (fun a _ b=>([bJ 0 0 0 0,bJ 1 0 0 0,ab,aW<|l.map az,nV l.length,nV a],[aZ 8 false 0 [av [iV b.act,iV b.item,iV b.n,iV b.kind,ak b.label,aW<|b.head.map aQ,aW<|b.words.map aQ,aW<|b.kids.map aK]],aZ 8 false 0 [av [iV 0,iV 0,iV 0,iV 0,ak [],ab,ab,ab]]])) (fun a _ b c e f=>([bJ 0 0 0 0,bJ 1 0 0 0,aI 2 c 0 e none,aW<|l.map az,nV l.length,nV a],[aZ 8 false 0 [av [iV b.act,iV b.item,iV b.n,iV b.kind,ak b.label,aW<|b.head.map aQ,aW<|b.words.map aQ,aW<|b.kids.map aK]],aZ 8 false 0 [av [iV 0,iV 0,iV 0,iV 0,ak [],ab,ab,ab]],aZ 3 true c<|f.map iZ])) (fun a b=>OkB b∧dJ u l=dJ b a∧eT u l=eT b a) (fun a b _ c e=>OkB b∧c=e.length∧dJ u l=dJ b a∧eT u l=e++eT b a) sA (fun _ _ a _ _ _ b hj0=>Kh 0 b<|Kl 3 5 bu<|Mf<|cn<|.cons (aL (.cons (li<|rr0 a.act)<|.cons (li<|rr1 a.item)<|.cons (li<|rr2 a.n)<|.cons (li<|rr3 a.kind)<|.cons (Le.str<|rr4 a.label)<|.cons (cw<|rr5<|a.head.map aQ)<|.cons (cw<|rr6<|a.words.map aQ)<|.cons (cw<|rr7<|a.kids.map aK) .nil)<|by kernel_rfl)<|.cons (cw<|rr8 []) .nil) (fun a _ b c _ e f g i j k _ n hj0=>have c:=ho _<|aN c j;Kt 0 k<|Mx n<|Kp 5 (Iw e.it.kind)<|Kn 0 (rQ e.it.kind) (fun _=>Kl 0 40 (dt a)<|K1 0 (.frz 2 [2,4,6,11,12,13]) (cW rt rt ti)<|Mf<|g b<|by grind [VC]) fun j=>Kp 1 (TN b e sA c j)<|Kc 7 (kh b e).2 0 (fun _ _=>Kl 12 40 (dt a)<|Mg 0<|M0 (.ren [0,1,4,2,3] [] [2,4,6,11,12,13])<|M1 (.frz 3 [2,4,6,11,12,13]) (j5 rt rt rt ti)<|Mf<|i (kh b e).1 0 1 [PFail.mk e.act e.item (kh b e).2]<|by exact ⟨(qH ⟨hj0.1,c,by omega⟩).2,rfl,hj0.2.1.trans (Q9 (by omega) (by omega)).1,hj0.2.2.trans (Q9 (by omega) (by omega)).2⟩) fun _ _=>Kl 2 40 (dt a)<|K1 0 (.frz 2 [2,4,6,11,12,13]) (cW rt rt ti)<|Mf<|g (kh b e).1<|by exact ⟨(qH ⟨hj0.1,c,by omega⟩).2,hj0.2.1.trans (RQ (by omega) (by omega)).1,hj0.2.2.trans (RQ (by omega) (by omega)).2⟩) (fun _ _ a b c e _ _ _ f hj0=>Kh 0 f<|Mg 3<|M2 (.fsl 2 [4] 5<|e.map iZ) (cW rt rt ti) (cW (aU b) (tA iZ e c (oA:(e).length=c))<|aX fF e)<|Ml 5 (eH (e.map iZ) false<|aX fF e)<|Mf<|cn<|.cons (aL (.cons (li<|rr0 a.act)<|.cons (li<|rr1 a.item)<|.cons (li<|rr2 a.n)<|.cons (li<|rr3 a.kind)<|.cons (Le.str<|rr4 a.label)<|.cons (cw<|rr5<|a.head.map aQ)<|.cons (cw<|rr6<|a.words.map aQ)<|.cons (cw<|rr7<|a.kids.map aK) .nil)<|by kernel_rfl)<|.cons (cw<|rr8<|e.map iZ) .nil) fun a _ b c e f g _ i j _ k n o _ p hj0=>have g:=ho _<|aN g n;Kt 0 o<|Mx p<|Kp 5 (Iw i.it.kind)<|Kn 0 (rQ i.it.kind) (fun _=>Kl 0 40 (dt a)<|K1 0 (.frz 3 [2,4,6,11,12,13]) (j5 (tR 3 true c 3<|aX fF f) rt rt ti)<|Mf<|k b c e f<|by grind [VC]) fun n=>Kp 1 (TN b i sA g n)<|Kc 7 (kh b i).2 0 (fun _ _=>K1 7 .app (cW (aU c) (sA:e=(f.map iZ).length) (by (have z:=H0 hj0.2.2.2;have z2:=hj0.2.1;refine ap (m:=2 ^ 31) ?_ ?_ ?_ <;> omega):small (e+1) 24=true))<|M1 (.obj 2<|aZ 3 true (c+1)<|(f++ [PFail.mk i.act i.item (kh b i).2]).map iZ) (congrArg (aZ 3 true<|c+1)<|dg (f:=iZ) (l:=f) (ws:=[PFail.mk i.act i.item (kh b i).2]))<|Kl 3 40 (dt a)<|K1 0 (.frz 3 [2,4,6,11,12,13]) (j5 (tR 3 true (c+1) 3<|aX fF<|f++ [PFail.mk i.act i.item (kh b i).2]) rt rt ti)<|Mf<|k (kh b i).1 (c+1) (e+1) (f++ [PFail.mk i.act i.item (kh b i).2])<|by exact ⟨(qH ⟨hj0.1,g,by omega⟩).2,by simp_all,hj0.2.2.1.trans (Q9 (by omega) (by omega)).1,hj0.2.2.2.trans (by grind [Q9])⟩) fun _ _=>Kl 2 40 (dt a)<|K1 0 (.frz 3 [2,4,6,11,12,13]) (j5 (tR 3 true c 3<|aX fF f) rt rt ti)<|Mf<|k (kh b i).1 c e f<|by exact ⟨(qH ⟨hj0.1,g,by omega⟩).2,hj0.2.1,hj0.2.2.1.trans (RQ (by omega) (by omega)).1,hj0.2.2.2.trans (by grind [RQ])⟩
end Go.Proofs.YtempcdhknnjebaaGreatDoor
