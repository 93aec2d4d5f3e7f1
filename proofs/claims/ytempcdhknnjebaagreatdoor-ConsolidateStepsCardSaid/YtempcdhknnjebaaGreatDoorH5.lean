/- Functions walked: what each of them answers, for the law of steps: part 5. Conditions: those that each theorem names. -/
import Derived.Test.YtempcdhknnjebaaGreatDoorH4
namespace Go.Proofs.YtempcdhknnjebaaGreatDoor
open Go Go.Ev
noncomputable abbrev BV (l:List PWord):AObj:= .row 4 true 0 (l.map aQ)
noncomputable def Ei:TypeInfo:=(Tryz.prog.info? 90).getD default
theorem Eh:Tryz.prog.info? 90=some Ei:=by kernel_rfl
theorem xR:Ei.size=4:=by kernel_rfl
theorem vB:Ei.bytes=40:=by kernel_rfl
theorem Uf (l:List PWord):dm 4 (l.map aQ)=true:=gk (fun w=>by cases w;rfl) l
/-- A copy of words: a row of its own. -/
theorem YG (ws:List PWord) (hl:ws.length≤2 ^ 20) (a b c d:AObj):kD 183 [.ls (ws.map aQ)] (aa [a,b,c,d]) (.sl0 4 0 ws.length none) (aa [a,b,c,d,BV ws]):=by
  by_cases hne:ws = []
  · subst hne
    have hE:(aa [a,b,c,d]).push (BV [])=aa [a,b,c,d,BV []]:=by kernel_rfl
    have h:=aC.psh (o:=BV []) (u:= .sl0 4 0 0 none) (rZ [] (by omega) (aa [a,b,c,d])) D8
    simp_all
  have hn:ws.map aQ≠ []:=fun h=>hne (List.map_eq_nil_iff.1 h)
  have hf:=Uf ws
  have hsm:small (ws.map aQ).length 40=true:=by grind [aE]
  have hlen:ws.length=(ws.map aQ).length:=(b8 ..).symm
  unfold BV
  rw [hlen]
  generalize ws.map aQ=L at hn hf hsm
  refine (aC.less (Ψ:=fun v h=>v = .slice 4 0 0 L.length none∧h=aa [a,b,c,d, .row 4 true 0 L]) ?_ fun v h ⟨h1,h2⟩=>⟨_,h1 ▸ Le.sl0,rfl,h2⟩)
  refine aC.enter 2 (fn:=Tryz.f183) Tryz.func183 (by kernel_rfl) rfl ⟨by kernel_rfl,by kernel_rfl⟩ ?_
  refine ah.seq (ah.mono (Dv py iN (ev 40) (s':=⟨dS 8 [(0, .ls L),(2, .nils)],aa [a,b,c,d]⟩) (.go 0 .fin) (by kernel_rfl)) ?_)
  rintro _ _ ⟨rfl,rfl⟩
  refine ah.seq (ah.seq (ah.mono (xy iN (ev 40) (Ψ:=fun s=>s=⟨dS 8 [(0, .ls L),(2, .nils),(3, .ps L false),(4, .bool false)],aa [a,b,c,d]⟩) (.go 0 (.nz 3 .abs (.go 0 .fin)))
    (W:=(L = []→False)∧(⟨dS 8 [(0, .ls L),(2, .nils),(3, .ps L false),(4, .bool false)],aa [a,b,c,d]⟩:St)=⟨dS 8 [(0, .ls L),(2, .nils),(3, .ps L false),(4, .bool false)],aa [a,b,c,d]⟩) ⟨hn,rfl⟩ (by kernel_rfl)) ?_))
  rintro _ _ ⟨rfl,rfl⟩
  refine ah.cond (t:=false) (by kernel_rfl) (fun h=>by grind) fun _=>ah.skip ?_
  refine ah.seq (ah.region ?_)
  show cJ _ _ _ _ [_,_,_,_] _ _
  refine cJ.one (s':=⟨dS 8 [(0, .ls L),(2, .nils),(3, .ps L false),(4, .bool false),(5, .ps [] true)],aa [a,b,c,d]⟩) (ev 40) (by kernel_rfl) ?_
  refine cJ.one (s':=⟨dS 8 [(0, .ls L),(2, .nils),(3, .ps L false),(4, .bool false),(5, .ps [] true),(6, .ls L)],aa [a,b,c,d]⟩) (ev 40) (by kernel_rfl) ?_
  refine rq (I:=fun k:Nat=>k=0) (r:=fun _=> .slice 4 0 0 L.length none) (H:=fun _=>aa [a,b,c,d, .row 4 true 0 L]) (by kernel_rfl)
    (fun pl M a w g1 g2 g3=>wA (z:=aQ ⟨[],0,0,0⟩) (z0:=aQ ⟨[],0,0,0⟩) (xs:=L) (t:=28) (tx:=28) (e:=90) (i:=Ei) xR vB (by kernel_rfl) ⟨90,by kernel_rfl⟩ Eh (by kernel_rfl) (Le.refl _) (by kernel_rfl) (by kernel_rfl) hn hf (by kernel_rfl) hsm (by omega) pl M a w g1 g2 g3) fun k _=>?_
  refine ⟨dS 8 [(0, .ls L),(2, .nils),(3, .ps L false),(4, .bool false),(5, .ps [] true),(6, .ls L),(7, .slice 4 0 0 L.length none)],by kernel_rfl,?_⟩
  refine cJ.one (s':=⟨dS 8 [(0, .ls L),(2, .slice 4 0 0 L.length none),(3, .ps L false),(4, .bool false),(5, .ps [] true),(6, .ls L),(7, .slice 4 0 0 L.length none)],aa [a,b,c,d, .row 4 true 0 L]⟩) (ev 40) (by kernel_rfl) (cJ.nil (ah.ret ⟨fun id h=>(by grind), .slice 4 0 0 L.length none,by kernel_rfl,by kernel_rfl,by kernel_rfl⟩))
theorem YF (ws:List PWord) (hl:ws.length≤2 ^ 20) (a b c d e:AObj):kD 183 [.ls (ws.map aQ)] (aa [a,b,c,d,e]) (.sl0 5 0 ws.length none) (aa [a,b,c,d,e,BV ws]):=by
  by_cases hne:ws = []
  · subst hne
    have hE:(aa [a,b,c,d,e]).push (BV [])=aa [a,b,c,d,e,BV []]:=by kernel_rfl
    have h:=aC.psh (o:=BV []) (u:= .sl0 5 0 0 none) (rZ [] (by omega) (aa [a,b,c,d,e])) D8
    simp_all
  have hn:ws.map aQ≠ []:=fun h=>hne (List.map_eq_nil_iff.1 h)
  have hf:=Uf ws
  have hsm:small (ws.map aQ).length 40=true:=by grind [aE]
  have hlen:ws.length=(ws.map aQ).length:=(b8 ..).symm
  unfold BV
  rw [hlen]
  generalize ws.map aQ=L at hn hf hsm
  refine (aC.less (Ψ:=fun v h=>v = .slice 5 0 0 L.length none∧h=aa [a,b,c,d,e, .row 4 true 0 L]) ?_ fun v h ⟨h1,h2⟩=>⟨_,h1 ▸ Le.sl0,rfl,h2⟩)
  refine aC.enter 2 (fn:=Tryz.f183) Tryz.func183 (by kernel_rfl) rfl ⟨by kernel_rfl,by kernel_rfl⟩ ?_
  refine ah.seq (ah.mono (Dv py iN (ev 40) (s':=⟨dS 8 [(0, .ls L),(2, .nils)],aa [a,b,c,d,e]⟩) (.go 0 .fin) (by kernel_rfl)) ?_)
  rintro _ _ ⟨rfl,rfl⟩
  refine ah.seq (ah.seq (ah.mono (xy iN (ev 40) (Ψ:=fun s=>s=⟨dS 8 [(0, .ls L),(2, .nils),(3, .ps L false),(4, .bool false)],aa [a,b,c,d,e]⟩) (.go 0 (.nz 3 .abs (.go 0 .fin)))
    (W:=(L = []→False)∧(⟨dS 8 [(0, .ls L),(2, .nils),(3, .ps L false),(4, .bool false)],aa [a,b,c,d,e]⟩:St)=⟨dS 8 [(0, .ls L),(2, .nils),(3, .ps L false),(4, .bool false)],aa [a,b,c,d,e]⟩) ⟨hn,rfl⟩ (by kernel_rfl)) ?_))
  rintro _ _ ⟨rfl,rfl⟩
  refine ah.cond (t:=false) (by kernel_rfl) (fun h=>by grind) fun _=>ah.skip ?_
  refine ah.seq (ah.region ?_)
  show cJ _ _ _ _ [_,_,_,_] _ _
  refine cJ.one (s':=⟨dS 8 [(0, .ls L),(2, .nils),(3, .ps L false),(4, .bool false),(5, .ps [] true)],aa [a,b,c,d,e]⟩) (ev 40) (by kernel_rfl) ?_
  refine cJ.one (s':=⟨dS 8 [(0, .ls L),(2, .nils),(3, .ps L false),(4, .bool false),(5, .ps [] true),(6, .ls L)],aa [a,b,c,d,e]⟩) (ev 40) (by kernel_rfl) ?_
  refine rq (I:=fun k:Nat=>k=0) (r:=fun _=> .slice 5 0 0 L.length none) (H:=fun _=>aa [a,b,c,d,e, .row 4 true 0 L]) (by kernel_rfl)
    (fun pl M a w g1 g2 g3=>wA (z:=aQ ⟨[],0,0,0⟩) (z0:=aQ ⟨[],0,0,0⟩) (xs:=L) (t:=28) (tx:=28) (e:=90) (i:=Ei) xR vB (by kernel_rfl) ⟨90,by kernel_rfl⟩ Eh (by kernel_rfl) (Le.refl _) (by kernel_rfl) (by kernel_rfl) hn hf (by kernel_rfl) hsm (by omega) pl M a w g1 g2 g3) fun k _=>?_
  refine ⟨dS 8 [(0, .ls L),(2, .nils),(3, .ps L false),(4, .bool false),(5, .ps [] true),(6, .ls L),(7, .slice 5 0 0 L.length none)],by kernel_rfl,?_⟩
  refine cJ.one (s':=⟨dS 8 [(0, .ls L),(2, .slice 5 0 0 L.length none),(3, .ps L false),(4, .bool false),(5, .ps [] true),(6, .ls L),(7, .slice 5 0 0 L.length none)],aa [a,b,c,d,e, .row 4 true 0 L]⟩) (ev 40) (by kernel_rfl) (cJ.nil (ah.ret ⟨fun id h=>(by grind), .slice 5 0 0 L.length none,by kernel_rfl,by kernel_rfl,by kernel_rfl⟩))
noncomputable abbrev C0 (u:TUnit) (k:AV):AV:= .agg [iV u.act,iV u.item,iV u.n,iV u.kind, .str u.label, .sl0 3 0 u.head.length none, .sl0 4 0 u.words.length none,k]
noncomputable abbrev TN (u:TUnit) (i j:Nat) (k:AV):AObj:= .row 8 false 0 [.agg [iV u.act,iV u.item,iV u.n,iV u.kind, .str u.label, .sl0 i 0 u.head.length none, .sl0 j 0 u.words.length none,k]]
theorem XB (u:TUnit) (hk:0<u.kids.length) (hn:nU u≤2 ^ 20) (ht : ∀ x,x∈bc u→x.head.length≤2 ^ 20∧x.words.length≤2 ^ 20):kC 87 [eU u] (aa [vD u,vt])
    (fun v h=>∃ y:Nat × Nat × List TUnit,(y.2.1=u.kids.length∧y.2.2=u.kids)∧v=C0 u (.slice 5 y.1 0 y.2.1 none)∧h=aa [vD u,vt,TN u 3 4 (.slice 5 y.1 0 y.2.1 none),BV u.head,BV u.words, .row 8 true y.1 (y.2.2.map aV)]):=by
  have hkl:=bw u
  have c1:=(ht u (dK u)).1
  have c2:=(ht u (dK u)).2
  have ihk : ∀ k,k∈u.kids→kP 87 [eU k] (eU k):=fun k hk=>GA k (bI (sn (hJ hk)) hn) (fun x hx=>⟨nG (ht x (bf hk hx)).1 (by omega),nG (ht x (bf hk hx)).2 (by omega)⟩)
  let q1:= [aw [iV u.act,iV u.item,iV u.n,iV u.kind,aj u.label,aW (u.head.map aQ),aW (u.words.map aQ),aW (u.kids.map aV)]];let q2:= [aw [iV 0,iV 0,iV 0,iV 0,aj [],ak,ak,ak]];let q3:=aZ 8 false 0 q2;let q4:=aZ 8 false 0 q1;let q5:=List.map aQ u.head;let q6:=aZ 4 true 0 q5;exact pI Tryz.func87 fun a=>Mg 3<|M3 (.efx true (AV.sl0 4 0 u.head.length none)<|aa [aZ 8 false 0 q1,aZ 8 false 0 q2,aZ 8 false 0 q1,aZ 8 false 0 q2,aZ 4 true 0 q5]) (HK rt rt rt rt ti) (HK (aU<|some q3) (aU<|some q4) (aU<|some q3) (aU<|some q4) ti) (YG u.head c1 q4 q3 q4 q3)<|Mg 1<|M3 (.efx true (AV.sl0 5 0 u.words.length none)<|aa [aZ 8 false 0 q1,aZ 8 false 0 q2,aZ 8 false 0 q1,aZ 8 false 0 q2,aZ 4 true 0 q5,aZ 4 true 0<|u.words.map aQ]) (xm (tR 4 true 0 5<|aX io u.head) rt rt rt rt ti) (xm (aU<|some q6) (aU<|some q3) (aU<|some q4) (aU<|some q3) (aU<|some q4) ti) (YF u.words c2 q4 q3 q4 q3 q6)<|Kl 7 16 (ln aV u.kids)<|Mg 0<|ll Nat Nat (List TUnit) aV u.kids [1,2,3,15,16,17] (fun a _=>([bJ 2 0 0 0,bJ 3 0 0 0,ak,aW<|u.kids.map aV,nV u.kids.length,nV a],[aZ 8 false 0 [aw [iV u.act,iV u.item,iV u.n,iV u.kind,aj u.label,aW<|u.head.map aQ,aW<|u.words.map aQ,aW<|u.kids.map aV]],aZ 8 false 0 [aw [iV 0,iV 0,iV 0,iV 0,aj [],ak,ak,ak]],aZ 8 false 0 [aw [iV u.act,iV u.item,iV u.n,iV u.kind,aj u.label,AV.sl0 4 0 u.head.length none,AV.sl0 5 0 u.words.length none,aW<|u.kids.map aV]],aZ 8 false 0 [aw [iV 0,iV 0,iV 0,iV 0,aj [],ak,ak,ak]],aZ 4 true 0<|u.head.map aQ,aZ 4 true 0<|u.words.map aQ])) (fun a _ b c d=>([bJ 2 0 0 0,bJ 3 0 0 0,aG 6 b 0 c none,aW<|u.kids.map aV,nV u.kids.length,nV a],[aZ 8 false 0 [aw [iV u.act,iV u.item,iV u.n,iV u.kind,aj u.label,aW<|u.head.map aQ,aW<|u.words.map aQ,aW<|u.kids.map aV]],aZ 8 false 0 [aw [iV 0,iV 0,iV 0,iV 0,aj [],ak,ak,ak]],aZ 8 false 0 [aw [iV u.act,iV u.item,iV u.n,iV u.kind,aj u.label,AV.sl0 4 0 u.head.length none,AV.sl0 5 0 u.words.length none,aW<|u.kids.map aV]],aZ 8 false 0 [aw [iV 0,iV 0,iV 0,iV 0,aj [],ak,ak,ak]],aZ 4 true 0<|u.head.map aQ,aZ 4 true 0<|u.words.map aQ,aZ 8 true b<|d.map aV])) (fun a=>a=u.kids) (fun a _ b c=>b=c.length∧(0:Nat)<c.length∧c++a=u.kids∧c.length+a.length=u.kids.length) (by rfl) (fun _ _ _ _ _ a _=>Kh 0 a<|Mg 4<|Mw .abs (sA:False)) (fun a _ _ b c d _ e f g _ i _=>have i:=(i).trans<|congrArg some<|aH c;have b:=cP (J:=fun a _=>a=u.kids) (a:=()) f b;Kt 0 g<|Mx i<|Kp 4 (ihk c gR)<|K1 1 (.obj 7<|aZ 8 true 0<|List.map aV [c]) (congrArg (aZ 8 true 0)<|SD (f:=aV) (g:=Go.Ev.eU) (ws:=[c]) aH)<|Kl 1 26 (dB a)<|Mg 0<|Mw (.ren [0,1,2,3,4,5,7,6] [4,5,7] [1,2,3,15,16,17]<|.frz 7 [1,2,3,15,16,17] .fin)<|HK (tS 4 true 0<|aX io u.head) (tS 4 true 0<|aX io u.words) (tS 8 true 0<|aX gM [c]) (YE (tR 8 true 0 7<|aX gM [c]) (tR 4 true 0 7<|aX io u.words) (tR 4 true 0 7<|aX io u.head) rt rt rt rt ti)<|e 0 1 [c]<|by (refine ⟨rfl,by simp,?_,?_⟩ <;> (rw [← b]) <;> (first | rfl | grind))) (fun _ _ b c d _ _ _ e _=>Kh 0 e<|Mg 4<|Mw (.ren [0,1,3,4,5,6,2] [4,5,6] [2]<|.frz 6 [2] .fin)<|HK (tS 4 true 0<|aX io u.head) (tS 4 true 0<|aX io u.words) (tS 8 true b<|aX gM d) (MB (tR 8 true b 6<|aX gM d) (tR 4 true 0 6<|aX io u.words) (tR 4 true 0 6<|aX io u.head) rt rt rt ti)<|a (b,c,d) sA) fun a _ b c d _ e f g _ i j l _ n _=>have n:=(n).trans<|congrArg some<|aH f;have e:=cP (J:=fun a b=>b.2.1=b.2.2.length∧(0:Nat)<b.2.2.length∧b.2.2++a=u.kids∧b.2.2.length+a.length=u.kids.length) (a:=(b,c,d)) j e;Kt 0 l<|Mx n<|Kp 4 (ihk f gR)<|K1 0 .app (cH (aU b) (sA:c=(d.map aV).length) (by (refine aE (m:=2 ^ 21) ?_ ?_ ?_ <;> omega):small (c+1) 120=true))<|M1 (.obj 6<|aZ 8 true (b+1)<|(d++ [f]).map aV) (congrArg (aZ 8 true<|b+1)<|xf (f:=aV) (g:=Go.Ev.eU) (l:=d) (ws:=[f]) aH)<|Kl 1 26 (dB a)<|K1 0 (.frz 7 [1,2,3,15,16,17]) (YE (tR 8 true (b+1) 7<|aX gM<|d++ [f]) (tR 4 true 0 7<|aX io u.words) (tR 4 true 0 7<|aX io u.head) rt rt rt rt ti)<|Mf<|i (b+1) (c+1) (d++ [f])<|by (refine ⟨by simp_all,by simp,?_,?_⟩ <;> first | (rw [← e.2.2.1];simp;done) | grind)
theorem XC (u:TUnit) (hk:u.kids = []) (ht : ∀ x,x∈bc u→x.head.length≤2 ^ 20∧x.words.length≤2 ^ 20):kD 87 [eU u] (aa [vD u,vt]) (C0 u .nils) (aa [vD u,vt,TN u 3 4 .nils,BV u.head,BV u.words]):=by
  have c1:=(ht u (dK u)).1
  have c2:=(ht u (dK u)).2
  have hz:ar 0 (Int.ofNat u.kids.length)=false:=by rw [hk];rfl
  let q:= [aw [iV u.act,iV u.item,iV u.n,iV u.kind,aj u.label,aW (u.head.map aQ),aW (u.words.map aQ),aW (u.kids.map aV)]];let q1:= [aw [iV 0,iV 0,iV 0,iV 0,aj [],ak,ak,ak]];let q2:= [aZ 8 false 0 q,aZ 8 false 0 q1,aZ 8 false 0 [aw [iV u.act,iV u.item,iV u.n,iV u.kind,aj u.label,AV.sl0 4 0 u.head.length none,AV.sl0 5 0 u.words.length none,aW (u.kids.map aV)]],aZ 8 false 0 q1,aZ 4 true 0 (u.head.map aQ),aZ 4 true 0 (u.words.map aQ)];let q3:=aZ 8 false 0 q1;let q4:=aZ 8 false 0 q;let q5:= [bJ 2 0 0 0,bJ 3 0 0 0,ak,aW (u.kids.map aV),nV u.kids.length,iV 0];let q6:=List.map aQ u.head;let q7:=aZ 4 true 0 q6;exact fk Tryz.func87 fun a=>Mg 3<|M3 (.efx true (AV.sl0 4 0 u.head.length none)<|aa [aZ 8 false 0 q,aZ 8 false 0 q1,aZ 8 false 0 q,aZ 8 false 0 q1,aZ 4 true 0 q6]) (HK rt rt rt rt ti) (HK (aU<|some q3) (aU<|some q4) (aU<|some q3) (aU<|some q4) ti) (YG u.head c1 q4 q3 q4 q3)<|Mg 1<|M3 (.efx true (AV.sl0 5 0 u.words.length none)<|aa [aZ 8 false 0 q,aZ 8 false 0 q1,aZ 8 false 0 q,aZ 8 false 0 q1,aZ 4 true 0 q6,aZ 4 true 0<|u.words.map aQ]) (xm (tR 4 true 0 5<|aX io u.head) rt rt rt rt ti) (xm (aU<|some q7) (aU<|some q3) (aU<|some q4) (aU<|some q3) (aU<|some q4) ti) (YF u.words c2 q4 q3 q4 q3 q7)<|Kl 7 16 (ln aV u.kids)<|Mg 0<|X4 [1,2,3,15,16,17] (q5,q2) True 0 ti fun _ _=>Kh 0 hz<|Mg 4<|M2 (.ren [0,1,3,4,5,2] [4,5] [2]) (tS 4 true 0<|aX io u.head) (tS 4 true 0<|aX io u.words)<|M1 (.frz 5 [2]) (xm (tR 4 true 0 5<|aX io u.words) (tR 4 true 0 5<|aX io u.head) rt rt rt ti)<|Mf a
noncomputable abbrev YW (ep:Nat) (l:List TUnit):AObj:= .row 8 true ep (l.map aV)
theorem JT (u:TUnit) {k k':AV} (h:Le k k') (h2:cF k=true):Le (C0 u k) (C0 u k'):=aL (.cons (Le.refl _) (.cons (Le.refl _) (.cons (Le.refl _) (.cons (Le.refl _) (.cons (Le.refl _) (.cons (Le.refl _) (.cons (Le.refl _) (.cons h .nil)))))))) (by simp only [List.all_cons,List.all_nil,h2];rfl)
theorem XA (u:TUnit) (hn:nU u≤2 ^ 20) (ht : ∀ x,x∈bc u→x.head.length≤2 ^ 20∧x.words.length≤2 ^ 20):kC 87 [eU u] (aa [vD u,vt])
    (fun v h=>∃ ep:Nat,True∧v=C0 u (.sl0 5 ep u.kids.length none)∧h=aa [vD u,vt, .dead,BV u.head,BV u.words,YW ep u.kids]):=by
  rcases Nat.eq_zero_or_pos u.kids.length with hk | hk
  · have hk:=List.length_eq_zero_iff.1 hk
    refine aC.dead (i:=2) (I0 (Ψ':=fun v h=>v=C0 u (.sl0 5 0 0 none)∧h=aa [vD u,vt,TN u 3 4 .nils,BV u.head,BV u.words,YW 0 u.kids]) (YW 0 u.kids) (XC u hk ht) fun v h' ⟨h1,h2⟩=>⟨C0 u (.sl0 5 0 0 none),h1 ▸ JT u Le.sl0n rfl,rfl,?_⟩) (af 2) (by omega) fun v h' ⟨h1,h2⟩=>⟨0,trivial,by simp_all,?_⟩
    · rw [h2];kernel_rfl
    · rw [h2];kernel_rfl
  · refine aC.dead (i:=2) (aC.less (Ψ':=fun v h=>∃ ep:Nat,v=C0 u (.sl0 5 ep u.kids.length none)∧h=aa [vD u,vt,TN u 3 4 (.slice 5 ep 0 u.kids.length none),BV u.head,BV u.words,YW ep u.kids]) (XB u hk hn ht) fun v h' ⟨y,⟨e1,e2⟩,h1,h2⟩=>⟨C0 u (.sl0 5 y.1 u.kids.length none),?_,y.1,rfl,?_⟩) (af 2) (by omega) fun v h' ⟨ep,h1,h2⟩=>⟨ep,trivial,h1,?_⟩
    · rw [h1,e1];exact JT u Le.sl0 rfl
    · simp_all
    · rw [h2];kernel_rfl
/-- The first 'i' elements changed by 'f'. -/
def ky {α:Type} (f:α→α) (l:List α) (i:Nat):List α:=(l.take i).map f++l.drop i
theorem u0 {α:Type} {f:α→α} {l:List α} {i:Nat} : (ky f l i).length=l.length:=by
  grind [ky]
theorem u9 {α:Type} {f:α→α} {l:List α} {i:Nat} (h:l.length≤i):ky f l i=l.map f:=by
  grind [ky, List.take_of_length_le]
theorem yP {α:Type} [Inhabited α] {f:α→α} {l:List α} {i:Nat} (h:i<l.length):gD (ky f l i) i=gD l i:=by
  have e:((l.take i).map f).length=i:=by grind
  simp_all [ky, gD, pw]
theorem BL {α:Type} [Inhabited α] {f:α→α} {l:List α} {i:Nat} (h:i<l.length):(ky f l i).set i (f (gD l i))=ky f l (i+1):=by
  have e:((l.take i).map f).length=i:=by grind
  have hg:gD l i=l[i]:=by unfold gD;simp_all
  unfold ky
  rw [List.set_append_right _ _ (by omega),e,Nat.sub_self,hg,Nl h,List.set_cons_zero,Nm h,pu,pF]
  rfl
theorem yO {l:List PWord} {i:Nat} (h:i<l.length):(ky gr l i).set i ⟨(gD (ky gr l i) i).text,0,0,0⟩=ky gr l (i+1):=by
  rw [yP h];exact BL h
theorem N2 : ∀ u:TUnit,nU u≤2 ^ 20→(∀ x,x∈bc u→x.head.length≤2 ^ 20∧x.words.length≤2 ^ 20)→kP 342 [eU u] (eU (cE u)):=by
  refine TUnit.ind fun u ih hn ht=>?_
  have hkl:=bw u
  have c1:=(ht u (dK u)).1
  have c2:=(ht u (dK u)).2
  have hc:=XA u hn ht
  have ihk : ∀ k,k∈u.kids→kP 342 [eU k] (eU (cE k)):=fun k hk=>ih k hk (bI (sn (hJ hk)) hn) (fun x hx=>ht x (bf hk hx))
  rw [mW]
  have rr0 b' (h:(List.map aQ (TUnit.mk 0 0 0 u.kind u.label (u.head.map gr) (u.words.map gr) (u.kids.map cE)).head)=b':=by (rw [hx1.2,u9 (by (simp only [oN] at *;omega))];rfl)):=h;have rr1 b' (h:(List.map aQ (TUnit.mk 0 0 0 u.kind u.label (u.head.map gr) (u.words.map gr) (u.kids.map cE)).words)=b':=by (rw [hx2.2,u9 (by (simp only [oN] at *;omega))];rfl)):=h;have rr2 b' (h:(List.map aV (TUnit.mk 0 0 0 u.kind u.label (u.head.map gr) (u.words.map gr) (u.kids.map cE)).kids)=b':=by (rw [hx3.2,u9 (by (simp only [oN] at *;omega))];rfl)):=h;exact bg Tryz.func342<|Mg 2<|Mq hc fun a _=>Mg 10<|M0 (.un 2)<|Mg 7<|K6 (0:Nat) u.head [1,2,4,15,16,17,22,23] (fun b c=>([bJ 0 0 0 0,bJ 1 0 0 0,AV.sl0 3 0 u.head.length none,kO [AV.sl0 3 0 u.head.length none,AV.sl0 4 0 u.words.length none] true,iV 2,iV 0,nV u.head.length,nV b],[aZ 8 false 0 [aw [iV 0,iV 0,iV 0,iV u.kind,aj u.label,AV.sl0 3 0 u.head.length none,AV.sl0 4 0 u.words.length none,AV.sl0 5 a u.kids.length none]],aZ 8 false 0 [aw [iV 0,iV 0,iV 0,iV 0,aj [],ak,ak,ak]],AObj.dead,aZ 4 true 0<|c.map aQ,aZ 4 true 0<|u.words.map aQ,aZ 8 true a<|u.kids.map aV])) (fun a b=>a≤u.head.length∧b=ky gr u.head a) (fun a _=>u.head.length - a) (by exact ⟨bE _,rfl⟩) fun b c hx1 d=>have hx1:b≤u.head.length∧c=ky gr u.head b:=hx1;have :c.length=u.head.length:=(by grind [u0]);Ka 0 (Int.ofNat b) (Int.ofNat u.head.length) (fun _ _=>K1 4 .rix (et (aU 0) (sA:b<u.head.length))<|K1 0 (.rst (aQ<|gD c b)<|(c.set b<|PWord.mk (gD c b).text 0 0 0).map aQ) (cH (aU 0) (aR aQ (sA:b<(c).length))<|jP (f:=aQ) (l:=c) (i:=b) (w:=PWord.mk (gD c b).text 0 0 0))<|Kl 0 31 (jY b)<|Kf 0<|d (b+1) (c.set b<|PWord.mk (gD c b).text 0 0 0) (by grind [yO]) gR) fun _ _=>Mg 9<|K6 (0:Nat) u.words [1,2,4,15,16,17,22,23] (fun b d=>([bJ 0 0 0 0,bJ 1 0 0 0,AV.sl0 4 0 u.words.length none,kO [AV.sl0 3 0 u.head.length none,AV.sl0 4 0 u.words.length none] true,iV 2,iV 1,nV u.words.length,nV b],[aZ 8 false 0 [aw [iV 0,iV 0,iV 0,iV u.kind,aj u.label,AV.sl0 3 0 u.head.length none,AV.sl0 4 0 u.words.length none,AV.sl0 5 a u.kids.length none]],aZ 8 false 0 [aw [iV 0,iV 0,iV 0,iV 0,aj [],ak,ak,ak]],AObj.dead,aZ 4 true 0<|c.map aQ,aZ 4 true 0<|d.map aQ,aZ 8 true a<|u.kids.map aV])) (fun a b=>a≤u.words.length∧b=ky gr u.words a) (fun a _=>u.words.length - a) (by exact ⟨bE _,rfl⟩) fun b d hx2 e=>have hx2:b≤u.words.length∧d=ky gr u.words b:=hx2;have :d.length=u.words.length:=(by grind [u0]);Ka 0 (Int.ofNat b) (Int.ofNat u.words.length) (fun _ _=>K1 4 .rix (et (aU 0) (sA:b<u.words.length))<|K1 0 (.rst (aQ<|gD d b)<|(d.set b<|PWord.mk (gD d b).text 0 0 0).map aQ) (cH (aU 0) (aR aQ (sA:b<(d).length))<|jP (f:=aQ) (l:=d) (i:=b) (w:=PWord.mk (gD d b).text 0 0 0))<|Kl 0 31 (jY b)<|Kf 0<|e (b+1) (d.set b<|PWord.mk (gD d b).text 0 0 0) (by grind [yO]) gR) fun _ _=>Mg 7<|K6 (0:Nat) u.kids [1,2,35,36] (fun b e=>([bJ 0 0 0 0,bJ 1 0 0 0,nV u.kids.length,nV b],[aZ 8 false 0 [aw [iV 0,iV 0,iV 0,iV u.kind,aj u.label,AV.sl0 3 0 u.head.length none,AV.sl0 4 0 u.words.length none,AV.sl0 5 a u.kids.length none]],aZ 8 false 0 [aw [iV 0,iV 0,iV 0,iV 0,aj [],ak,ak,ak]],AObj.dead,aZ 4 true 0<|c.map aQ,aZ 4 true 0<|d.map aQ,aZ 8 true a<|e.map aV])) (fun a b=>a≤u.kids.length∧b=ky cE u.kids a) (fun a _=>u.kids.length - a) (by exact ⟨bE _,rfl⟩) fun b e hx3 f=>have hx3:b≤u.kids.length∧e=ky cE u.kids b:=hx3;have :e.length=u.kids.length:=(by grind [u0]);have g:b<u.kids.length→kP (342:FuncId) [eU (gD e b)] (eU (cE (gD e b))):=fun h=>ihk _ (by grind [yP, iQ]);Ka 0 (Int.ofNat b) (Int.ofNat u.kids.length) (fun _ _=>K1 7 .rix (et (aU a) (sA:b<u.kids.length))<|Mr (et (aU a)<|qF aV (g:=Go.Ev.eU) aH (sA:b<(e).length))<|Mp (g sA)<|M1 .rix (et (aU a) (sA:b<u.kids.length))<|M3 (.rst (aw [iV (gD e b).act,iV (gD e b).item,iV (gD e b).n,iV (gD e b).kind,aj (gD e b).label,aW<|List.map aQ (gD e b).head,aW<|List.map aQ (gD e b).words,aW<|List.map aV (gD e b).kids])<|(e.set b<|cE<|gD e b).map aV) rt (iJ (tR 8 true a 6<|aX gM e) rt) (cH (aU a) (qF aV (g:=Go.Ev.eU) aH (sA:b<(e).length))<|CO (f:=aV) (g:=Go.Ev.eU) aH (l:=e) (i:=b) (w:=cE<|gD e b))<|Kl 0 49 (jY b)<|Kf 0<|f (b+1) (e.set b<|cE<|gD e b) (by grind [yP, BL]) gR) fun _ _=>M2 (.fza 0 7 5 [1,2]<|e.map aV) (xm (tR 4 true 0 5<|aX io d) (tR 4 true 0 5<|aX io c) rt rt rt ti) (cH (aU a) (tA aV e u.kids.length (oA:(e).length=u.kids.length))<|aX gM e)<|M2 (.fza 0 6 4 [1,2]<|d.map aQ) (HK (tR 4 true 0 4<|aX io c) rt rt rt ti) (cH (aU 0) (tA aQ d u.words.length (oA:(d).length=u.words.length))<|aX io d)<|M2 (.fza 0 5 3 [1,2]<|c.map aQ) (kq rt rt rt ti) (cH (aU 0) (tA aQ c u.head.length (oA:(c).length=u.head.length))<|aX io c)<|Kf 1 (aL (lc<|lc<|lc<|lc<|lc<|.cons (cj<|rr0<|c.map aQ)<|.cons (cj<|rr1<|d.map aQ)<|.cons (cj<|rr2<|e.map aV) .nil)<|by kernel_rfl:Le _ (AV.agg [iV 0,iV 0,iV 0,iV u.kind,AV.str u.label,AV.ls (c.map aQ),AV.ls (d.map aQ),AV.ls (e.map aV)]))
theorem PW:Go.Proofs.Builder.Extra Tryz.prog Tryz.ljoin_ren:=by
  repeat' (first | kernel_rfl | (intro w;kernel_rfl) | decide | constructor)
theorem SI (l:List aO) (sep:aO) (h1:l.length≤140737488355328) (h2:(Lib.join l sep).length≤140737488355328):kP 299 [.ls (l.map mM), .str sep] (.str (Lib.join l sep)):=L1 (Go.Proofs.enters_of Tryz.func299 (by kernel_rfl) rfl) (fun a b c d e f g h i j k=>Go.Proofs.Any.strings_Join Go.Proofs.Tryz.ljoin PW a b c d e f g h i j k) (fun a b c d=>Go.Proofs.Any.strings_Join_none Go.Proofs.Tryz.ljoin PW a b c d) l sep h1 h2
theorem Xc:Go.Proofs.Builder.Extra Tryz.prog Tryz.lrep_ren:=by
  repeat' (first | kernel_rfl | (intro w;kernel_rfl) | decide | constructor)
theorem U2 (s:aO) (c:Nat) (h1:c≤9223372036854775807) (h2:s.length * c≤140737488355328):kP 368 [.str s,nV c] (.str (Lib.repeatL s c)):=E2 (Go.Proofs.enters_of Tryz.func368 (by kernel_rfl) rfl) (fun a b d e f=>Go.Proofs.Any.strings_Repeat Go.Proofs.Tryz.lrep Xc a b d e f) s c h1 h2
theorem Od (s:aO) (ws:List PWord) (hw : ∀ w,w∈ws→1≤w.text.length∧w.text.length≤24) (hb:s.length+26 * ws.length≤2 ^ 40) (hn:ws.length≤2 ^ 20):kP 370 [.str s, .ls (ws.map aQ)] (.str (lH s ws)):=by
  have rr0 b' (h:(lH s ws)=b':=by first | rfl | (exact hj0.1.symm)):=h;exact bg Tryz.func370<|Kl 2 8 (ln aQ ws)<|Mg 0<|Ut (0:Nat) ws s [0,7,8,9] (fun a _ b=>([aj b,aW<|ws.map aQ,nV ws.length,nV a],[])) (fun a b c=>(ws).drop a=b∧lH c b=lH s ws∧List.length c+26 * b.length≤2 ^ 40) (fun _ a _=>a.length) (et rfl<|by first | rfl | (first | simp_all | (refine ⟨by (rw [← hj0.1,oq];first | rw [D6 h1] | rw [D0 h1 h2] | rw [DT h1 h2]),?_⟩;have q:=hj0.2;simp only [lA,lC,lN] at *;omega))) fun a b c d e=>Mc b (fun a=>have b:=gn d.1 a;have hj0:=je (J:=fun a b=>lH b a=lH s ws∧List.length b+26 * a.length≤2 ^ 40) (a:=c) a d.2;Kh 0 b<|Kf 1<|Le.str<|rr0 c) fun b f g=>let i:=[aZ 4 false 0 [aw [aj b.text,iV b.act,iV b.item,iV b.at_]]];have j:=gp d.1 g;have :=ap j;have k:=gm (enc:=aQ) d.1 g;have hj0:=cP (J:=fun a b=>lH b a=lH s ws∧List.length b+26 * a.length≤2 ^ 40) (a:=c) g d.2;have :=hw b<|aM d.1 g;Kt 0 j<|Mx k<|Kv 3 (iP (s:=c) (u:=[32]) (H:=aa i) (by (first | first | assumption | omega | grind):(c).length+([32]).length≤2 ^ 62))<|K1 2 (.chr<|gD b.text 0) (yB (by first | omega | (simp only [oN,lM,lS] at *;omega) | (simp only [oN,lM,lS,lA,lR,lC,lN] at * <;> omega):0<(b.text).length))<|Kj 1 (Int.ofNat (gD b.text 0).toNat) 124 (fun j _=>Mt j<|Mt j<|Mt j<|MV j<|Kv 1 (iP (s:=c++ [32]) (u:=[92]) (H:=aa i) (by (first | first | assumption | omega | grind):(c++ [32]).length+([92]).length≤2 ^ 62))<|Kv 3 (iP (s:=c++ [32]++ [92]) (u:=b.text) (H:=aa i) (by (first | first | assumption | omega | grind):(c++ [32]++ [92]).length+(b.text).length≤2 ^ 62))<|Kl 1 31 (dB a)<|K1 0 (.frz 0 [0,7,8,9]) ti<|Mf<|e (a+1) f (c++ [32]++ [92]++b.text) (et (bR d.1 g)<|by first | exact ⟨rfl,hb⟩ | (refine ⟨by (rw [← hj0.1,oq];first | rw [D6 j] | rw [D0 j h2] | rw [DT j h2]),?_⟩;grind))<|fI g) fun j _=>Kh 0 j<|Kh 0 j<|M1 (.chr<|gD b.text 0) (yB (by first | omega | (simp only [oN,lM,lS] at *;omega) | (simp only [oN,lM,lS,lA,lR,lC,lN] at * <;> omega):0<(b.text).length))<|Mh j<|Kw 0 j<|Mb (ab (Int.ofNat (gD b.text 0).toNat) 92) (fun k=>have :=iq k;Kv 0 (iP (s:=c++ [32]) (u:=[92]) (H:=aa i) (by (first | first | assumption | omega | grind):(c++ [32]).length+([92]).length≤2 ^ 62))<|Kv 3 (iP (s:=c++ [32]++ [92]) (u:=b.text) (H:=aa i) (by (first | first | assumption | omega | grind):(c++ [32]++ [92]).length+(b.text).length≤2 ^ 62))<|Kl 1 31 (dB a)<|K1 0 (.frz 0 [0,7,8,9]) ti<|Mf<|e (a+1) f (c++ [32]++ [92]++b.text) (et (bR d.1 g)<|by first | exact ⟨rfl,hb⟩ | (refine ⟨by (rw [← hj0.1,oq];first | rw [D6 j] | grind [D0] | rw [DT j k]),?_⟩;grind))<|fI g) fun k=>have :=CY k;Kv 2 (iP (s:=c++ [32]) (u:=b.text) (H:=aa i) (by (first | first | assumption | omega | grind):(c++ [32]).length+(b.text).length≤2 ^ 62))<|Kl 1 31 (dB a)<|K1 0 (.frz 0 [0,7,8,9]) ti<|Mf<|e (a+1) f (c++ [32]++b.text) (et (bR d.1 g)<|by first | exact ⟨rfl,hb⟩ | (refine ⟨by (rw [← hj0.1,oq];first | rw [D6 j] | rw [D0 j k] | grind [DT]),?_⟩;grind))<|fI g
theorem rH {u:TUnit} (h:ma u):ma (cE u):=by
  obtain ⟨h1,h2⟩:=LU u
  refine ⟨by rw [h1];exact h.1,fun x hx=>?_⟩
  obtain ⟨y,hy,rfl⟩:=h2 x hx
  obtain ⟨a,b,c,d,e⟩:=h.2 y hy
  rw [mW]
  refine ⟨by grind [TUnit.head],by grind [TUnit.words],c,fun w hw=>?_,fun w hw=>?_⟩
  · obtain ⟨v,hv,rfl⟩:=jr.1 hw;exact d v hv
  · obtain ⟨v,hv,rfl⟩:=jr.1 hw;exact e v hv
theorem Bw {u:TUnit} (h:rb u):ma (sM u):=by
  have e:bc (sM u) = [sM u]:=by rw [dz];exact congrArg _ fD
  refine ⟨by rw [i9];exact bI (vi (congrArg (1 + ·) l8)) (by omega),fun x hx=>?_⟩
  rw [e] at hx
  rw [nI.1 hx];exact h
theorem CE (u:TUnit) (h:ma u):kP 342 [eU u] (eU (cE u)):=
  N2 u (bI h.1 (by omega)) fun x hx=>⟨bI (h.2 x hx).1 (by omega),bI (h.2 x hx).2.1 (by omega)⟩
theorem PZ (u:TUnit) (d:Nat) (hd:d≤2 ^ 20) (h:rb u):kP 367 [eU u,nV d] (.bool (DK u d)):=by
  have h1:=CE (sM u) (Bw h)
  have h2:=xJ (cE (sM u)) (rH (Bw h))
  have hz:=VK d
  have rr0 b' (h:(DK u d)=b':=by first | rfl | (unfold DK;simp only [aS,ax,bS, *];done)):=h;exact bg Tryz.func367<|Kn 13 (ar 8<|Int.ofNat d) (fun a=>Kt 0 (cQ a)<|Mp (aN.onArgs (.cons (aL (lc<|lc<|lc<|lc<|lc<|lc<|lc<|.cons bo .nil)<|by kernel_rfl) .nil) h1:kP 342 [aw [iV 0,iV 0,iV 0,iV u.kind,aj u.label,aW (u.head.map aQ),aW (u.words.map aQ),ak]] _)<|Mt (cQ a)<|Mp h2<|MV (cQ a)<|Kf 0<|b9<|rr0<|ki<|cE<|sM u) fun a=>Mh (bN a)<|Mh (bN a)<|My (bN a)<|Ky 0<|rr0 false
theorem Vb (u:TUnit) (d:Nat) (hd:d≤2 ^ 20) (h:rb u) (hm:DK u d=false):kP 344 [eU u,nV d] (.str (fN u d)):=by
  have h1:=PZ u d hd h
  rw [hm] at h1
  have e:fN u d = []:=by unfold fN;simp_all
  rw [e]
  exact bg Tryz.func344<|Kp 3 h1<|Kf 2<|bV<|aj []
def L0 (u:TUnit) (d:Nat) (z18:aO):Prop:=(z18=bif ax (ab u.kind (0:Int)) then Lib.repeatL [(32:UInt8),(32:UInt8)] d++c8 u.kind++([(32:UInt8)]++u.label) else Lib.repeatL [(32:UInt8),(32:UInt8)] d++c8 u.kind)∧List.length z18≤(40:Nat)
noncomputable def LS (u:TUnit) (d:Nat) (z18:aO):List AV × List AObj:=([AV.ptr 0 0 0 0,AV.str z18], [AObj.row 8 false 0 [AV.agg [iV u.act,iV u.item,iV u.n,iV u.kind,AV.str u.label,AV.ls (u.head.map aQ),AV.ls (u.words.map aQ),AV.ls (u.kids.map aV)]]])
def LR (u:TUnit) (z18:aO) (z27:aO):Prop:=(z27=bif ar (0:Int) (Int.ofNat u.head.length) then lH (z18++ [(58:UInt8)]) u.head else z18)∧List.length z27≤(6700:Nat)
noncomputable def LP (u:TUnit) (z18:aO) (z27:aO):List AV × List AObj:=([AV.ptr 0 0 0 0,AV.str z27], [AObj.row 8 false 0 [AV.agg [iV u.act,iV u.item,iV u.n,iV u.kind,AV.str u.label,AV.ls (u.head.map aQ),AV.ls (u.words.map aQ),AV.ls (u.kids.map aV)]]])
theorem Va (u:TUnit) (d:Nat) (hd:d≤2 ^ 20) (h:rb u) (hm:DK u d=true):kP 344 [eU u,nV d] (.str (fN u d)):=by
  have h1:=PZ u d hd h
  obtain ⟨hd8,hlb,⟨hh1,hh2⟩,hw1,hw2⟩:=JL hm
  have hrl:=Lib.repeatL_length [32,32] d
  simp only [lC,lN] at hrl
  have h2:=U2 [32,32] d (by omega) (by grind)
  have hk:=wW u.kind
  have hkl:=zJ u.kind
  have hp1 : ∀ s:aO,s.length≤2 ^ 14→kP 370 [.str s, .ls (u.head.map aQ)] (.str (lH s u.head)):=fun s hs=>Od s u.head hh2 (by omega) (by omega)
  have hp2 : ∀ s:aO,s.length≤2 ^ 14→kP 370 [.str s, .ls (u.words.map aQ)] (.str (lH s u.words)):=fun s hs=>Od s u.words hw2 (by omega) (by omega)
  rw [hm] at h1
  have rr0 b' (h:(fN u d)=b':=by first | rfl | (unfold fN;rw [hm];simp only [ax,cond_false];rw [← hz18.1,← hz27.1];first | (rw [h3];rfl) | (rw [h4];rfl) | (rw [h5];rfl) | (rw [h6];rfl) | (rw [h7];rfl))):=h;let q1:= [aZ 8 false 0 [aw [iV u.act,iV u.item,iV u.n,iV u.kind,aj u.label,aW (u.head.map aQ),aW (u.words.map aQ),aW (u.kids.map aV)]]];exact bg Tryz.func344<|Kp 3 h1<|Kp 2 h2<|Kp 1 hk<|Mv (iP (s:=Lib.repeatL [32,32] d) (u:=c8 u.kind) (H:=AHeap.mk 1000000 Tr.nil) (by (first | first | assumption | ((try simp only [lA,lC,lN]);omega) | (simp only [lA,lC,lN] at *;omega)):(Lib.repeatL [32,32] d).length+(c8 u.kind).length≤2 ^ 62))<|Mg 0<|Mj aO [2,5] (LS u d) (L0 u d) (fun a=>Kn 2 (ab u.kind 0) (fun _=>Kv 2 (iP (s:=[32]) (u:=u.label) (H:=aa q1) (by (first | first | assumption | ((try simp only [lA,lC,lN]);omega) | (simp only [lA,lC,lN] at *;omega)):([32]).length+(u.label).length≤2 ^ 62))<|Mv (iP (s:=Lib.repeatL [32,32] d++c8 u.kind) (u:=32::u.label) (H:=aa q1) (by (first | first | assumption | ((try simp only [lA,lC,lN]);omega) | (simp only [lA,lC,lN] at *;omega)):(Lib.repeatL [32,32] d++c8 u.kind).length+(32::u.label).length≤2 ^ 62))<|Kf 0<|a (Lib.repeatL [32,32] d++c8 u.kind++32::u.label) (by (refine ⟨by first | simp_all | (rw [h2];rfl) | (rw [h3];rfl) | (rw [h0];rfl),?_⟩;grind):(Lib.repeatL [(32:UInt8),(32:UInt8)] d++c8 u.kind++(32:UInt8)::u.label=bif ax (ab u.kind (0:Int)) then Lib.repeatL [(32:UInt8),(32:UInt8)] d++c8 u.kind++([(32:UInt8)]++u.label) else Lib.repeatL [(32:UInt8),(32:UInt8)] d++c8 u.kind)∧(Lib.repeatL [(32:UInt8),(32:UInt8)] d++c8 u.kind++(32:UInt8)::u.label).length≤40)) fun _=>Mf<|a (Lib.repeatL [32,32] d++c8 u.kind) (by (refine ⟨by first | simp_all | (rw [h2];rfl) | (rw [h3];rfl) | (rw [h0];rfl),?_⟩;grind):(Lib.repeatL [(32:UInt8),(32:UInt8)] d++c8 u.kind=bif ax (ab u.kind (0:Int)) then Lib.repeatL [(32:UInt8),(32:UInt8)] d++c8 u.kind++([(32:UInt8)]++u.label) else Lib.repeatL [(32:UInt8),(32:UInt8)] d++c8 u.kind)∧(Lib.repeatL [(32:UInt8),(32:UInt8)] d++c8 u.kind).length≤40)) fun a hz18=>have hz18:(a=bif ax (ab u.kind (0:Int)) then Lib.repeatL [(32:UInt8),(32:UInt8)] d++c8 u.kind++([(32:UInt8)]++u.label) else Lib.repeatL [(32:UInt8),(32:UInt8)] d++c8 u.kind)∧List.length a≤40:=hz18;Mj aO [2,5] (LP u a) (LR u a) (fun b=>Kl 2 26 (ln aQ u.head)<|Kb 0 (ar 0<|Int.ofNat u.head.length) (fun h3=>Kv 0 (iP (s:=a) (u:=[58]) (H:=aa q1) (by (first | first | assumption | ((try simp only [lA,lC,lN]);omega) | (simp only [lA,lC,lN] at *;omega)):(a).length+([58]).length≤2 ^ 62))<|Kp 1 (hp1 (a++ [58])<|by first | assumption | ((try simp only [lA,lC,lN]);omega))<|Kf 0<|b (lH (a++ [58]) u.head) (by (refine ⟨by first | simp_all | (rw [h2];rfl) | (rw [h4];rfl) | (rw [h5];rfl),?_⟩;first | omega | (have q:=uy (fun w hw=>(hh2 w hw).2) (a++ [58]);grind)):(lH (a++ [(58:UInt8)]) u.head=bif ar (0:Int) (Int.ofNat u.head.length) then lH (a++ [(58:UInt8)]) u.head else a)∧List.length (lH (a++ [(58:UInt8)]) u.head)≤6700)) fun h3=>Mf<|b a (by (refine ⟨by first | simp_all | (rw [h2];rfl) | (rw [h4];rfl) | (rw [h5];rfl),?_⟩;first | omega | (have q:=uy (fun w hw=>(hh2 w hw).2) (a++ [58]);simp only [lA,lC,lN] at q;omega)):(a=bif ar (0:Int) (Int.ofNat u.head.length) then lH (a++ [(58:UInt8)]) u.head else a)∧List.length a≤6700)) fun b hz27=>have hz27:(b=bif ar (0:Int) (Int.ofNat u.head.length) then lH (a++ [(58:UInt8)]) u.head else a)∧List.length b≤6700:=hz27;Kl 2 35 (ln aQ u.words)<|Kb 0 (ar 0<|Int.ofNat u.words.length) (fun h4=>Kv 0 (iP (s:=b) (u:=[32,124]) (H:=aa q1) (by (first | first | assumption | ((try simp only [lA,lC,lN]);omega) | (simp only [lA,lC,lN] at *;omega)):(b).length+([32,124]).length≤2 ^ 62))<|Kp 1 (hp2 (b++ [32,124])<|by first | assumption | ((try simp only [lA,lC,lN]);omega))<|Kf 2<|Le.str<|rr0<|lH (b++ [32,124]) u.words) fun h4=>Kf 1<|Le.str<|rr0 b
theorem JS (u:TUnit) (d:Nat) (hd:d≤2 ^ 20) (h:rb u):kP 344 [eU u,nV d] (.str (fN u d)):=by
  grind [Vb, Va]
noncomputable abbrev GO (ep n:Nat):AObj:= .row 1 false 0 [.slice 2 ep 0 n none]
noncomputable abbrev DG:AObj:= .row 1 false 0 [.func (.func 343) [] [.ptr 0 0 0 0, .ptr 1 0 0 0]]
noncomputable abbrev Ep (ep:Nat) (l:List aO):AObj:= .row 1 true ep (l.map mM)
def sU (u:TUnit) (d:Nat) (l:List aO) (x0:Nat × List TUnit × Nat × Nat × List aO):Prop:=(u.kids).drop x0.1=x0.2.1∧x0.2.2.2.1=x0.2.2.2.2.length∧x0.2.2.2.2++dQ (d+(1:Nat)) x0.2.1=l++ [fN u d]++dQ (d+(1:Nat)) u.kids∧x0.2.2.2.2.length+eQ x0.2.1≤2 ^ 20
noncomputable def sY (u:TUnit) (d:Nat) (l:List aO) (x0:Nat × List TUnit × Nat × Nat × List aO):List AV × List AObj:=([nV d,AV.ptr 1 0 0 0,AV.ls (u.kids.map aV),nV u.kids.length,nV x0.1], [AObj.row 1 false 0 [AV.slice 2 x0.2.2.1 0 x0.2.2.2.1 none],AObj.row 1 false 0 [AV.func (Fn.func 343) [] [AV.ptr 0 0 0 0,AV.ptr 1 0 0 0]],AObj.row 1 true x0.2.2.1 (x0.2.2.2.2.map mM)])
theorem Xd : ∀ (u:TUnit) (d ep n:Nat) (l:List aO),n=l.length→l.length+nU u≤2 ^ 20→d+nU u≤2 ^ 20→(∀ x,x∈bc u→rb x)→kC 343 [eU u,nV d, .ptr 0 0 0 0, .ptr 1 0 0 0] (aa [GO ep n,DG,Ep ep l])
    (fun v h=>∃ y:Nat × Nat × List aO,(y.2.1=y.2.2.length∧y.2.2=l++eZ d u)∧v = .tuple []∧h=aa [GO y.1 y.2.1,DG,Ep y.1 y.2.2]):=by
  refine TUnit.ind fun u ih d ep n l hn hl hd ht=>?_
  have hq:=i9 u
  have hkl:=bw u
  have hf:=JS u d (by omega) (ht u (dK u))
  have ihk : ∀ k,k∈u.kids→∀ (d ep n:Nat) (l:List aO),n=l.length→l.length+nU k≤2 ^ 20→d+nU k≤2 ^ 20→kC 343 [eU k,nV d, .ptr 0 0 0 0, .ptr 1 0 0 0] (aa [GO ep n,DG,Ep ep l])
    (fun v h=>∃ y:Nat × Nat × List aO,(y.2.1=y.2.2.length∧y.2.2=l++eZ d k)∧v = .tuple []∧h=aa [GO y.1 y.2.1,DG,Ep y.1 y.2.2]):=fun k hk d ep n l a b c=>ih k hk d ep n l a b c (fun x hx=>ht x (bf hk hx))
  exact pI Tryz.func343 fun e=>Kp 3 hf<|Mg 0<|Mw (.apx ((l++ [fN u d]).map mM)<|.go 3<|.le 16 (nV u.kids.length)<|.go 0<|.frz 3 [1,3,15,16,17]<|.loop (Nat × List TUnit × Nat × Nat × List aO) [1,3,15,16,17] (sY u d l) (sU u d l) (fun e=>e.2.1.length) (0,u.kids,(ep+1,n+1,l++ [fN u d])) fun e=>.cs TUnit e.2.1 (.go 0<|.ff .fin) fun f _=>.go 0<|.tt<|.elem (eU f)<|.go 6<|.le 24 (nV<|d+1)<|.frz 3 [1,3,15,16,17,21,22,24]<|.eff (Nat × Nat × List aO) (fun _=>cK []) (fun e=>aa [GO e.1 e.2.1,DG,Ep e.1 e.2.2]) (fun g=>g.2.1=g.2.2.length∧g.2.2=e.2.2.2.2++eZ (d+1) f) fun _=>.go 0<|.le 26 (nV<|e.1+1)<|.go 0 .fin)<|ZQ rt (iJ (tR 1 true ep 4<|aX Io l) rt) (et (m8 _ _:([aj (fN u d)]:List AV)≠ []) rt) (et (cH (aU ep) (by first | assumption | omega | simp_all | (refine aE (m:=2 ^ 31) ?_ ?_ ?_ <;> (try simp only [lM,lC,lN]) <;> omega):n=(l.map mM).length) (by first | assumption | omega | (simp only [lM];omega) | (refine aE (m:=2 ^ 31) ?_ ?_ ?_ <;> (try simp only [lM,lC,lN]) <;> omega):small (n+([AV.str (fN u d)]).length) 16=true))<|dr (f:=mM) (l:=l) (ws:=[fN u d])) (ln aV u.kids) (kq (tR 1 true (ep+1) 3<|aX Io<|l++ [fN u d]) rt rt ti) (aU<|sY u d l (0,u.kids,(ep+1,n+1,l++ [fN u d]))) (et (rfl:List.drop 0 (u.kids)=u.kids) (by first | rfl | (first | grind | (have h1:=hj0.2.1;have h2:=hj0.2.2;rw [ba] at h2;rw [l9] at h1;exact ⟨hy1.1,(by rw [hy1.2,← h1];simp),(by rw [hy1.2,lA,kr];omega)⟩)):(n+1=(l++ [fN u d]).length∧l++ [fN u d]++dQ (d+1) u.kids=l++ [fN u d]++dQ (d+1) u.kids∧(l++ [fN u d]).length+eQ u.kids≤2 ^ 20))) fun (f:Nat × List TUnit × Nat × Nat × List aO) (g:(sU u d l) f)=>et (fun (i:f.2.1 = [])=>have j:=gn g.1 i;have :=je (J:=fun e f=>f.2.1=f.2.2.length∧f.2.2++dQ (d+1) e=l++ [fN u d]++dQ (d+1) u.kids∧f.2.2.length+eQ e≤2 ^ 20) (a:=f.2.2) i g.2;et j<|e (f.2.2.1,f.2.2.2.1,f.2.2.2.2)<|by first | grind [wQ, BN] | rfl) fun (e:TUnit) (i:List TUnit) (j:f.2.1=e::i)=>have o:=gp g.1 j;have :=ap o;have p:=(gm (enc:=aV) g.1 j).trans<|congrArg some<|aH e;have :=cP (J:=fun e f=>f.2.1=f.2.2.length∧f.2.2++dQ (d+1) e=l++ [fN u d]++dQ (d+1) u.kids∧f.2.2.length+eQ e≤2 ^ 20) (a:=f.2.2) j g.2;have q:=aM g.1 j;have r:f.2.2.2.2.length+nU e≤2 ^ 20:=(by grind [ba]);have s:d+1+nU e≤2 ^ 20:=(by have:=hJ q;omega);xm o p (jY d) (kq (tR 1 true f.2.2.1 3<|aX Io f.2.2.2.2) rt rt ti) (ihk e q (d+1) f.2.2.1 f.2.2.2.1 f.2.2.2.2 (by first | assumption | omega | (simp only [lM];omega) | (refine aE (m:=2 ^ 31) ?_ ?_ ?_ <;> (try simp only [lM,lC,lN]) <;> omega)) r s) fun (o:Nat × Nat × List aO) (_:o.2.1=o.2.2.length∧o.2.2=f.2.2.2.2++eZ (d+1) e)=>et (jY f.1)<|Nx.mk (I:=sU u d l) (m:=fun e=>e.2.1.length) (S:=sY u d l) (x:=f) (f.1+1,i,(o.1,o.2.1,o.2.2)) (et (bR g.1 j) (by first | exact ⟨by simp [hn],rfl,by simp;omega⟩ | grind [ba, l9, kr]:(o.2.1=o.2.2.length∧o.2.2++dQ (d+1) i=l++ [fN u d]++dQ (d+1) u.kids∧o.2.2.length+eQ i≤2 ^ 20)))<|fI j
theorem Xe (u:TUnit) (d:Nat) (hl:nU u≤2 ^ 19) (hd:d+nU u≤2 ^ 20) (ht : ∀ x,x∈bc u→rb x):kC 343 [eU u,nV d, .ptr 0 0 0 0, .ptr 1 0 0 0] (aa [.row 1 false 0 [.nils],DG])
    (fun v h=>∃ y:Nat × Nat × List aO,(y.2.1=y.2.2.length∧y.2.2=eZ d u)∧v = .tuple []∧h=aa [GO y.1 y.2.1,DG,Ep y.1 y.2.2]):=by
  have hq:=i9 u
  have hkl:=bw u
  have hf:=JS u d (by omega) (ht u (dK u))
  have ihk : ∀ k,k∈u.kids→∀ (d ep n:Nat) (l:List aO),n=l.length→l.length+nU k≤2 ^ 20→d+nU k≤2 ^ 20→kC 343 [eU k,nV d, .ptr 0 0 0 0, .ptr 1 0 0 0] (aa [GO ep n,DG,Ep ep l])
    (fun v h=>∃ y:Nat × Nat × List aO,(y.2.1=y.2.2.length∧y.2.2=l++eZ d k)∧v = .tuple []∧h=aa [GO y.1 y.2.1,DG,Ep y.1 y.2.2]):=fun k hk d ep n l a b c=>Xd k d ep n l a b c (fun x hx=>ht x (bf hk hx))
  exact pI Tryz.func343 fun e=>Kp 3 hf<|Kl 5 16 (ln aV u.kids)<|Mg 0<|M0 (.ren [0,1,3,2] [] [1,3,15,16,17])<|M1 (.frz 3 [1,3,15,16,17]) (kq rt rt rt ti)<|UJ aV u.kids (0:Nat) (1:Nat) ([fN u d]:List aO) [1,3,15,16,17] (fun e _ f g i=>([nV d,bJ 1 0 0 0,aW<|u.kids.map aV,nV u.kids.length,nV e],[aZ 1 false 0 [aG 2 f 0 g none],aZ 1 false 0 [bZ (bQ 343) [] [bJ 0 0 0 0,bJ 1 0 0 0]],aZ 1 true f<|i.map mM])) (fun e _ f g=>f=g.length∧g++dQ (d+1) e= [fN u d]++dQ (d+1) u.kids∧g.length+eQ e≤2 ^ 20) (by first | rfl | (first | grind | (have h1:=hj0.2.1;have h2:=hj0.2.2;rw [ba] at h2;rw [l9] at h1;exact ⟨hy1.1,(by rw [hy1.2,← h1];simp),(by rw [hy1.2,lA,kr];omega)⟩))) (fun _ _ f g i _ _ _ j _=>Kh 0 j<|Mf<|e (f,g,i)<|by first | grind [wQ, BN] | rfl) fun e _ f g i j m o p q r s _ t _=>have t:=(t).trans<|congrArg some<|aH o;have :=cP (J:=fun e f=>f.2.1=f.2.2.length∧f.2.2++dQ (d+1) e= [fN u d]++dQ (d+1) u.kids∧f.2.2.length+eQ e≤2 ^ 20) (a:=(f,g,i)) r m;have j:=aM j r;have m:i.length+nU o≤2 ^ 20:=(by grind [ba]);have r:d+1+nU o≤2 ^ 20:=(by have:=hJ j;omega);Kt 0 s<|Mx t<|Kl 6 24 (jY d)<|M1 (.frz 3 [1,3,15,16,17,21,22,24]) (kq (tR 1 true f 3<|aX Io i) rt rt ti)<|Mq (ihk o j (d+1) f g i (by first | assumption | omega) m r) fun f _=>Kl 0 26 (jY e)<|Kf 0<|q f.1 f.2.1 f.2.2<|by first | exact ⟨by simp [hl],rfl,by simp;omega⟩ | grind [ba, l9, kr]
theorem Vy (u:TUnit) (h:ma u) (hv:ki (cE u)=false):kP 298 [eU u] (.ls (([]:List aO).map mM)):=by
  have h1:=CE u h
  have h2:=xJ (cE u) (rH h)
  exact bg Tryz.func298<|Kp 2 h1<|Mp h2<|Kt 0 (cQ hv)<|Kf 0 bo
theorem Vv (u:TUnit) (h:ma u) (hv:ki (cE u)=true):kP 298 [eU u] (.ls ((eZ 0 u).map mM)):=by
  have h1:=CE u h
  have h2:=xJ (cE u) (rH h)
  have h3:=Xe u 0 h.1 (by have:=h.1;omega) h.2
  have rr0 b' (h:((eZ 0 u).map mM)=b':=by first | rfl | (rw [hy0.2])):=h;exact bg Tryz.func298<|Kp 2 h1<|Mp h2<|Kh 0 (bN hv)<|Mg 5<|M0 (.ren [1,2,0] [] [3,10,11])<|M1 (.frz 2 [3,10,11]) (cH rt rt ti)<|Mq h3 fun a hy0=>Mg 1<|M2 (.fsl 0 [] 2<|a.2.2.map mM) ti (cH (aU a.1) (tA mM a.2.2 a.2.1 (by first | assumption | omega:(a.2.2).length=a.2.1))<|aX Io a.2.2)<|Ml 2 (fg (a.2.2.map mM) false<|aX Io a.2.2)<|Mf<|cj<|rr0<|a.2.2.map mM
theorem Xo (u:TUnit) (h:ma u) (hv:ki (cE u)=false):kP 243 [eU u] (.tuple [.str (wO u).1,iV (wO u).2]):=by
  have h1:=Vy u h hv
  have e:wO u=([],1):=by unfold wO;simp_all
  rw [e]
  exact bg Tryz.func243<|Kp 3 h1<|Kf 6<|bV<|cK [aj [],iV 1]
theorem Xn (u:TUnit) (h:ma u) (hv:ki (cE u)=true):kP 243 [eU u] (.tuple [.str (wO u).1,iV (wO u).2]):=by
  have h1:=Vv u h hv
  have hlen:=kr 0 u
  have hq:=i9 u
  have hm:=h.1
  have hjl:=Pj (sep:= [10]) (B:=2 ^ 14) (l:=eZ 0 u) (fun s hs=>zZ 0 u s hs)
  rw [hlen] at hjl
  have hj2:(Lib.join (eZ 0 u) [10]).length≤140737488355328:=bI hjl (bI (ef _ hm) (by grind))
  have hj3:(Lib.join (eZ 0 u) [10]).length≤2 ^ 40:=bI hjl (bI (ef _ hm) (by grind))
  have hj:=SI (eZ 0 u) [10] (by omega) hj2
  have hz:ab (.ofNat (eZ 0 u).length) 0=false:=by grind [Qj]
  have e:wO u=(bif ar 16384 (.ofNat (Lib.join (eZ 0 u) [10]++ [10]).length) then ([],6) else (Lib.join (eZ 0 u) [10]++ [10],0)):=by unfold wO;simp_all
  rw [e]
  clear e
  generalize Lib.join (eZ 0 u) [10]=J at *
  cases hb:ar 16384 (.ofNat (J++ [10]).length)
  · have hb2:ar 16384 (.ofNat (J++ [10]).length)=false:=hb
    exact bg Tryz.func243<|Kp 3 h1<|Kl 2 9 (ln mM<|eZ 0 u)<|Kh 0 hz<|Kp 0 hj<|Mv (iP (s:=J) (u:=[10]) (H:=aa [aZ 8 false 0 [aw [iV u.act,iV u.item,iV u.n,iV u.kind,aj u.label,aW<|u.head.map aQ,aW<|u.words.map aQ,aW<|u.kids.map aV]]]) (by (first | first | assumption | grind | omega | (simp only [lA,lC,lN] at *;omega)):(J).length+([10]).length≤2 ^ 62))<|Kh 3 hb<|Kf 2<|bV<|cK [aj<|J++ [10],iV 0]
  · have hb2:ar 16384 (.ofNat (J++ [10]).length)=true:=hb
    exact bg Tryz.func243<|Kp 3 h1<|Kl 2 9 (ln mM<|eZ 0 u)<|Kh 0 hz<|Kp 0 hj<|Mv (iP (s:=J) (u:=[10]) (H:=aa [aZ 8 false 0 [aw [iV u.act,iV u.item,iV u.n,iV u.kind,aj u.label,aW<|u.head.map aQ,aW<|u.words.map aQ,aW<|u.kids.map aV]]]) (by (first | first | assumption | grind | omega | (simp only [lA,lC,lN] at *;omega)):(J).length+([10]).length≤2 ^ 62))<|Kt 3 hb<|Kf 1<|bV<|cK [aj [],iV 6]
theorem VI (u:TUnit) (h:ma u):kP 243 [eU u] (.tuple [.str (wO u).1,iV (wO u).2]):=by
  grind [Xo, Xn]
def Vg (u:TUnit):Bool:=GS u && (ax (ab u.kind 0) && ab (wO u).2 0)
theorem Vf (u:TUnit) (h:ma u):kP 154 [eU u] (.bool (Vg u)):=by
  have q1:=VI u h
  have q2:=Wy u h
  have rr0 b' (h:(Vg u)=b':=by first | rfl | (unfold Vg;rw [h0];rfl) | (unfold Vg;rw [h0,h1];rfl) | (unfold Vg;rw [h0,h1,h2];rfl)):=h;exact bg Tryz.func154<|Kp 2 q1<|Kp 5 q2<|Kb 0 (GS u) (fun h0=>Kt 0 h0<|Kt 0 h0<|Ku 0 h0<|Kn 0 (ab u.kind 0) (fun h1=>Kt 0 (cQ h1)<|Ku 0 (cQ h1)<|Kf 0<|b9<|rr0<|ab (wO u).2 0) fun h1=>Mh (bN h1)<|My (bN h1)<|Ky 0<|rr0 false) fun h0=>Mh h0<|Mh h0<|My h0<|Ky 2<|rr0 false
/-- What an item must be, so that the walks can count. -/
def wN (x:PItem):Prop:=m5 x∧(x.at_.length<2 ^ 40∧∀ s,s∈x.at_→s.label.length≤2 ^ 39)∧(x.to.length<2 ^ 40∧∀ s,s∈x.to→s.label.length≤2 ^ 39)∧(x.old.length<2 ^ 40∧∀ s,s∈x.old→s.length≤2 ^ 39)∧(x.new.length<2 ^ 40∧∀ s,s∈x.new→s.length≤2 ^ 39)∧x.label.length≤2 ^ 39∧x.for_.length≤2 ^ 39∧x.start.event.length≤2 ^ 39∧ma x.unit
/-- What a valid item is known to be. -/
def zy (x:PItem):Prop:=(x.kind=0∨x.kind=6→iy x.where_=true)∧(x.kind=0→Vg x.unit=true)∧(x.kind=2∨x.kind=3→qQ x.old=true∧AD x.nth_=true)∧(x.kind=2∨x.kind=3∨x.kind=4→qQ x.new=true)
theorem pS {l:List aO} {n:Int} (h:pT l n=true):qQ l=true:=by
  simp_all [pT]
theorem UA (x:PItem) (hx:wN x) (h0:0≤x.kind) (h6:x.kind≤6) : ∃ b,kP 46 [eI x] (.bool b)∧(b=true→zy x):=by
  obtain ⟨k,a,t,w,n,u,o,ne,l,f,s,ac,im,d,e,bs⟩:=x
  obtain ⟨hf,⟨ha,has⟩,⟨ht,hts⟩,⟨ho,hos⟩,⟨hn,hns⟩,hl,hfo,hse,hu⟩:=hx
  have hz:o6 bj:=⟨by grind,by grind,by grind,trivial⟩
  have n0:(0:Nat)<2 ^ 60:=by omega
  obtain ⟨f1,f2,f3,f4,f5,f6,f7⟩:=hf
  have hff : ∀ k w n,m5 ⟨k,a,t,w,n,u,o,ne,l,f,s,ac,im,d,e,bs⟩:=fun _ _ _=>⟨f1,f2,f3,f4,f5,f6,f7⟩
  have h0:0≤k:=h0
  have h6:k≤6:=h6
  have hk:k=0∨k=1∨k=2∨k=3∨k=4∨k=5∨k=6:=by omega
  rcases hk with rfl | rfl | rfl | rfl | rfl | rfl | rfl
  · refine ⟨_,og ⟨0,a,t,w,n,u,o,ne,l,f,s,ac,im,d,e,bs⟩ (nD ⟨0,a,t,w,n,u,o,ne,l,f,s,ac,im,d,e,bs⟩ 0) 151 152 _ _ rfl rfl (TH _) (sk _ (hff _ _ _) (wq ⟨0,a,t,w,n,u,o,ne,l,f,s,ac,im,d,e,bs⟩ (nD ⟨0,a,t,w,n,u,o,ne,l,f,s,ac,im,d,e,bs⟩ 0)) ⟨f1,n0,n0,n0,n0,f6,trivial⟩) (SB a t w n u o ne l f s ac im d e bs (Vg u) (Vf u hu)) ha has hfo hse,fun h=>?_⟩
    simp only [bK] at h
    exact ⟨fun _=>h.2.2.2.2.1,fun _=>h.2.2.2.2.2,fun q=>(by rcases q with q | q <;> cases q),fun q=>(by rcases q with q | q | q <;> cases q)⟩
  · refine ⟨_,og ⟨1,a,t,w,n,u,o,ne,l,f,s,ac,im,d,e,bs⟩ (nD ⟨1,a,t,w,n,u,o,ne,l,f,s,ac,im,d,e,bs⟩ 1) 155 156 _ _ rfl rfl (TG _) (sk _ (hff _ _ _) (wq ⟨1,a,t,w,n,u,o,ne,l,f,s,ac,im,d,e,bs⟩ (nD ⟨1,a,t,w,n,u,o,ne,l,f,s,ac,im,d,e,bs⟩ 1)) ⟨f1,n0,n0,n0,n0,hz,trivial⟩) (SA a t w n u o ne l f s ac im d e bs) ha has hfo hse,fun h=>?_⟩
    exact ⟨fun q=>(by rcases q with q | q <;> cases q),fun q=>(by cases q),fun q=>(by rcases q with q | q <;> cases q),fun q=>(by rcases q with q | q | q <;> cases q)⟩
  · refine ⟨_,og ⟨2,a,t,w,n,u,o,ne,l,f,s,ac,im,d,e,bs⟩ (nD ⟨2,a,t,w,n,u,o,ne,l,f,s,ac,im,d,e,bs⟩ 2) 157 158 _ _ rfl rfl (TE _) (sk _ (hff _ _ _) (wq ⟨2,a,t,w,n,u,o,ne,l,f,s,ac,im,d,e,bs⟩ (nD ⟨2,a,t,w,n,u,o,ne,l,f,s,ac,im,d,e,bs⟩ 2)) ⟨f1,n0,f3,f4,n0,hz,trivial⟩) (Su a t w n u o ne l f s ac im d e bs ho hn hos hns) ha has hfo hse,fun h=>?_⟩
    simp only [bK] at h
    exact ⟨fun q=>(by rcases q with q | q <;> cases q),fun q=>(by cases q),fun _=>⟨pS h.2.2.2.2.1,h.2.2.2.2.2.2⟩,fun _=>pS h.2.2.2.2.2.1⟩
  · refine ⟨_,og ⟨3,a,t,w,n,u,o,ne,l,f,s,ac,im,d,e,bs⟩ (nD ⟨3,a,t,w,n,u,o,ne,l,f,s,ac,im,d,e,bs⟩ 3) 161 162 _ _ rfl rfl (TD _) (sk _ (hff _ _ _) (wq ⟨3,a,t,w,n,u,o,ne,l,f,s,ac,im,d,e,bs⟩ (nD ⟨3,a,t,w,n,u,o,ne,l,f,s,ac,im,d,e,bs⟩ 3)) ⟨f1,n0,f3,f4,n0,hz,trivial⟩) (Ss a t w n u o ne l f s ac im d e bs ho hn hos hns) ha has hfo hse,fun h=>?_⟩
    simp only [bK] at h
    exact ⟨fun q=>(by rcases q with q | q <;> cases q),fun q=>(by cases q),fun _=>⟨pS h.2.2.2.2.1,h.2.2.2.2.2.2.1⟩,fun _=>pS h.2.2.2.2.2.1⟩
  · refine ⟨_,og ⟨4,a,t,w,n,u,o,ne,l,f,s,ac,im,d,e,bs⟩ (nD ⟨4,a,t,w,n,u,o,ne,l,f,s,ac,im,d,e,bs⟩ 4) 163 164 _ _ rfl rfl (TC _) (sk _ (hff _ _ _) (wq ⟨4,a,t,w,n,u,o,ne,l,f,s,ac,im,d,e,bs⟩ (nD ⟨4,a,t,w,n,u,o,ne,l,f,s,ac,im,d,e,bs⟩ 4)) ⟨f1,n0,n0,f4,n0,hz,trivial⟩) (Sr a t w n u o ne l f s ac im d e bs hn hns) ha has hfo hse,fun h=>?_⟩
    simp only [bK] at h
    exact ⟨fun q=>(by rcases q with q | q <;> cases q),fun q=>(by cases q),fun q=>(by rcases q with q | q <;> cases q),fun _=>pS h.2.2.2.2⟩
  · refine ⟨_,og ⟨5,a,t,w,n,u,o,ne,l,f,s,ac,im,d,e,bs⟩ (nD ⟨5,a,t,w,n,u,o,ne,l,f,s,ac,im,d,e,bs⟩ 5) 165 166 _ _ rfl rfl (TB _) (sk _ (hff _ _ _) (wq ⟨5,a,t,w,n,u,o,ne,l,f,s,ac,im,d,e,bs⟩ (nD ⟨5,a,t,w,n,u,o,ne,l,f,s,ac,im,d,e,bs⟩ 5)) ⟨f1,n0,n0,n0,n0,hz,trivial⟩) (Sp a t w n u o ne l f s ac im d e bs hl) ha has hfo hse,fun h=>?_⟩
    exact ⟨fun q=>(by rcases q with q | q <;> cases q),fun q=>(by cases q),fun q=>(by rcases q with q | q <;> cases q),fun q=>(by rcases q with q | q | q <;> cases q)⟩
  · refine ⟨_,og ⟨6,a,t,w,n,u,o,ne,l,f,s,ac,im,d,e,bs⟩ (nD ⟨6,a,t,w,n,u,o,ne,l,f,s,ac,im,d,e,bs⟩ 6) 168 169 _ _ rfl rfl (TA _) (sk _ (hff _ _ _) (wq ⟨6,a,t,w,n,u,o,ne,l,f,s,ac,im,d,e,bs⟩ (nD ⟨6,a,t,w,n,u,o,ne,l,f,s,ac,im,d,e,bs⟩ 6)) ⟨f1,f2,n0,n0,n0,hz,trivial⟩) (So a t w n u o ne l f s ac im d e bs ht hts) ha has hfo hse,fun h=>?_⟩
    simp only [bK] at h
    exact ⟨fun _=>h.2.2.2.2.1,fun q=>(by cases q),fun q=>(by rcases q with q | q <;> cases q),fun q=>(by rcases q with q | q | q <;> cases q)⟩
theorem vS {u:TUnit} (h:OkB u) : ∀ x,x∈bc u→x.head.length<2 ^ 30∧x.words.length<2 ^ 30:=fun x hx=>⟨nG (h.w x hx).1 (by omega),nG (h.w x hx).2 (by omega)⟩
theorem C4 (p:PId) (u:TUnit) (hn:nU u≤1024) : -1≤qW p u∧qW p u≤2 ^ 20:=by
  cases h:jk p u with
  | false=>rw [Ot h];omega
  | true=>
    obtain ⟨q,i,h1,_,h3,h4,_⟩:=uL u h
    have:=dG h1
    grind [bw]
theorem xg (w:Int) (u:TUnit) (p:PId) (hn:nU u≤1024) : -1≤(dw w u p).1.at_∧(dw w u p).1.at_≤2 ^ 41:=by
  have hb:=C4 p u hn
  have key : ∀ n:Int,0≤n→n≤1→ -1≤(nw u p n).1.at_∧(nw u p n).1.at_≤2 ^ 41:=fun n h0 h1=>by
    unfold nw
    cases jk p u
    · exact ⟨by show (-1:Int)≤0;omega,by show (0:Int)≤_;omega⟩
    grind
  unfold dw
  cases ab w 0
  · cases ab w 1
    · grind
    · show -1≤Int.ofNat _∧Int.ofNat _≤2 ^ 41
      have:(eH p u).kids.length≤1024:=by
        cases h:cX p u with
        | true=>
          have:=dG (uH h).1
          grind [bw]
        | false=>unfold eH;rw [h];exact bE _
      grind
  simp_all
theorem vV {u:TUnit} (hu:OkB u) (p:PId):kP 48 [eU u,aY p] (.tuple [eU (eH p u), .bool (cX p u)]):=QQ p u (bI hu.n (by omega)) (vS hu)
theorem j4 {u:TUnit} (hu:OkB u) (p:PId):kP 148 [eU u,aY p] (.tuple [aY (tW p u),iV (qW p u), .bool (jk p u)]):=Om p u (bI hu.n (by omega))
theorem vR {u:TUnit} (hu:OkB u) (p:List PStep) (hp:p.length<2 ^ 40∧∀ s,s∈p→s.label.length≤2 ^ 39):kP 47 [eU u, .ls (p.map az)] (.tuple [aY (aA u p).1,iV (aA u p).2]):=
  MW u p (Tj u p (bI hu.n (by omega)) hp.1 hp.2) (bI hu.n (by omega))
theorem J3 {u:TUnit} (hu:OkB u) (p:PId):kP 332 [eU u,aY p] (.tuple [fX (dw 0 u p).1,iV (dw 0 u p).2]):=Pq u _ p _ (vV hu p)
theorem J2 {u:TUnit} (hu:OkB u) (p:PId):kP 335 [eU u,aY p] (.tuple [fX (dw 1 u p).1,iV (dw 1 u p).2]):=PU u _ p _ (vV hu p)
theorem J1 {u:TUnit} (hu:OkB u) (p:PId):kP 337 [eU u,aY p] (.tuple [fX (dw 2 u p).1,iV (dw 2 u p).2]):=PY u p _ _ _ (j4 hu p) (by have:=C4 p u hu.n;omega)
theorem J0 {u:TUnit} (hu:OkB u) (p:PId):kP 339 [eU u,aY p] (.tuple [fX (dw 3 u p).1,iV (dw 3 u p).2]):=PV u p _ _ _ (j4 hu p) (by have:=C4 p u hu.n;omega)
theorem vA {w:Int} (h:iy w=true):w=0∨w=1∨w=2∨w=3:=by
  unfold iy at h
  rw [bK] at h
  have h1:=gL h.1
  have h2:=gL h.2
  omega
/-- Where a unit is inserted. -/
theorem SY {u:TUnit} (hu:OkB u) (p:List PStep) (hp:p.length<2 ^ 40∧∀ s,s∈p→s.label.length≤2 ^ 39) (w:Int) (hw:iy w=true):kP 219 [eU u, .ls (p.map az),iV w]
    (.tuple [aY (Bi (aA u p).2 (dw w u (aA u p).1).1 (dw w u (aA u p).1).2).1.id,iV (Bi (aA u p).2 (dw w u (aA u p).1).1 (dw w u (aA u p).1).2).1.at_,iV (Bi (aA u p).2 (dw w u (aA u p).1).1 (dw w u (aA u p).1).2).2]):=by
  rcases vA hw with rfl | rfl | rfl | rfl
  · exact qC 0 _ rfl rfl u p _ _ _ _ (vR hu p hp) (J3 hu _)
  · exact qC 1 _ rfl rfl u p _ _ _ _ (vR hu p hp) (J2 hu _)
  · exact qC 2 _ rfl rfl u p _ _ _ _ (vR hu p hp) (J1 hu _)
  · exact qC 3 _ rfl rfl u p _ _ _ _ (vR hu p hp) (J0 hu _)
theorem VC {u:TUnit} (hu:OkB u) (p q:PId) (w:Int) (hw:iy w=true) : ∃ bs,kP 221 [eU u,aY p,aY q,iV w]
    (.tuple [fX (nr p q (tW p u) (qW p u) (jk p u) ((pm q u).any (bv p)) bs (dw w u q).1 (dw w u q).2).1,iV (nr p q (tW p u) (qW p u) (jk p u) ((pm q u).any (bv p)) bs (dw w u q).1 (dw w u q).2).2]):=by
  have hb:=C4 p u hu.n
  have hb : -1≤qW p u∧qW p u≤2 ^ 40:=by omega
  have hn:nU u≤2 ^ 20:=bI hu.n (by omega)
  have hal:(pm q u).length<2 ^ 40:=by
    grind [lP, pm]
  have hC:=KM (pm q u) p hal
  rcases vA hw with rfl | rfl | rfl | rfl
  · exact ⟨_,FP 0 _ rfl rfl rfl u p q _ _ _ _ _ _ _ hb (xg 0 u q hu.n) (j4 hu p) (G4 q u hn) hC (J3 hu q)⟩
  · exact ⟨_,FP 1 _ rfl rfl rfl u p q _ _ _ _ _ _ _ hb (xg 1 u q hu.n) (j4 hu p) (G4 q u hn) hC (J2 hu q)⟩
  · exact ⟨_,PH u p q _ _ _ _ _ _ _ hb (xg 2 u q hu.n) (j4 hu p) (G4 q u hn) hC (J1 hu q)⟩
  · exact ⟨_,PG u p q _ _ _ _ _ _ _ hb (xg 3 u q hu.n) (j4 hu p) (G4 q u hn) hC (J0 hu q)⟩
theorem F8 {B:Nat} : ∀ {l:List TUnit},(∀ x,x∈l→(m9 x).length≤B)→(l.flatMap m9).length≤B * l.length
  | [],_=>bE _
  | x::r,h=>by
    have h1:=h x fG
    have h2:=F8 (l:=r) fun y hy=>h y (fy _ hy)
    rw [EY,lA,lC,Nat.mul_succ];omega
theorem N0 {u:TUnit} (h:ma u):(mT u).length≤2 ^ 29:=by
  rw [RU]
  have h1 : ∀ x,x∈bc u→(m9 x).length≤600:=fun x hx=>by
    obtain ⟨a,b,_⟩:=h.2 x hx
    grind [m9]
  have h2:=F8 h1
  have h3:(bc u).length=nU u:=by grind [lD, dY]
  rw [h3] at h2
  have:=h.1
  omega
theorem XW {e:Int} {sp:PSpot} {e2:Int} (h:(Bi e sp e2).2=0):e=0∧e2=0∧(Bi e sp e2).1=sp:=by
  unfold Bi at h ⊢
  cases h1:ab e 0 with
  | false=>rw [h1] at h;rw [show e=0 from h] at h1;cases h1
  | true=>
    rw [h1] at h
    cases h2:ab e2 0 with
    | false=>rw [h2] at h;rw [show e2=0 from h] at h2;cases h2
    | true=>exact ⟨iq h1,iq h2,rfl⟩
theorem SP {u u2:TUnit} {te:Int} {full cf:Bool} : (L3 u te full cf u2).1=u∨(full=false∧cf=false∧(L3 u te full cf u2).1=u2):=by
  unfold L3;cases ab te 0 <;> cases full <;> cases cf <;> first | exact .inl rfl | simp_all
/-- An insertion has an outcome. -/
theorem Ue {u:TUnit} (hu:OkB u) (f:TUnit) (d:PDeed) (hd:wN d.it) (hg:zy d.it) (hk:d.it.kind=0) : ∃ r:po,kP 73 [eU u,eU f,aJ d] (eC r)∧OkB r.1:=by
  have hw:=hg.1 (.inl hk)
  have hD:=Qe u d.it _ _ _ (by rw [hk];rfl) (SY hu d.it.at_ hd.2.1 d.it.where_ hw)
  cases he:ab (Bi (aA u d.it.at_).2 (dw d.it.where_ u (aA u d.it.at_).1).1 (dw d.it.where_ u (aA u d.it.at_).1).2).2 0 with
  | false=>exact ⟨(u,_),SS u f d _ _ _ he hD,hu⟩
  | true=>
    have e0:=iq he
    obtain ⟨e1,e2,e3⟩:=XW e0
    obtain ⟨n,n1,n2,n3⟩:=Ff hu (qc e1) e2
    rw [e0,e3,n1] at hD
    have ht:=hd.2.2.2.2.2.2.2.2
    have hS:=N6 d.act d.item d.it.unit (bI ht.1 (by omega)) (N0 ht) (fun x hx=>⟨bI (ht.2 x hx).1 (by omega),bI (ht.2 x hx).2.1 (by omega)⟩)
    have hsn:=N7 d.act d.item d.it.unit 0 0
    have hsi:=uo d.act d.item d.it.unit 0 0
    have hsw:=Jk d.act d.item 300 d.it.unit 0 0 (fun x hx=>⟨(ht.2 x hx).1,(ht.2 x hx).2.1⟩)
    generalize cO d.act d.item d.it.unit 0 0=X at *
    have hn:=hu.n
    have hm:=ht.1
    have hX:nU X≤2 ^ 19:=by omega
    have hkp:(eH (dw d.it.where_ u (aA u d.it.at_).1).1.id u).kids.length<2 ^ 40:=by
      cases h:cX (dw d.it.where_ u (aA u d.it.at_).1).1.id u with
      | true=>have:=dG (uH h).1;grind [bw]
      | false=>unfold eH;rw [h];exact nG (bE 0) (by omega)
    have hiu:(dY u).length<2 ^ 40:=by grind [lD]
    have hix:(dY X).length<2 ^ 40:=by grind [lD]
    refine ⟨_,SM u f _ X _ d _ n (nU u) (nU X) _ _ _ _ (dY u) (dY X) (by omega) (by omega) hD (vV hu _) hS (yZ _ X hkp) (KD u X _ (by omega) (by omega)) (Dr u (by omega)) (Dr X (by omega)) (Pu u (by omega)) (Pu X (by omega)) (ZX (dY X) (dY u) hiu hix) (NB _ n X u (by omega) (vS hu) n3),?_⟩
    rcases SP (u:=u) (u2:=dW (dw d.it.where_ u (aA u d.it.at_).1).1.id (dN n X) u) (te:=CC (eH (dw d.it.where_ u (aA u d.it.at_).1).1.id u) X) (full:=ax (ar (Int.ofNat (eH (dw d.it.where_ u (aA u d.it.at_).1).1.id u).kids.length) 64) || (Qn u (dw d.it.where_ u (aA u d.it.at_).1).1.id X || ar 1024 (Int.ofNat (nU u+nU X)))) (cf:=(dY X).any fun i=>(dY u).any (bv i)) with q | ⟨q1,q2,q3⟩
    · simp_all
    · rw [q3]
      rw [A7,A7] at q1
      have q4:=aF q1.2.2
      simp only [oN] at q4
      refine hu.ins (by grind [N9]) (fun p hp hq=>?_) (by omega) hsw
      grind [kB]
/-- A unit is taken away. -/
theorem Uj {u:TUnit} (hu:OkB u) {p:PId} (hp:jk p u=true) : ∃ q i,q∈bc u∧tW p u=bY q∧qW p u=Int.ofNat i∧i<q.kids.length∧bY (gD q.kids i)=p∧kP 141 [eU u,aY p] (eU (dW (bY q) (iX i) u)):=by
  obtain ⟨q,i,h1,h2,h3,h4,h5⟩:=uL u hp
  have hP:=j4 hu p
  rw [h2,h3,hp] at hP
  exact ⟨q,i,h1,h2,h3,h4,h5,xN u _ p _ i hP (ND (bY q) i u (bI hu.n (by omega)) (vS hu) fun v hv hid=>by rw [hu.uni hv h1 ((gz _ v).1 hid)];omega)⟩
theorem W7 {u x:TUnit} (hu:OkB u) (d:PDeed) (hp:jk (bY x) u=true) : ∃ r:po,kP 74 [eU u,eU x,aJ d] (eC r)∧OkB r.1:=by
  obtain ⟨q,i,h1,h2,h3,h4,h5,h6⟩:=Uj hu hp
  exact ⟨_,R6 u x _ d h6,(hu.del h1 h4).1⟩
theorem C1 (l:List PWord):(uG l).length≤256:=by
  unfold uG
  cases h:ar 256 (Int.ofNat l.length) with
  | true=>simp_all
  | false=>have:=aF h;grind
theorem Oj (a b:Int) (w:List PWord) (old new:List aO) (n:Int):(E1 a b w old new n).1.length≤256:=by
  unfold E1
  cases ab (Int.ofNat old.length) 0
  · cases ab (Int.ofNat (nl (tY (bM w) old) n).length) 0
    · exact C1 _
    simp_all
  simp_all
theorem SN (a b:Int) (w:List PWord) (part new:List aO) (n:Int):(Dj a b w part new n).1.length≤256:=by
  unfold Dj
  cases (ab (Int.ofNat new.length) 0 || (ab (Int.ofNat part.length) 0 && ax (ab n 0)))
  · cases ab (Int.ofNat part.length) 0
    · cases ab (Int.ofNat (nl (tY (bM w) part) n).length) 0
      · exact C1 _
      simp_all
    · exact C1 _
  simp_all
theorem sS {l:List aO} (h:qQ l=true):l.length≤256:=by
  unfold qQ at h
  rw [bK] at h
  have:=gL h.1
  grind
theorem JG {n:Int} (h:AD n=true):0≤n∧n≤256:=by
  simp_all [AD, gL]
theorem Bt {u:TUnit} (hu:OkB u) (q:PId) {l:List PWord} (hl:l.length≤300):OkB (dW q (lO l) u):=hu.keep (fun _=>⟨rfl,rfl⟩) fun v hv=>⟨(hu.w v hv).1,hl⟩
theorem OT {u:TUnit} (hu:OkB u) (q:PId) {l:List PWord} (hl:l.length≤300):OkB (dW q (zj l) u):=hu.keep (fun _=>⟨rfl,rfl⟩) fun v hv=>⟨hl,(hu.w v hv).2⟩
theorem LD {u:TUnit} (hu:OkB u) (q:PId) (s:aO):OkB (dW q (qN s) u):=hu.keep (fun _=>⟨rfl,rfl⟩) fun v hv=>hu.w v hv
theorem I7 {u u2:TUnit} {e:Int} (h:OkB u) (h2:OkB u2):OkB (Ec u e u2).1:=by
  grind [Ec]
theorem Wo {u x:TUnit} (hu:OkB u) (hx:x∈bc u) (d:PDeed) (hg:zy d.it) (hk:d.it.kind=2) : ∃ r:po,kP 75 [eU u,eU x,aJ d] (eC r)∧OkB r.1:=by
  obtain ⟨h1,h2⟩:=hg.2.2.1 (.inl hk)
  have h3:=sS h1
  have h4:=sS (hg.2.2.2 (.inl hk))
  obtain ⟨h5,h6⟩:=JG h2
  have h7:=(hu.w x hx).2
  have hR:=R5 d.act d.item x.words d.it.old d.it.new d.it.nth_ (by omega) (by omega) (by omega) h5 (by omega) (lL h5)
  exact ⟨_,Rg u x _ d _ _ hR (Nr (bY x) _ u (bI hu.n (by omega)) (vS hu)),I7 hu (Bt hu _ (bI (Oj ..) (by omega)))⟩
theorem XZ {u x:TUnit} (hu:OkB u) (hx:x∈bc u) (d:PDeed) (hg:zy d.it) (hk:d.it.kind=3) : ∃ r:po,kP 76 [eU u,eU x,aJ d] (eC r)∧OkB r.1:=by
  obtain ⟨h1,h2⟩:=hg.2.2.1 (.inr hk)
  have h3:=sS h1
  have h4:=sS (hg.2.2.2 (.inr (.inl hk)))
  obtain ⟨h5,h6⟩:=JG h2
  have h7:=(hu.w x hx).2
  have hR:=Xf d.act d.item x.words d.it.old d.it.new d.it.nth_ (by omega) (by omega) (by omega) h5 (by omega)
  exact ⟨_,SZ u x _ d _ _ hR (Nt (bY x) _ u (bI hu.n (by omega)) (vS hu)),I7 hu (Bt hu _ (bI (SN ..) (by omega)))⟩
theorem Xm {u x:TUnit} (hu:OkB u) (d:PDeed) (hg:zy d.it) (hk:d.it.kind=4) : ∃ r:po,kP 77 [eU u,eU x,aJ d] (eC r)∧OkB r.1:=by
  have h4:=sS (hg.2.2.2 (.inr (.inr hk)))
  have hM:=xe d.it.new d.act d.item 0 (by omega) (by omega)
  exact ⟨_,TQ u x _ d _ hM (NC (bY x) _ u (bI hu.n (by omega)) (vS hu)),OT hu _ (by grind [fE])⟩
theorem Ub {u:TUnit} (hu:OkB u) (p:PId):(eH p u).kids.length<2 ^ 40:=by
  have hn:=hu.n
  cases h:cX p u with
  | true=>have:=dG (uH h).1;grind [bw]
  | false=>unfold eH;rw [h];exact nG (bE 0) (by omega)
theorem W9 {u x:TUnit} (hu:OkB u) (d:PDeed) : ∃ r:po,kP 78 [eU u,eU x,aJ d] (eC r)∧OkB r.1:=by
  refine ⟨_,R8 u x _ _ d _ _ _ _ _ (j4 hu (bY x)) (vV hu _) (yZ _ _ (Ub hu _)) (Ns (bY x) d u (bI hu.n (by omega)) (vS hu)),?_⟩
  grind [R9, LD]
theorem Sf {u u2:TUnit} {te:Int} {full:Bool} (h:OkB u) (h2:OkB u2):OkB (O9 u te full u2).1:=by
  grind [O9]
theorem Xt {e2 e3:Int} {sp:PSpot} (h:(Gn 0 e2 sp e3).2=0):e2=0∧e3=0∧(Gn 0 e2 sp e3).1=sp:=by
  unfold Gn at h ⊢
  rw [show ab 0 0=true from rfl] at h ⊢
  simp only [cond_true] at h ⊢
  cases h1:ab e2 0 with
  | false=>rw [h1] at h;rw [show e2=0 from h] at h1;cases h1
  | true=>
    rw [h1] at h
    cases h2:ab e3 0 with
    | false=>rw [h2] at h;rw [show e3=0 from h] at h2;cases h2
    | true=>exact ⟨iq h1,iq h2,rfl⟩
/-- A move has an outcome. -/
theorem Xv {u x:TUnit} (hu:OkB u) (hx:x∈bc u) (d:PDeed) (hd:wN d.it) (hg:zy d.it) (hk:d.it.kind=6) (h0:(aA u d.it.at_).2=0) (hid:(aA u d.it.at_).1=bY x) (hp:jk (bY x) u=true) : ∃ r:po,kP 79 [eU u,eU x,aJ d] (eC r)∧OkB r.1:=by
  have hw:=hg.1 (.inr hk)
  have hF:=vR hu d.it.at_ hd.2.1
  rw [h0,hid] at hF
  obtain ⟨bs,hG⟩:=VC hu (bY x) (aA u d.it.to).1 d.it.where_ hw
  obtain ⟨q,i,h1,h2,h3,h4,h5,h6⟩:=Uj hu hp
  have hD:=Qd u d.it _ _ _ _ _ _ (by rw [hk];rfl) (by rw [hk];rfl) hw hF (vR hu d.it.to hd.2.2.1) hG
  rw [h2,h3,hp] at hD
  cases he:ab (Gn 0 (aA u d.it.to).2 (nr (bY x) (aA u d.it.to).1 (bY q) (Int.ofNat i) true ((pm (aA u d.it.to).1 u).any (bv (bY x))) bs (dw d.it.where_ u (aA u d.it.to).1).1 (dw d.it.where_ u (aA u d.it.to).1).2).1 (nr (bY x) (aA u d.it.to).1 (bY q) (Int.ofNat i) true ((pm (aA u d.it.to).1 u).any (bv (bY x))) bs (dw d.it.where_ u (aA u d.it.to).1).1 (dw d.it.where_ u (aA u d.it.to).1).2).2).2 0 with
  | false=>exact ⟨(u,_),Sg u x d _ _ _ he hD,hu⟩
  | true=>
    have e0:=iq he
    obtain ⟨e1,e2,e3⟩:=Xt e0
    obtain ⟨n,n1,n2,n3⟩:=PF hu h1 h4 (qc e1) e2
    rw [e0,e3,n1] at hD
    obtain ⟨hr,hpm⟩:=hu.del h1 h4
    have hkx:gD q.kids i=x:=hu.uni (iL h1 (bf (iQ h4) (dK _))) hx h5
    rw [hkx] at hpm
    have hnr:=hr.n
    have hnx:=dG hx
    have hn:=hu.n
    refine ⟨_,Se u x _ _ _ d _ _ n _ _ _ _ _ hD (j4 hu (bY x)) h6 (vV hr _) (yZ _ x (Ub hr _)) (KD _ x _ (by omega) (by omega)) (Nu _ n x _ (by omega) (vS hr) n3),Sf hu ?_⟩
    have hnd:=List.nodup_append.1 (hpm.nodup_iff.1 hu.nd)
    have hlen:=hpm.length_eq
    rw [lA,← lD,← lD,← lD] at hlen
    exact hr.ins hnd.2.1 (fun p hp hq=>hnd.2.2 p hq p hp rfl) (by omega) (fun y hy=>hu.w y (iL hx hy))
/-- An item's doer. -/
theorem Yo {u x:TUnit} (hu:OkB u) (hx:x∈bc u) (d:PDeed) (hd:wN d.it) (hg:zy d.it) (hk0:0≤d.it.kind) (hk6:d.it.kind≤6) (h0:(aA u d.it.at_).2=0) (hid:(aA u d.it.at_).1=bY x) (hp:jk (bY x) u=true) : ∃ r:po,kP (Ul d.it.kind) [eU u,eU x,aJ d] (eC r)∧OkB r.1:=by
  have hk:d.it.kind=0∨d.it.kind=1∨d.it.kind=2∨d.it.kind=3∨d.it.kind=4∨d.it.kind=5∨d.it.kind=6:=by omega
  rcases hk with h | h | h | h | h | h | h <;> rw [h]
  · exact Ue hu x d hd hg h
  · exact W7 hu d hp
  · exact Wo hu hx d hg h
  · exact XZ hu hx d hg h
  · exact Xm hu d hg h
  · exact W9 hu d
  · exact Xv hu hx d hd hg h h0 hid hp
/-- An amendment has one outcome. -/
theorem TS {u:TUnit} (hu:OkB u) (d:PDeed) (hd:wN d.it) (hk0:0≤d.it.kind) (hk6:d.it.kind≤6) : ∃ r:po,kP 26 [eU u,aJ d] (eC r)∧OkB r.1:=by
  obtain ⟨b,hV,hg⟩:=UA d.it hd hk0 hk6
  have hl:=Vw d hk0 hk6
  cases b with
  | false=>grind [TT]
  | true=>
    have hg:=hg rfl
    have hF:=vR hu d.it.at_ hd.2.1
    cases he:ab (aA u d.it.at_).2 0 with
    | false=>exact ⟨_,T1 u d _ _ _ hl hV he hF,hu⟩
    | true=>
      have e0:=iq he
      have hh:=qc e0
      obtain ⟨hx,hxi⟩:=uH hh
      rw [e0] at hF
      have hX:=vV hu (aA u d.it.at_).1
      cases hi:(ab (aA u d.it.at_).1.a u.act && (ab (aA u d.it.at_).1.i u.item && ab (aA u d.it.at_).1.n u.n)) with
      | true=>
        cases hk:ab d.it.kind 0 with
        | true=>
          have hk:=iq hk
          obtain ⟨r,h1,h2⟩:=Ue hu (eH (aA u d.it.at_).1 u) d hd hg hk
          exact ⟨r,Q7 u _ d _ _ _ r hl hV hF hX hi (by omega) (by rw [hk];exact h1),h2⟩
        | false=>exact ⟨_,T0 u _ d _ _ _ _ _ hl hV hF hX hi hk (vR hu d.it.to hd.2.2.1),hu⟩
      | false=>
        have hni:fT (aA u d.it.at_).1 u=false:=by
          cases q:fT (aA u d.it.at_).1 u with
          | false=>rfl
          | true=>
            have:=(gz _ u).1 q
            rw [← this] at hi
            have e:(ab (bY u).a u.act && (ab (bY u).i u.item && ab (bY u).n u.n))=true:=by
              show (ab u.act u.act && (ab u.item u.item && ab u.n u.n))=true
              rw [aP,aP,aP];rfl
            simp_all
        grind [Yo, TX, T2]
theorem RK {k:Int} (h:pn k=true):0≤k∧k≤6:=by
  simp_all [pn, gL]
/-- What an amendment makes of a book: the one outcome there is. -/
structure AppOk (u:TUnit) (d:PDeed):Prop where
  b:OkB u
  i:wN d.it
  a:pn d.it.kind=true
theorem Q5 {u:TUnit} {d:PDeed} (h:AppOk u d) : ∃ r:po,kP 26 [eU u,aJ d] (eC r)∧OkB r.1:=TS h.b d h.i (RK h.a).1 (RK h.a).2
open Classical in
noncomputable def iw (u:TUnit) (d:PDeed):po:=if h:AppOk u d then (Q5 h).choose else (u,0)
theorem rV {u:TUnit} {d:PDeed} (h:AppOk u d):kP 26 [eU u,aJ d] (.tuple [eU (iw u d).1,iV (iw u d).2])∧OkB (iw u d).1:=by
  unfold iw;rw [dif_pos h];exact (Q5 h).choose_spec
theorem Q4 (u:TUnit) (d:PDeed) (h1:OkB u) (h2:wN d.it) (h3:pn d.it.kind=true):kP 26 [eU u,aJ d] (.tuple [eU (iw u d).1,iV (iw u d).2]):=(rV ⟨h1,h2,h3⟩).1
noncomputable def nO (u:TUnit) (d:PDeed):TUnit:=bif pn d.it.kind then (iw u d).1 else u
noncomputable def v8 (u:TUnit) (d:PDeed):List PFail:=bif pn d.it.kind then (bif ab (iw u d).2 0 then [] else [⟨d.act,d.item,(iw u d).2⟩]) else []
theorem N5 {u:TUnit} {d:PDeed} (h1:OkB u) (h2:wN d.it):OkB (nO u d):=by
  unfold nO
  cases h:pn d.it.kind with
  | false=>grind
  | true=>exact (rV ⟨h1,h2,h⟩).2
noncomputable def bG:TUnit→List PDeed→TUnit
  | u, []=>u
  | u,d::r=>bG (nO u d) r
noncomputable def dP:TUnit→List PDeed→List PFail
  | _, []=> []
  | u,d::r=>v8 u d++dP (nO u d) r
theorem GR : ∀ {l:List PDeed} {u:TUnit},OkB u→(∀ d,d∈l→wN d.it)→OkB (bG u l)
  | [],_,h,_=>h
  | d::r,u,h,hl=>GR (l:=r) (u:=nO u d) (N5 h (hl d (fG ..))) fun x hx=>hl x (fy _ hx)
theorem vY : ∀ (l:List PDeed) (u:TUnit),(dP u l).length≤l.length
  | [],_=>af _
  | d::r,u=>by
    have:=vY r (nO u d)
    grind [v8, dP]
theorem WS {u:TUnit} {d:PDeed} {r:List PDeed} (h:pn d.it.kind=false):bG u (d::r)=bG u r∧dP u (d::r)=dP u r:=by
  rw [bG,dP,nO,v8,h];simp_all
theorem RF {u:TUnit} {d:PDeed} {r:List PDeed} (h:pn d.it.kind=true) (h2:ab (iw u d).2 0=true):bG u (d::r)=bG (iw u d).1 r∧dP u (d::r)=dP (iw u d).1 r:=by
  rw [bG,dP,nO,v8,h,h2];simp_all
theorem RE {u:TUnit} {d:PDeed} {r:List PDeed} (h:pn d.it.kind=true) (h2:ab (iw u d).2 0=false):bG u (d::r)=bG (iw u d).1 r∧dP u (d::r)=⟨d.act,d.item,(iw u d).2⟩::dP (iw u d).1 r:=by
  rw [bG,dP,nO,v8,h,h2];simp_all
mutual
theorem Jb : ∀ (u:TUnit) (deep most:Int),mc u deep most≤most→Int.ofNat (nU u)≤mc u deep most
  | ⟨_,_,_,_,_,_,_,kids⟩,deep,most,h=>by
    rw [mc] at h ⊢
    cases hd:ar 20 deep with
    | true=>grind
    | false=>
      rw [hd] at h
      have:=Jc kids deep most 1 h
      grind [nU]
theorem Jc : ∀ (l:List TUnit) (deep most n:Int),md l deep most n≤most→n+Int.ofNat (eQ l)≤md l deep most n
  | [],_,_,n,_=>by simp_all [md, eQ]
  | k::r,deep,most,n,h=>by
    rw [md] at h ⊢
    cases hd:ar most n with
    | true=>rw [hd] at h;have:=ap hd;grind
    | false=>
      rw [hd] at h
      have h2:=Jc r deep most _ h
      have h1:=Jb k (deep+1) (most - n) (by grind)
      grind [eQ]
end
theorem EH {l:List PWord} (h:me l=true):l.length≤300∧∀ w,w∈l→w.text.length≤100:=by
  unfold me at h
  obtain ⟨h1,h2⟩:=nF.1 h
  refine ⟨by have:=gL h2;grind,fun w hw=>?_⟩
  have:=gL (nH.1 h1 w hw)
  grind
theorem Hx : ∀ (u:TUnit),kg u=true→∀ x,x∈bc u→rb x:=by
  refine TUnit.ind fun u ih h x hx=>?_
  rw [BJ] at h
  simp only [bK] at h
  obtain ⟨⟨⟨h0,h1⟩,h2⟩,h3⟩:=h
  rw [dz] at hx
  rcases fz.1 hx with rfl | hx
  · have h0:=gL h0
    simp only [oN] at h0
    have q1:=EH h1
    have q2:=EH h2
    exact ⟨q1.1,q2.1,by omega,fun w hw=>bI (q1.2 w hw) (by omega),fun w hw=>bI (q2.2 w hw) (by omega)⟩
  grind [mV]
theorem VR {u:TUnit} {n:Nat} (h:GU u (.ofNat n)=true):nU u≤n∧∀ x,x∈bc u→rb x:=by
  unfold GU at h
  obtain ⟨h1,h2⟩:=nF.1 h
  refine ⟨?_,Hx u h2⟩
  have h3:=gL h1
  have:=Jb u 0 (.ofNat n) h3
  grind
theorem OS {x:PItem} (hf:m5 x) (h:mF x=true):wN x:=by
  rw [De] at h
  unfold xl at h
  simp only [bK] at h
  obtain ⟨⟨⟨⟨⟨⟨⟨⟨⟨⟨a1,a2⟩,a3⟩,a4⟩,a5⟩,a6⟩,a7⟩,a8⟩,a9⟩,a10⟩,b1,b2,b3,b4,b5⟩:=h
  have a1:=gL a1
  have a2:=gL a2
  have a3:=gL a3
  have a4:=gL a4
  have a5:=gL a5
  have a6:=gL a6
  have a7:=gL a7
  simp only [oN] at a1 a2 a3 a4 a5 a6 a7
  have hs : ∀ {l:List aO},l.all wI=true→∀ s,s∈l→s.length≤2 ^ 39:=fun h s hs=>by
    have:=gL (nH.1 h s hs);grind
  have ht : ∀ {l:List PStep},l.all wH=true→∀ s,s∈l→s.label.length≤2 ^ 39:=fun h s hs=>by
    have:=gL (nH.1 h s hs);grind
  have hu:=VR (n:=30) a10
  exact ⟨hf,⟨by omega,ht b3⟩,⟨by omega,ht b4⟩,⟨by omega,hs b1⟩,⟨by omega,hs b2⟩,by omega,by omega,by omega,bI hu.1 (by omega),hu.2⟩
theorem Sw : ∀ (u:TUnit),nU u≤1024→(∀ x,x∈bc u→x.head.length≤300∧x.words.length≤300)→o6 u:=by
  refine TUnit.ind fun u ih hn hw=>?_
  have:=bw u
  obtain ⟨h1,h2⟩:=hw u (dK u)
  exact lV.2 ⟨by omega,by omega,by omega,fun k hk=>ih k hk (by have:=hJ hk;omega) fun x hx=>hw x (bf hk hx)⟩
theorem FW {u:TUnit} (h:OkB u):o6 u:=Sw u h.n h.w
theorem Iy {u v:TUnit} {l r:List PDeed} {xs:List PFail} (h:dP u l=xs++dP v r):xs.length≤l.length:=by
  grind [vY]
theorem RZ (u:TUnit) (l:List PDeed) (hu:OkB u) (hl:l.length<2 ^ 30) (ho : ∀ d,d∈l→wN d.it):kP 55 [eU u, .ls (l.map aJ)] (.tuple [eU (bG u l), .ls ((dP u l).map dx)]):=by
  have rr0 b' (h:((bG u l).act)=b':=by first | (rw [hj0.2.1];rfl) | (rw [hj0.2.2];rfl) | (rw [hj0.2.2.1];rfl) | (rw [hj0.2.2.2];simp only [dP,ed]) | exact aX fP _):=h;have rr1 b' (h:((bG u l).item)=b':=by first | (rw [hj0.2.1];rfl) | (rw [hj0.2.2];rfl) | (rw [hj0.2.2.1];rfl) | (rw [hj0.2.2.2];simp only [dP,ed]) | exact aX fP _):=h;have rr2 b' (h:((bG u l).n)=b':=by first | (rw [hj0.2.1];rfl) | (rw [hj0.2.2];rfl) | (rw [hj0.2.2.1];rfl) | (rw [hj0.2.2.2];simp only [dP,ed]) | exact aX fP _):=h;have rr3 b' (h:((bG u l).kind)=b':=by first | (rw [hj0.2.1];rfl) | (rw [hj0.2.2];rfl) | (rw [hj0.2.2.1];rfl) | (rw [hj0.2.2.2];simp only [dP,ed]) | exact aX fP _):=h;have rr4 b' (h:((bG u l).label)=b':=by first | (rw [hj0.2.1];rfl) | (rw [hj0.2.2];rfl) | (rw [hj0.2.2.1];rfl) | (rw [hj0.2.2.2];simp only [dP,ed]) | exact aX fP _):=h;have rr5 b' (h:(List.map aQ (bG u l).head)=b':=by first | (rw [hj0.2.1];rfl) | (rw [hj0.2.2];rfl) | (rw [hj0.2.2.1];rfl) | (rw [hj0.2.2.2];simp only [dP,ed]) | exact aX fP _):=h;have rr6 b' (h:(List.map aQ (bG u l).words)=b':=by first | (rw [hj0.2.1];rfl) | (rw [hj0.2.2];rfl) | (rw [hj0.2.2.1];rfl) | (rw [hj0.2.2.2];simp only [dP,ed]) | exact aX fP _):=h;have rr7 b' (h:(List.map aV (bG u l).kids)=b':=by first | (rw [hj0.2.1];rfl) | (rw [hj0.2.2];rfl) | (rw [hj0.2.2.1];rfl) | (rw [hj0.2.2.2];simp only [dP,ed]) | exact aX fP _):=h;have rr8 b' (h:((dP u l).map dx)=b':=by first | (rw [hj0.2.1];rfl) | (rw [hj0.2.2];rfl) | (rw [hj0.2.2.1];rfl) | (rw [hj0.2.2.2];simp only [dP,ed]) | exact aX fP _):=h;exact bg Tryz.func55<|Kl 2 5 bo<|Kl 2 12 (ln aJ l)<|Mg 0<|X0 TUnit Nat Nat (List PFail) aJ l u [2,4,6,11,12,13] (fun a _ b=>([bJ 0 0 0 0,bJ 1 0 0 0,ak,aW<|l.map aJ,nV l.length,nV a],[aZ 8 false 0 [aw [iV b.act,iV b.item,iV b.n,iV b.kind,aj b.label,aW<|b.head.map aQ,aW<|b.words.map aQ,aW<|b.kids.map aV]],aZ 8 false 0 [aw [iV 0,iV 0,iV 0,iV 0,aj [],ak,ak,ak]]])) (fun a _ b c e f=>([bJ 0 0 0 0,bJ 1 0 0 0,aG 2 c 0 e none,aW<|l.map aJ,nV l.length,nV a],[aZ 8 false 0 [aw [iV b.act,iV b.item,iV b.n,iV b.kind,aj b.label,aW<|b.head.map aQ,aW<|b.words.map aQ,aW<|b.kids.map aV]],aZ 8 false 0 [aw [iV 0,iV 0,iV 0,iV 0,aj [],ak,ak,ak]],aZ 3 true c<|f.map dx])) (fun a b=>OkB b∧bG u l=bG b a∧dP u l=dP b a) (fun a b _ c e=>OkB b∧c=e.length∧bG u l=bG b a∧dP u l=e++dP b a) sA (fun _ _ a _ _ _ b hj0=>Kh 0 b<|Kl 3 5 bo<|Mf<|cn<|.cons (aL (.cons (li<|rr0 a.act)<|.cons (li<|rr1 a.item)<|.cons (li<|rr2 a.n)<|.cons (li<|rr3 a.kind)<|.cons (Le.str<|rr4 a.label)<|.cons (cj<|rr5<|a.head.map aQ)<|.cons (cj<|rr6<|a.words.map aQ)<|.cons (cj<|rr7<|a.kids.map aV) .nil)<|by kernel_rfl)<|.cons (cj<|rr8 []) .nil) (fun a _ b c _ e f g i j k _ n hj0=>have c:=ho _<|aM c j;Kt 0 k<|Mx n<|Kp 5 (IL e.it.kind)<|Kn 0 (pn e.it.kind) (fun _=>Kl 0 40 (dB a)<|K1 0 (.frz 2 [2,4,6,11,12,13]) (cH rt rt ti)<|Mf<|g b<|by grind [WS]) fun j=>Kp 1 (Q4 b e sA c j)<|Kc 7 (iw b e).2 0 (fun _ _=>Kl 12 40 (dB a)<|Mg 0<|M0 (.ren [0,1,4,2,3] [] [2,4,6,11,12,13])<|M1 (.frz 3 [2,4,6,11,12,13]) (kq rt rt rt ti)<|Mf<|i (iw b e).1 0 1 [PFail.mk e.act e.item (iw b e).2]<|by exact ⟨(rV ⟨hj0.1,c,by omega⟩).2,rfl,hj0.2.1.trans (RE (by omega) (by omega)).1,hj0.2.2.trans (RE (by omega) (by omega)).2⟩) fun _ _=>Kl 2 40 (dB a)<|K1 0 (.frz 2 [2,4,6,11,12,13]) (cH rt rt ti)<|Mf<|g (iw b e).1<|by exact ⟨(rV ⟨hj0.1,c,by omega⟩).2,hj0.2.1.trans (RF (by omega) (by omega)).1,hj0.2.2.trans (RF (by omega) (by omega)).2⟩) (fun _ _ a b c e _ _ _ f hj0=>Kh 0 f<|Mg 3<|M2 (.fsl 2 [4] 5<|e.map dx) (cH rt rt ti) (cH (aU b) (tA dx e c (oA:(e).length=c))<|aX fP e)<|Ml 5 (fg (e.map dx) false<|aX fP e)<|Mf<|cn<|.cons (aL (.cons (li<|rr0 a.act)<|.cons (li<|rr1 a.item)<|.cons (li<|rr2 a.n)<|.cons (li<|rr3 a.kind)<|.cons (Le.str<|rr4 a.label)<|.cons (cj<|rr5<|a.head.map aQ)<|.cons (cj<|rr6<|a.words.map aQ)<|.cons (cj<|rr7<|a.kids.map aV) .nil)<|by kernel_rfl)<|.cons (cj<|rr8<|e.map dx) .nil) fun a _ b c e f g _ i j _ k n o _ p hj0=>have g:=ho _<|aM g n;Kt 0 o<|Mx p<|Kp 5 (IL i.it.kind)<|Kn 0 (pn i.it.kind) (fun _=>Kl 0 40 (dB a)<|K1 0 (.frz 3 [2,4,6,11,12,13]) (kq (tR 3 true c 3<|aX fP f) rt rt ti)<|Mf<|k b c e f<|by grind [WS]) fun n=>Kp 1 (Q4 b i sA g n)<|Kc 7 (iw b i).2 0 (fun _ _=>K1 7 .app (cH (aU c) (sA:e=(f.map dx).length) (by (have z:=Iy hj0.2.2.2;have z2:=hj0.2.1;refine aE (m:=2 ^ 31) ?_ ?_ ?_ <;> omega):small (e+1) 24=true))<|M1 (.obj 2<|aZ 3 true (c+1)<|(f++ [PFail.mk i.act i.item (iw b i).2]).map dx) (congrArg (aZ 3 true<|c+1)<|dr (f:=dx) (l:=f) (ws:=[PFail.mk i.act i.item (iw b i).2]))<|Kl 3 40 (dB a)<|K1 0 (.frz 3 [2,4,6,11,12,13]) (kq (tR 3 true (c+1) 3<|aX fP<|f++ [PFail.mk i.act i.item (iw b i).2]) rt rt ti)<|Mf<|k (iw b i).1 (c+1) (e+1) (f++ [PFail.mk i.act i.item (iw b i).2])<|by exact ⟨(rV ⟨hj0.1,g,by omega⟩).2,by simp_all,hj0.2.2.1.trans (RE (by omega) (by omega)).1,hj0.2.2.2.trans (by grind [RE])⟩) fun _ _=>Kl 2 40 (dB a)<|K1 0 (.frz 3 [2,4,6,11,12,13]) (kq (tR 3 true c 3<|aX fP f) rt rt ti)<|Mf<|k (iw b i).1 c e f<|by exact ⟨(rV ⟨hj0.1,g,by omega⟩).2,hj0.2.1,hj0.2.2.1.trans (RF (by omega) (by omega)).1,hj0.2.2.2.trans (by grind [RF])⟩
end Go.Proofs.YtempcdhknnjebaaGreatDoor
