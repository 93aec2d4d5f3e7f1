/- Functions walked: what each of them answers, for On every day that a gazette changed, an item that the gazette contains or refers to is in force before or after it, or the gazette declares an event: part 5. Conditions: those that each theorem names. -/
import Derived.Test.YtaepacpodblomaaGreatDoorH4
namespace Go.Proofs.YtaepacpodblomaaGreatDoor
open Go Go.Ev
noncomputable abbrev Ch(l:List PWord):AObj:=.row 4 true 0 (l.map aQ)
noncomputable def FA:TypeInfo:=(Tryz.prog.info? 102).getD default
theorem Fu:Tryz.prog.info? 102=some FA:=by kernel_rfl
theorem zZ:FA.size=4:=by kernel_rfl
theorem wL:FA.bytes=40:=by kernel_rfl
theorem Wl(l:List PWord):dg 4 (l.map aQ)=true:=fD (fun w=>by cases w;rfl) l
/-- A copy of words: a row of its own. -/
theorem cl4(ws:List PWord)(hl:ws.length≤2^20)(a b c d:AObj):kD 110 [.ls (ws.map aQ)] (ab [a,b,c,d]) (.sl0 4 0 ws.length none) (ab [a,b,c,d,Ch ws]):=by
  by_cases hne:ws=[]
  · subst hne
    have hE:(ab [a,b,c,d]).push (Ch [])=ab [a,b,c,d,Ch []]:=by kernel_rfl
    have h:=aL.psh (o:=Ch []) (u:=.sl0 4 0 0 none) (r8 [] (by omega) (ab [a,b,c,d])) FV
    simp_all
  have hn:ws.map aQ≠[]:=fun h=>hne (List.map_eq_nil_iff.1 h)
  have hf:=Wl ws
  have hsm:small (ws.map aQ).length 40=true:=by grind[aO]
  have hlen:ws.length=(ws.map aQ).length:=(cZ ..).symm
  unfold Ch
  rw[hlen]
  generalize ws.map aQ=L at hn hf hsm
  refine(aL.less (Ψ:=fun v h=>v=.slice 4 0 0 L.length none∧h=ab [a,b,c,d,.row 4 true 0 L]) ?_ fun v h ⟨h1,h2⟩=>⟨_,h1▸Le.sl0,rfl,h2⟩)
  refine aL.enter 2 (fn:=Tryz.f110) Tryz.func110 (by kernel_rfl) rfl ⟨by kernel_rfl,by kernel_rfl⟩ ?_
  refine aD.seq (aD.mono (Eo oq fz (ev 40) (s':=⟨eX 8 [(0,.ls L),(2,.nils)],ab [a,b,c,d]⟩) (.go 0 .fin) (by kernel_rfl)) ?_)
  rintro _ _ ⟨rfl,rfl⟩
  refine aD.seq (aD.seq (aD.mono (yh fz (ev 40) (Ψ:=fun s=>s=⟨eX 8 [(0,.ls L),(2,.nils),(3,.ps L false),(4,.bool false)],ab [a,b,c,d]⟩) (.go 0 (.nz 3 .abs (.go 0 .fin)))
    (W:=(L=[]→False)∧(⟨eX 8 [(0,.ls L),(2,.nils),(3,.ps L false),(4,.bool false)],ab [a,b,c,d]⟩:St)=⟨eX 8 [(0,.ls L),(2,.nils),(3,.ps L false),(4,.bool false)],ab [a,b,c,d]⟩) ⟨hn,rfl⟩ (by kernel_rfl)) ?_))
  rintro _ _ ⟨rfl,rfl⟩
  refine aD.cond (t:=false) (by kernel_rfl) (fun h=>by grind) fun _=>aD.skip ?_
  refine aD.seq (aD.region ?_)
  show ce _ _ _ _ [_,_,_,_] _ _
  refine ce.one (s':=⟨eX 8 [(0,.ls L),(2,.nils),(3,.ps L false),(4,.bool false),(5,.ps [] true)],ab [a,b,c,d]⟩) (ev 40) (by kernel_rfl) ?_
  refine ce.one (s':=⟨eX 8 [(0,.ls L),(2,.nils),(3,.ps L false),(4,.bool false),(5,.ps [] true),(6,.ls L)],ab [a,b,c,d]⟩) (ev 40) (by kernel_rfl) ?_
  refine sV (I:=fun k:Nat=>k=0) (r:=fun _=>.slice 4 0 0 L.length none) (H:=fun _=>ab [a,b,c,d,.row 4 true 0 L]) (by kernel_rfl)
    (fun pl M a w g1 g2 g3=>xF (z:=aQ ⟨[],0,0,0⟩) (z0:=aQ ⟨[],0,0,0⟩) (xs:=L) (t:=35) (tx:=35) (e:=102) (i:=FA) zZ wL (by kernel_rfl) ⟨102,by kernel_rfl⟩ Fu (by kernel_rfl) (Le.refl _) (by kernel_rfl) (by kernel_rfl) hn hf (by kernel_rfl) hsm (by omega) pl M a w g1 g2 g3) fun k _=>?_
  refine⟨eX 8 [(0,.ls L),(2,.nils),(3,.ps L false),(4,.bool false),(5,.ps [] true),(6,.ls L),(7,.slice 4 0 0 L.length none)],by kernel_rfl,?_⟩
  refine ce.one (s':=⟨eX 8 [(0,.ls L),(2,.slice 4 0 0 L.length none),(3,.ps L false),(4,.bool false),(5,.ps [] true),(6,.ls L),(7,.slice 4 0 0 L.length none)],ab [a,b,c,d,.row 4 true 0 L]⟩) (ev 40) (by kernel_rfl) (ce.nil (aD.ret ⟨fun id h=>(by grind),.slice 4 0 0 L.length none,by kernel_rfl,by kernel_rfl,by kernel_rfl⟩))
theorem cl5(ws:List PWord)(hl:ws.length≤2^20)(a b c d e:AObj):kD 110 [.ls (ws.map aQ)] (ab [a,b,c,d,e]) (.sl0 5 0 ws.length none) (ab [a,b,c,d,e,Ch ws]):=by
  by_cases hne:ws=[]
  · subst hne
    have hE:(ab [a,b,c,d,e]).push (Ch [])=ab [a,b,c,d,e,Ch []]:=by kernel_rfl
    have h:=aL.psh (o:=Ch []) (u:=.sl0 5 0 0 none) (r8 [] (by omega) (ab [a,b,c,d,e])) FV
    simp_all
  have hn:ws.map aQ≠[]:=fun h=>hne (List.map_eq_nil_iff.1 h)
  have hf:=Wl ws
  have hsm:small (ws.map aQ).length 40=true:=by grind[aO]
  have hlen:ws.length=(ws.map aQ).length:=(cZ ..).symm
  unfold Ch
  rw[hlen]
  generalize ws.map aQ=L at hn hf hsm
  refine(aL.less (Ψ:=fun v h=>v=.slice 5 0 0 L.length none∧h=ab [a,b,c,d,e,.row 4 true 0 L]) ?_ fun v h ⟨h1,h2⟩=>⟨_,h1▸Le.sl0,rfl,h2⟩)
  refine aL.enter 2 (fn:=Tryz.f110) Tryz.func110 (by kernel_rfl) rfl ⟨by kernel_rfl,by kernel_rfl⟩ ?_
  refine aD.seq (aD.mono (Eo oq fz (ev 40) (s':=⟨eX 8 [(0,.ls L),(2,.nils)],ab [a,b,c,d,e]⟩) (.go 0 .fin) (by kernel_rfl)) ?_)
  rintro _ _ ⟨rfl,rfl⟩
  refine aD.seq (aD.seq (aD.mono (yh fz (ev 40) (Ψ:=fun s=>s=⟨eX 8 [(0,.ls L),(2,.nils),(3,.ps L false),(4,.bool false)],ab [a,b,c,d,e]⟩) (.go 0 (.nz 3 .abs (.go 0 .fin)))
    (W:=(L=[]→False)∧(⟨eX 8 [(0,.ls L),(2,.nils),(3,.ps L false),(4,.bool false)],ab [a,b,c,d,e]⟩:St)=⟨eX 8 [(0,.ls L),(2,.nils),(3,.ps L false),(4,.bool false)],ab [a,b,c,d,e]⟩) ⟨hn,rfl⟩ (by kernel_rfl)) ?_))
  rintro _ _ ⟨rfl,rfl⟩
  refine aD.cond (t:=false) (by kernel_rfl) (fun h=>by grind) fun _=>aD.skip ?_
  refine aD.seq (aD.region ?_)
  show ce _ _ _ _ [_,_,_,_] _ _
  refine ce.one (s':=⟨eX 8 [(0,.ls L),(2,.nils),(3,.ps L false),(4,.bool false),(5,.ps [] true)],ab [a,b,c,d,e]⟩) (ev 40) (by kernel_rfl) ?_
  refine ce.one (s':=⟨eX 8 [(0,.ls L),(2,.nils),(3,.ps L false),(4,.bool false),(5,.ps [] true),(6,.ls L)],ab [a,b,c,d,e]⟩) (ev 40) (by kernel_rfl) ?_
  refine sV (I:=fun k:Nat=>k=0) (r:=fun _=>.slice 5 0 0 L.length none) (H:=fun _=>ab [a,b,c,d,e,.row 4 true 0 L]) (by kernel_rfl)
    (fun pl M a w g1 g2 g3=>xF (z:=aQ ⟨[],0,0,0⟩) (z0:=aQ ⟨[],0,0,0⟩) (xs:=L) (t:=35) (tx:=35) (e:=102) (i:=FA) zZ wL (by kernel_rfl) ⟨102,by kernel_rfl⟩ Fu (by kernel_rfl) (Le.refl _) (by kernel_rfl) (by kernel_rfl) hn hf (by kernel_rfl) hsm (by omega) pl M a w g1 g2 g3) fun k _=>?_
  refine⟨eX 8 [(0,.ls L),(2,.nils),(3,.ps L false),(4,.bool false),(5,.ps [] true),(6,.ls L),(7,.slice 5 0 0 L.length none)],by kernel_rfl,?_⟩
  refine ce.one (s':=⟨eX 8 [(0,.ls L),(2,.slice 5 0 0 L.length none),(3,.ps L false),(4,.bool false),(5,.ps [] true),(6,.ls L),(7,.slice 5 0 0 L.length none)],ab [a,b,c,d,e,.row 4 true 0 L]⟩) (ev 40) (by kernel_rfl) (ce.nil (aD.ret ⟨fun id h=>(by grind),.slice 5 0 0 L.length none,by kernel_rfl,by kernel_rfl,by kernel_rfl⟩))
noncomputable abbrev D9(u:TUnit)(k:AV):AV:=.agg [iV u.act,iV u.item,iV u.n,iV u.kind,.str u.label,.sl0 3 0 u.head.length none,.sl0 4 0 u.words.length none,k]
noncomputable abbrev VI(u:TUnit)(i j:Nat)(k:AV):AObj:=.row 8 false 0 [.agg [iV u.act,iV u.item,iV u.n,iV u.kind,.str u.label,.sl0 i 0 u.head.length none,.sl0 j 0 u.words.length none,k]]
theorem Zf(u:TUnit)(hk:0<u.kids.length)(hn:nU u≤2^20)(ht:∀x,x∈bu u→x.head.length≤2^20∧x.words.length≤2^20):kC 77 [eU u] (ab [wN u,wG])
    (fun v h=>∃y:Nat×Nat×List TUnit,(y.2.1=u.kids.length∧y.2.2=u.kids)∧v=D9 u (.slice 5 y.1 0 y.2.1 none)∧h=ab [wN u,wG,VI u 3 4 (.slice 5 y.1 0 y.2.1 none),Ch u.head,Ch u.words,.row 8 true y.1 (y.2.2.map aY)]):=by
  have hkl:=bg u
  have c1:=(ht u (dU u)).1
  have c2:=(ht u (dU u)).2
  have ihk:∀k,k∈u.kids→kP 77 [eU k] (eU k):=fun k hk=>H0 k (bR (oR (io hk)) hn) (fun x hx=>⟨ny (ht x (bC hk hx)).1 (by omega),ny (ht x (bC hk hx)).2 (by omega)⟩)
  let q1:=[ax [iV u.act,iV u.item,iV u.n,iV u.kind,aV u.label,aW (u.head.map aQ),aW (u.words.map aQ),aW (u.kids.map aY)]];let q2:=[ax [iV 0,iV 0,iV 0,iV 0,aV [],al,al,al]];let q3:=aZ 8 false 0 q2;let q4:=aZ 8 false 0 q1;let q5:=List.map aQ u.head;let q6:=aZ 4 true 0 q5;exact qe Tryz.func77 fun a=>Mg 3<|M3 (.efx true (AV.sl0 4 0 u.head.length none)<|ab [aZ 8 false 0 q1,aZ 8 false 0 q2,aZ 8 false 0 q1,aZ 8 false 0 q2,aZ 4 true 0 q5]) (yQ rt rt rt rt ti) (yQ (aK<|some q3) (aK<|some q4) (aK<|some q3) (aK<|some q4) ti) (cl4 u.head c1 q4 q3 q4 q3)<|Mg 1<|M3 (.efx true (AV.sl0 5 0 u.words.length none)<|ab [aZ 8 false 0 q1,aZ 8 false 0 q2,aZ 8 false 0 q1,aZ 8 false 0 q2,aZ 4 true 0 q5,aZ 4 true 0<|u.words.map aQ]) (yC (tR 4 true 0 5<|aX iT u.head) rt rt rt rt ti) (yC (aK<|some q6) (aK<|some q3) (aK<|some q4) (aK<|some q3) (aK<|some q4) ti) (cl5 u.words c2 q4 q3 q4 q3 q6)<|Kl 7 16 (ln aY u.kids)<|Mg 0<|kM Nat Nat (List TUnit) aY u.kids [1,2,3,15,16,17] (fun a _=>([bj 2 0 0 0,bj 3 0 0 0,al,aW<|u.kids.map aY,nV u.kids.length,nV a],[aZ 8 false 0 [ax [iV u.act,iV u.item,iV u.n,iV u.kind,aV u.label,aW<|u.head.map aQ,aW<|u.words.map aQ,aW<|u.kids.map aY]],aZ 8 false 0 [ax [iV 0,iV 0,iV 0,iV 0,aV [],al,al,al]],aZ 8 false 0 [ax [iV u.act,iV u.item,iV u.n,iV u.kind,aV u.label,AV.sl0 4 0 u.head.length none,AV.sl0 5 0 u.words.length none,aW<|u.kids.map aY]],aZ 8 false 0 [ax [iV 0,iV 0,iV 0,iV 0,aV [],al,al,al]],aZ 4 true 0<|u.head.map aQ,aZ 4 true 0<|u.words.map aQ])) (fun a _ b c d=>([bj 2 0 0 0,bj 3 0 0 0,aM 6 b 0 c none,aW<|u.kids.map aY,nV u.kids.length,nV a],[aZ 8 false 0 [ax [iV u.act,iV u.item,iV u.n,iV u.kind,aV u.label,aW<|u.head.map aQ,aW<|u.words.map aQ,aW<|u.kids.map aY]],aZ 8 false 0 [ax [iV 0,iV 0,iV 0,iV 0,aV [],al,al,al]],aZ 8 false 0 [ax [iV u.act,iV u.item,iV u.n,iV u.kind,aV u.label,AV.sl0 4 0 u.head.length none,AV.sl0 5 0 u.words.length none,aW<|u.kids.map aY]],aZ 8 false 0 [ax [iV 0,iV 0,iV 0,iV 0,aV [],al,al,al]],aZ 4 true 0<|u.head.map aQ,aZ 4 true 0<|u.words.map aQ,aZ 8 true b<|d.map aY])) (fun a=>a=u.kids) (fun a _ b c=>b=c.length∧(0:Nat)<c.length∧c++a=u.kids∧c.length+a.length=u.kids.length) (by rfl) (fun _ _ _ _ _ a _=>Kh 0 a<|Mg 4<|Mw .abs (sA:False)) (fun a _ _ b c d _ e f g _ i _=>have i:=(i).trans<|congrArg some<|aT c;have b:=cj (J:=fun a _=>a=u.kids) (a:=()) f b;Kt 0 g<|Mx i<|Kp 4 (ihk c gR)<|K1 1 (.obj 7<|aZ 8 true 0<|List.map aY [c]) (congrArg (aZ 8 true 0)<|Ur (f:=aY) (g:=Go.Ev.eU) (ws:=[c]) aT)<|Kl 1 26 (dV a)<|Mg 0<|Mw (.ren [0,1,2,3,4,5,7,6] [4,5,7] [1,2,3,15,16,17]<|.frz 7 [1,2,3,15,16,17] .fin)<|yQ (tS 4 true 0<|aX iT u.head) (tS 4 true 0<|aX iT u.words) (tS 8 true 0<|aX iw [c]) (et8 (tR 8 true 0 7<|aX iw [c]) (tR 4 true 0 7<|aX iT u.words) (tR 4 true 0 7<|aX iT u.head) rt rt rt rt ti)<|e 0 1 [c]<|by(refine⟨rfl,by simp,?_,?_⟩<;>(rw[←b])<;>(first|rfl|grind))) (fun _ _ b c d _ _ _ e _=>Kh 0 e<|Mg 4<|Mw (.ren [0,1,3,4,5,6,2] [4,5,6] [2]<|.frz 6 [2] .fin)<|yQ (tS 4 true 0<|aX iT u.head) (tS 4 true 0<|aX iT u.words) (tS 8 true b<|aX iw d) (Oc (tR 8 true b 6<|aX iw d) (tR 4 true 0 6<|aX iT u.words) (tR 4 true 0 6<|aX iT u.head) rt rt rt ti)<|a (b,c,d) sA) fun a _ b c d _ e f g _ i j l _ n _=>have n:=(n).trans<|congrArg some<|aT f;have e:=cj (J:=fun a b=>b.2.1=b.2.2.length∧(0:Nat)<b.2.2.length∧b.2.2++a=u.kids∧b.2.2.length+a.length=u.kids.length) (a:=(b,c,d)) j e;Kt 0 l<|Mx n<|Kp 4 (ihk f gR)<|K1 0 .app (ca (aK b) (sA:c=(d.map aY).length) (by(refine aO (m:=2^21) ?_ ?_ ?_<;>omega):small (c+1) 120=true))<|M1 (.obj 6<|aZ 8 true (b+1)<|(d++[f]).map aY) (congrArg (aZ 8 true<|b+1)<|yp (f:=aY) (g:=Go.Ev.eU) (l:=d) (ws:=[f]) aT)<|Kl 1 26 (dV a)<|K1 0 (.frz 7 [1,2,3,15,16,17]) (et8 (tR 8 true (b+1) 7<|aX iw<|d++[f]) (tR 4 true 0 7<|aX iT u.words) (tR 4 true 0 7<|aX iT u.head) rt rt rt rt ti)<|Mf<|i (b+1) (c+1) (d++[f])<|by(refine⟨by simp_all,by simp,?_,?_⟩<;>first|(rw[←e.2.2.1];simp;done)|grind)
theorem Zg(u:TUnit)(hk:u.kids=[])(ht:∀x,x∈bu u→x.head.length≤2^20∧x.words.length≤2^20):kD 77 [eU u] (ab [wN u,wG]) (D9 u .nils) (ab [wN u,wG,VI u 3 4 .nils,Ch u.head,Ch u.words]):=by
  have c1:=(ht u (dU u)).1
  have c2:=(ht u (dU u)).2
  have hz:aF 0 (Int.ofNat u.kids.length)=false:=by rw[hk];rfl
  let q:=[ax [iV u.act,iV u.item,iV u.n,iV u.kind,aV u.label,aW (u.head.map aQ),aW (u.words.map aQ),aW (u.kids.map aY)]];let q1:=[ax [iV 0,iV 0,iV 0,iV 0,aV [],al,al,al]];let q2:=[aZ 8 false 0 q,aZ 8 false 0 q1,aZ 8 false 0 [ax [iV u.act,iV u.item,iV u.n,iV u.kind,aV u.label,AV.sl0 4 0 u.head.length none,AV.sl0 5 0 u.words.length none,aW (u.kids.map aY)]],aZ 8 false 0 q1,aZ 4 true 0 (u.head.map aQ),aZ 4 true 0 (u.words.map aQ)];let q3:=aZ 8 false 0 q1;let q4:=aZ 8 false 0 q;let q5:=[bj 2 0 0 0,bj 3 0 0 0,al,aW (u.kids.map aY),nV u.kids.length,iV 0];let q6:=List.map aQ u.head;let q7:=aZ 4 true 0 q6;exact eR Tryz.func77 fun a=>Mg 3<|M3 (.efx true (AV.sl0 4 0 u.head.length none)<|ab [aZ 8 false 0 q,aZ 8 false 0 q1,aZ 8 false 0 q,aZ 8 false 0 q1,aZ 4 true 0 q6]) (yQ rt rt rt rt ti) (yQ (aK<|some q3) (aK<|some q4) (aK<|some q3) (aK<|some q4) ti) (cl4 u.head c1 q4 q3 q4 q3)<|Mg 1<|M3 (.efx true (AV.sl0 5 0 u.words.length none)<|ab [aZ 8 false 0 q,aZ 8 false 0 q1,aZ 8 false 0 q,aZ 8 false 0 q1,aZ 4 true 0 q6,aZ 4 true 0<|u.words.map aQ]) (yC (tR 4 true 0 5<|aX iT u.head) rt rt rt rt ti) (yC (aK<|some q7) (aK<|some q3) (aK<|some q4) (aK<|some q3) (aK<|some q4) ti) (cl5 u.words c2 q4 q3 q4 q3 q7)<|Kl 7 16 (ln aY u.kids)<|Mg 0<|MO0 [1,2,3,15,16,17] (q5,q2) True 0 ti fun _ _=>Kh 0 hz<|Mg 4<|M2 (.ren [0,1,3,4,5,2] [4,5] [2]) (tS 4 true 0<|aX iT u.head) (tS 4 true 0<|aX iT u.words)<|M1 (.frz 5 [2]) (yC (tR 4 true 0 5<|aX iT u.words) (tR 4 true 0 5<|aX iT u.head) rt rt rt ti)<|Mf a
noncomputable abbrev kdO(ep:Nat)(l:List TUnit):AObj:=.row 8 true ep (l.map aY)
theorem LD(u:TUnit){k k':AV}(h:Le k k')(h2:cL k=true):Le (D9 u k) (D9 u k'):=bQ (.cons (Le.refl _) (.cons (Le.refl _) (.cons (Le.refl _) (.cons (Le.refl _) (.cons (Le.refl _) (.cons (Le.refl _) (.cons (Le.refl _) (.cons h .nil)))))))) (by simp only[List.all_cons,List.all_nil,h2];rfl)
theorem Ze(u:TUnit)(hn:nU u≤2^20)(ht:∀x,x∈bu u→x.head.length≤2^20∧x.words.length≤2^20):kC 77 [eU u] (ab [wN u,wG])
    (fun v h=>∃ep:Nat,True∧v=D9 u (.sl0 5 ep u.kids.length none)∧h=ab [wN u,wG,.dead,Ch u.head,Ch u.words,kdO ep u.kids]):=by
  rcases Nat.eq_zero_or_pos u.kids.length with hk|hk
  · have hk:=List.length_eq_zero_iff.1 hk
    refine aL.dead (i:=2) (Ki (Ψ':=fun v h=>v=D9 u (.sl0 5 0 0 none)∧h=ab [wN u,wG,VI u 3 4 .nils,Ch u.head,Ch u.words,kdO 0 u.kids]) (kdO 0 u.kids) (Zg u hk ht) fun v h' ⟨h1,h2⟩=>⟨D9 u (.sl0 5 0 0 none),h1▸LD u Le.sl0n rfl,rfl,?_⟩) (aB 2) (by omega) fun v h' ⟨h1,h2⟩=>⟨0,trivial,by simp_all,?_⟩
    · rw[h2];kernel_rfl
    · rw[h2];kernel_rfl
  · refine aL.dead (i:=2) (aL.less (Ψ':=fun v h=>∃ep:Nat,v=D9 u (.sl0 5 ep u.kids.length none)∧h=ab [wN u,wG,VI u 3 4 (.slice 5 ep 0 u.kids.length none),Ch u.head,Ch u.words,kdO ep u.kids]) (Zf u hk hn ht) fun v h' ⟨y,⟨e1,e2⟩,h1,h2⟩=>⟨D9 u (.sl0 5 y.1 u.kids.length none),?_,y.1,rfl,?_⟩) (aB 2) (by omega) fun v h' ⟨ep,h1,h2⟩=>⟨ep,trivial,h1,?_⟩
    · rw[h1,e1];exact LD u Le.sl0 rfl
    · simp_all
    · rw[h2];kernel_rfl
/-- The first 'i' elements changed by 'f'. -/
def kE{α:Type}(f:α→α)(l:List α)(i:Nat):List α:=(l.take i).map f++l.drop i
theorem wJ{α:Type}{f:α→α}{l:List α}{i:Nat}:(kE f l i).length=l.length:=by
  grind[kE]
theorem wK{α:Type}{f:α→α}{l:List α}{i:Nat}(h:l.length≤i):kE f l i=l.map f:=by
  grind[kE,List.take_of_length_le]
theorem Ax{α:Type}[Inhabited α]{f:α→α}{l:List α}{i:Nat}(h:i<l.length):gD (kE f l i) i=gD l i:=by
  have e:((l.take i).map f).length=i:=by grind
  simp_all[kE,gD,pF]
theorem C8{α:Type}[Inhabited α]{f:α→α}{l:List α}{i:Nat}(h:i<l.length):(kE f l i).set i (f (gD l i))=kE f l (i+1):=by
  have e:((l.take i).map f).length=i:=by grind
  have hg:gD l i=l[i]:=by unfold gD;simp_all
  unfold kE
  rw[List.set_append_right _ _ (by omega),e,Nat.sub_self,hg,Pj h,List.set_cons_zero,Pk h,qY,mB]
  rfl
theorem Az{l:List PWord}{i:Nat}(h:i<l.length):(kE g9 l i).set i ⟨(gD (kE g9 l i) i).text,0,0,0⟩=kE g9 l (i+1):=by
  rw[Ax h];exact C8 h
theorem PM:∀u:TUnit,nU u≤2^20→(∀x,x∈bu u→x.head.length≤2^20∧x.words.length≤2^20)→kP 283 [eU u] (eU (cH u)):=by
  refine TUnit.ind fun u ih hn ht=>?_
  have hkl:=bg u
  have c1:=(ht u (dU u)).1
  have c2:=(ht u (dU u)).2
  have hc:=Ze u hn ht
  have ihk:∀k,k∈u.kids→kP 283 [eU k] (eU (cH k)):=fun k hk=>ih k hk (bR (oR (io hk)) hn) (fun x hx=>ht x (bC hk hx))
  rw[mf]
  have rr0 b' (h:(List.map aQ (TUnit.mk 0 0 0 u.kind u.label (u.head.map g9) (u.words.map g9) (u.kids.map cH)).head)=b':=by(rw[hx1.2,wK (by(simp only[oN]at *;omega))];rfl)):=h;have rr1 b' (h:(List.map aQ (TUnit.mk 0 0 0 u.kind u.label (u.head.map g9) (u.words.map g9) (u.kids.map cH)).words)=b':=by(rw[hx2.2,wK (by(simp only[oN]at *;omega))];rfl)):=h;have rr2 b' (h:(List.map aY (TUnit.mk 0 0 0 u.kind u.label (u.head.map g9) (u.words.map g9) (u.kids.map cH)).kids)=b':=by(rw[hx3.2,wK (by(simp only[oN]at *;omega))];rfl)):=h;exact bG Tryz.func283<|Mg 2<|Mq hc fun a _=>Mg 10<|M0 (.un 2)<|Mg 7<|NJ (0:Nat) u.head [1,2,4,15,16,17,22,23] (fun b c=>([bj 0 0 0 0,bj 1 0 0 0,AV.sl0 3 0 u.head.length none,iF [AV.sl0 3 0 u.head.length none,AV.sl0 4 0 u.words.length none] true,iV 2,iV 0,nV u.head.length,nV b],[aZ 8 false 0 [ax [iV 0,iV 0,iV 0,iV u.kind,aV u.label,AV.sl0 3 0 u.head.length none,AV.sl0 4 0 u.words.length none,AV.sl0 5 a u.kids.length none]],aZ 8 false 0 [ax [iV 0,iV 0,iV 0,iV 0,aV [],al,al,al]],AObj.dead,aZ 4 true 0<|c.map aQ,aZ 4 true 0<|u.words.map aQ,aZ 8 true a<|u.kids.map aY])) (fun a b=>a≤u.head.length∧b=kE g9 u.head a) (fun a _=>u.head.length-a) (by exact⟨bL _,rfl⟩) fun b c hx1 d=>have hx1:b≤u.head.length∧c=kE g9 u.head b:=hx1;have:c.length=u.head.length:=(by grind[wJ]);Ka 0 (Int.ofNat b) (Int.ofNat u.head.length) (fun _ _=>K1 4 .rix (et (aK 0) (sA:b<u.head.length))<|K1 0 (.rst (aQ<|gD c b)<|(c.set b<|PWord.mk (gD c b).text 0 0 0).map aQ) (ca (aK 0) (bY aQ (sA:b<(c).length))<|kU (f:=aQ) (l:=c) (i:=b) (w:=PWord.mk (gD c b).text 0 0 0))<|Kl 0 31 (jk b)<|Kf 0<|d (b+1) (c.set b<|PWord.mk (gD c b).text 0 0 0) (by grind[Az]) gR) fun _ _=>Mg 9<|NJ (0:Nat) u.words [1,2,4,15,16,17,22,23] (fun b d=>([bj 0 0 0 0,bj 1 0 0 0,AV.sl0 4 0 u.words.length none,iF [AV.sl0 3 0 u.head.length none,AV.sl0 4 0 u.words.length none] true,iV 2,iV 1,nV u.words.length,nV b],[aZ 8 false 0 [ax [iV 0,iV 0,iV 0,iV u.kind,aV u.label,AV.sl0 3 0 u.head.length none,AV.sl0 4 0 u.words.length none,AV.sl0 5 a u.kids.length none]],aZ 8 false 0 [ax [iV 0,iV 0,iV 0,iV 0,aV [],al,al,al]],AObj.dead,aZ 4 true 0<|c.map aQ,aZ 4 true 0<|d.map aQ,aZ 8 true a<|u.kids.map aY])) (fun a b=>a≤u.words.length∧b=kE g9 u.words a) (fun a _=>u.words.length-a) (by exact⟨bL _,rfl⟩) fun b d hx2 e=>have hx2:b≤u.words.length∧d=kE g9 u.words b:=hx2;have:d.length=u.words.length:=(by grind[wJ]);Ka 0 (Int.ofNat b) (Int.ofNat u.words.length) (fun _ _=>K1 4 .rix (et (aK 0) (sA:b<u.words.length))<|K1 0 (.rst (aQ<|gD d b)<|(d.set b<|PWord.mk (gD d b).text 0 0 0).map aQ) (ca (aK 0) (bY aQ (sA:b<(d).length))<|kU (f:=aQ) (l:=d) (i:=b) (w:=PWord.mk (gD d b).text 0 0 0))<|Kl 0 31 (jk b)<|Kf 0<|e (b+1) (d.set b<|PWord.mk (gD d b).text 0 0 0) (by grind[Az]) gR) fun _ _=>Mg 7<|NJ (0:Nat) u.kids [1,2,35,36] (fun b e=>([bj 0 0 0 0,bj 1 0 0 0,nV u.kids.length,nV b],[aZ 8 false 0 [ax [iV 0,iV 0,iV 0,iV u.kind,aV u.label,AV.sl0 3 0 u.head.length none,AV.sl0 4 0 u.words.length none,AV.sl0 5 a u.kids.length none]],aZ 8 false 0 [ax [iV 0,iV 0,iV 0,iV 0,aV [],al,al,al]],AObj.dead,aZ 4 true 0<|c.map aQ,aZ 4 true 0<|d.map aQ,aZ 8 true a<|e.map aY])) (fun a b=>a≤u.kids.length∧b=kE cH u.kids a) (fun a _=>u.kids.length-a) (by exact⟨bL _,rfl⟩) fun b e hx3 f=>have hx3:b≤u.kids.length∧e=kE cH u.kids b:=hx3;have:e.length=u.kids.length:=(by grind[wJ]);have g:b<u.kids.length→kP (283:FuncId) [eU (gD e b)] (eU (cH (gD e b))):=fun h=>ihk _ (by grind[Ax,fR]);Ka 0 (Int.ofNat b) (Int.ofNat u.kids.length) (fun _ _=>K1 7 .rix (et (aK a) (sA:b<u.kids.length))<|Mr (et (aK a)<|rB aY (g:=Go.Ev.eU) aT (sA:b<(e).length))<|Mp (g sA)<|M1 .rix (et (aK a) (sA:b<u.kids.length))<|M3 (.rst (ax [iV (gD e b).act,iV (gD e b).item,iV (gD e b).n,iV (gD e b).kind,aV (gD e b).label,aW<|List.map aQ (gD e b).head,aW<|List.map aQ (gD e b).words,aW<|List.map aY (gD e b).kids])<|(e.set b<|cH<|gD e b).map aY) rt (iY (tR 8 true a 6<|aX iw e) rt) (ca (aK a) (rB aY (g:=Go.Ev.eU) aT (sA:b<(e).length))<|DT (f:=aY) (g:=Go.Ev.eU) aT (l:=e) (i:=b) (w:=cH<|gD e b))<|Kl 0 49 (jk b)<|Kf 0<|f (b+1) (e.set b<|cH<|gD e b) (by grind[Ax,C8]) gR) fun _ _=>M2 (.fza 0 7 5 [1,2]<|e.map aY) (yC (tR 4 true 0 5<|aX iT d) (tR 4 true 0 5<|aX iT c) rt rt rt ti) (ca (aK a) (tA aY e u.kids.length (oA:(e).length=u.kids.length))<|aX iw e)<|M2 (.fza 0 6 4 [1,2]<|d.map aQ) (yQ (tR 4 true 0 4<|aX iT c) rt rt rt ti) (ca (aK 0) (tA aQ d u.words.length (oA:(d).length=u.words.length))<|aX iT d)<|M2 (.fza 0 5 3 [1,2]<|c.map aQ) (jd rt rt rt ti) (ca (aK 0) (tA aQ c u.head.length (oA:(c).length=u.head.length))<|aX iT c)<|Kf 1 (bQ (lc<|lc<|lc<|lc<|lc<|.cons (cQ<|rr0<|c.map aQ)<|.cons (cQ<|rr1<|d.map aQ)<|.cons (cQ<|rr2<|e.map aY) .nil)<|by kernel_rfl:Le _ (AV.agg [iV 0,iV 0,iV 0,iV u.kind,AV.str u.label,AV.ls (c.map aQ),AV.ls (d.map aQ),AV.ls (e.map aY)]))
theorem QS:Go.Proofs.Builder.Extra Tryz.prog Tryz.ljoin_ren:=by
  repeat' (first|kernel_rfl|(intro w;kernel_rfl)|decide|constructor)
theorem UE(l:List aR)(sep:aR)(h1:l.length≤140737488355328)(h2:(Lib.join l sep).length≤140737488355328):kP 259 [.ls (l.map nQ),.str sep] (.str (Lib.join l sep)):=N9 (Go.Proofs.enters_of Tryz.func259 (by kernel_rfl) rfl) (fun a b c d e f g h i j k=>Go.Proofs.Any.strings_Join Go.Proofs.Tryz.ljoin QS a b c d e f g h i j k) (fun a b c d=>Go.Proofs.Any.strings_Join_none Go.Proofs.Tryz.ljoin QS a b c d) l sep h1 h2
theorem ZV:Go.Proofs.Builder.Extra Tryz.prog Tryz.lrep_ren:=by
  repeat' (first|kernel_rfl|(intro w;kernel_rfl)|decide|constructor)
theorem W7(s:aR)(c:Nat)(h1:c≤9223372036854775807)(h2:s.length*c≤140737488355328):kP 300 [.str s,nV c] (.str (Lib.repeatL s c)):=GK (Go.Proofs.enters_of Tryz.func300 (by kernel_rfl) rfl) (fun a b d e f=>Go.Proofs.Any.strings_Repeat Go.Proofs.Tryz.lrep ZV a b d e f) s c h1 h2
theorem Qq(s:aR)(ws:List PWord)(hw:∀w,w∈ws→1≤w.text.length∧w.text.length≤24)(hb:s.length+26*ws.length≤2^40)(hn:ws.length≤2^20):kP 302 [.str s,.ls (ws.map aQ)] (.str (mV s ws)):=by
  have rr0 b' (h:(mV s ws)=b':=by first|rfl|(exact hj0.1.symm)):=h;exact bG Tryz.func302<|Kl 2 8 (ln aQ ws)<|Mg 0<|WX (0:Nat) ws s [0,7,8,9] (fun a _ b=>([aV b,aW<|ws.map aQ,nV ws.length,nV a],[])) (fun a b c=>(ws).drop a=b∧mV c b=mV s ws∧List.length c+26*b.length≤2^40) (fun _ a _=>a.length) (et rfl<|by first|rfl|(first|simp_all|(refine⟨by(rw[←hj0.1,oE];first|rw[FJ h1]|rw[FW h1 h2]|rw[FX h1 h2]),?_⟩;have q:=hj0.2;simp only[lA,lC,lN]at *;omega))) fun a b c d e=>Mc b (fun a=>have b:=eN d.1 a;have hj0:=gu (J:=fun a b=>mV b a=mV s ws∧List.length b+26*a.length≤2^40) (a:=c) a d.2;Kh 0 b<|Kf 1<|Le.str<|rr0 c) fun b f g=>let i:=[aZ 4 false 0 [ax [aV b.text,iV b.act,iV b.item,iV b.at_]]];have j:=fY d.1 g;have:=ar j;have k:=eM (enc:=aQ) d.1 g;have hj0:=cj (J:=fun a b=>mV b a=mV s ws∧List.length b+26*a.length≤2^40) (a:=c) g d.2;have:=hw b<|bX d.1 g;Kt 0 j<|Mx k<|Kv 3 (jq (s:=c) (u:=[32]) (H:=ab i) (by(first|first|assumption|omega|grind):(c).length+([32]).length≤2^62))<|K1 2 (.chr<|gD b.text 0) (zS (by first|omega|(simp only[oN,lM,lS]at *;omega)|(simp only[oN,lM,lS,lA,lR,lC,lN]at * <;>omega):0<(b.text).length))<|Kj 1 (Int.ofNat (gD b.text 0).toNat) 124 (fun j _=>Mt j<|Mt j<|Mt j<|MV j<|Kv 1 (jq (s:=c++[32]) (u:=[92]) (H:=ab i) (by(first|first|assumption|omega|grind):(c++[32]).length+([92]).length≤2^62))<|Kv 3 (jq (s:=c++[32]++[92]) (u:=b.text) (H:=ab i) (by(first|first|assumption|omega|grind):(c++[32]++[92]).length+(b.text).length≤2^62))<|Kl 1 31 (dV a)<|K1 0 (.frz 0 [0,7,8,9]) ti<|Mf<|e (a+1) f (c++[32]++[92]++b.text) (et (bW d.1 g)<|by first|exact⟨rfl,hb⟩|(refine⟨by(rw[←hj0.1,oE];first|rw[FJ j]|rw[FW j h2]|rw[FX j h2]),?_⟩;grind))<|dK g) fun j _=>Kh 0 j<|Kh 0 j<|M1 (.chr<|gD b.text 0) (zS (by first|omega|(simp only[oN,lM,lS]at *;omega)|(simp only[oN,lM,lS,lA,lR,lC,lN]at * <;>omega):0<(b.text).length))<|Mh j<|Kw 0 j<|Mb (af (Int.ofNat (gD b.text 0).toNat) 92) (fun k=>have:=fL k;Kv 0 (jq (s:=c++[32]) (u:=[92]) (H:=ab i) (by(first|first|assumption|omega|grind):(c++[32]).length+([92]).length≤2^62))<|Kv 3 (jq (s:=c++[32]++[92]) (u:=b.text) (H:=ab i) (by(first|first|assumption|omega|grind):(c++[32]++[92]).length+(b.text).length≤2^62))<|Kl 1 31 (dV a)<|K1 0 (.frz 0 [0,7,8,9]) ti<|Mf<|e (a+1) f (c++[32]++[92]++b.text) (et (bW d.1 g)<|by first|exact⟨rfl,hb⟩|(refine⟨by(rw[←hj0.1,oE];first|rw[FJ j]|grind[FW]|rw[FX j k]),?_⟩;grind))<|dK g) fun k=>have:=Da k;Kv 2 (jq (s:=c++[32]) (u:=b.text) (H:=ab i) (by(first|first|assumption|omega|grind):(c++[32]).length+(b.text).length≤2^62))<|Kl 1 31 (dV a)<|K1 0 (.frz 0 [0,7,8,9]) ti<|Mf<|e (a+1) f (c++[32]++b.text) (et (bW d.1 g)<|by first|exact⟨rfl,hb⟩|(refine⟨by(rw[←hj0.1,oE];first|rw[FJ j]|rw[FW j k]|grind[FX]),?_⟩;grind))<|dK g
theorem sG{u:TUnit}(h:mD u):mD (cH u):=by
  obtain⟨h1,h2⟩:=Nc u
  refine⟨by rw[h1];exact h.1,fun x hx=>?_⟩
  obtain⟨y,hy,rfl⟩:=h2 x hx
  obtain⟨a,b,c,d,e⟩:=h.2 y hy
  rw[mf]
  refine⟨by grind[TUnit.head],by grind[TUnit.words],c,fun w hw=>?_,fun w hw=>?_⟩
  · obtain⟨v,hv,rfl⟩:=ku.1 hw;exact d v hv
  · obtain⟨v,hv,rfl⟩:=ku.1 hw;exact e v hv
theorem Cr{u:TUnit}(h:sd u):mD (tT u):=by
  have e:bu (tT u)=[tT u]:=by rw[dj];exact congrArg _ gZ
  refine⟨by rw[jy];exact bR (tC (congrArg (1+ ·) mw)) (by omega),fun x hx=>?_⟩
  rw[e]at hx
  rw[n7.1 hx];exact h
theorem DN(u:TUnit)(h:mD u):kP 283 [eU u] (eU (cH u)):=
  PM u (bR h.1 (by omega)) fun x hx=>⟨bR (h.2 x hx).1 (by omega),bR (h.2 x hx).2.1 (by omega)⟩
theorem QP(u:TUnit)(d:Nat)(hd:d≤2^20)(h:sd u):kP 299 [eU u,nV d] (.bool (Ea u d)):=by
  have h1:=DN (tT u) (Cr h)
  have h2:=yj (cH (tT u)) (sG (Cr h))
  have hz:=Xz d
  have rr0 b' (h:(Ea u d)=b':=by first|rfl|(unfold Ea;simp only[aS,ak,bS, *];done)):=h;exact bG Tryz.func299<|Kn 13 (aF 8<|Int.ofNat d) (fun a=>Kt 0 (ch a)<|Mp (aC.onArgs (.cons (bQ (lc<|lc<|lc<|lc<|lc<|lc<|lc<|.cons bM .nil)<|by kernel_rfl) .nil) h1:kP 283 [ax [iV 0,iV 0,iV 0,iV u.kind,aV u.label,aW (u.head.map aQ),aW (u.words.map aQ),al]] _)<|Mt (ch a)<|Mp h2<|MV (ch a)<|Kf 0<|cA<|rr0<|kT<|cH<|tT u) fun a=>Mh (cb a)<|Mh (cb a)<|My (cb a)<|Ky 0<|rr0 false
theorem Xg(u:TUnit)(d:Nat)(hd:d≤2^20)(h:sd u)(hm:Ea u d=false):kP 285 [eU u,nV d] (.str (gz u d)):=by
  have h1:=QP u d hd h
  rw[hm]at h1
  have e:gz u d=[]:=by unfold gz;simp_all
  rw[e]
  exact bG Tryz.func285<|Kp 3 h1<|Kf 2<|bh<|aV []
def N8(u:TUnit)(d:Nat)(z18:aR):Prop:=(z18=bif ak (af u.kind (0:Int))then Lib.repeatL [(32:UInt8),(32:UInt8)] d++c9 u.kind++([(32:UInt8)]++u.label)else Lib.repeatL [(32:UInt8),(32:UInt8)] d++c9 u.kind)∧List.length z18≤(40:Nat)
noncomputable def N7(u:TUnit)(d:Nat)(z18:aR):List AV×List AObj:=([AV.ptr 0 0 0 0,AV.str z18],[AObj.row 8 false 0 [AV.agg [iV u.act,iV u.item,iV u.n,iV u.kind,AV.str u.label,AV.ls (u.head.map aQ),AV.ls (u.words.map aQ),AV.ls (u.kids.map aY)]]])
def N6(u:TUnit)(z18:aR)(z27:aR):Prop:=(z27=bif aF (0:Int) (Int.ofNat u.head.length)then mV (z18++[(58:UInt8)]) u.head else z18)∧List.length z27≤(6700:Nat)
noncomputable def N5(u:TUnit)(z18:aR)(z27:aR):List AV×List AObj:=([AV.ptr 0 0 0 0,AV.str z27],[AObj.row 8 false 0 [AV.agg [iV u.act,iV u.item,iV u.n,iV u.kind,AV.str u.label,AV.ls (u.head.map aQ),AV.ls (u.words.map aQ),AV.ls (u.kids.map aY)]]])
theorem Xf(u:TUnit)(d:Nat)(hd:d≤2^20)(h:sd u)(hm:Ea u d=true):kP 285 [eU u,nV d] (.str (gz u d)):=by
  have h1:=QP u d hd h
  obtain⟨hd8,hlb,⟨hh1,hh2⟩,hw1,hw2⟩:=Ls hm
  have hrl:=Lib.repeatL_length [32,32] d
  simp only[lC,lN]at hrl
  have h2:=W7 [32,32] d (by omega) (by grind)
  have hk:=xy u.kind
  have hkl:=Af u.kind
  have hp1:∀s:aR,s.length≤2^14→kP 302 [.str s,.ls (u.head.map aQ)] (.str (mV s u.head)):=fun s hs=>Qq s u.head hh2 (by omega) (by omega)
  have hp2:∀s:aR,s.length≤2^14→kP 302 [.str s,.ls (u.words.map aQ)] (.str (mV s u.words)):=fun s hs=>Qq s u.words hw2 (by omega) (by omega)
  rw[hm]at h1
  have rr0 b' (h:(gz u d)=b':=by first|rfl|(unfold gz;rw[hm];simp only[ak,cond_false];rw[←hz18.1,←hz27.1];first|(rw[h3];rfl)|(rw[h4];rfl)|(rw[h5];rfl)|(rw[h6];rfl)|(rw[h7];rfl))):=h;let q1:=[aZ 8 false 0 [ax [iV u.act,iV u.item,iV u.n,iV u.kind,aV u.label,aW (u.head.map aQ),aW (u.words.map aQ),aW (u.kids.map aY)]]];exact bG Tryz.func285<|Kp 3 h1<|Kp 2 h2<|Kp 1 hk<|Mv (jq (s:=Lib.repeatL [32,32] d) (u:=c9 u.kind) (H:=AHeap.mk 1000000 Tr.nil) (by(first|first|assumption|((try simp only[lA,lC,lN]);omega)|(simp only[lA,lC,lN]at *;omega)):(Lib.repeatL [32,32] d).length+(c9 u.kind).length≤2^62))<|Mg 0<|Mj aR [2,5] (N7 u d) (N8 u d) (fun a=>Kn 2 (af u.kind 0) (fun _=>Kv 2 (jq (s:=[32]) (u:=u.label) (H:=ab q1) (by(first|first|assumption|((try simp only[lA,lC,lN]);omega)|(simp only[lA,lC,lN]at *;omega)):([32]).length+(u.label).length≤2^62))<|Mv (jq (s:=Lib.repeatL [32,32] d++c9 u.kind) (u:=32::u.label) (H:=ab q1) (by(first|first|assumption|((try simp only[lA,lC,lN]);omega)|(simp only[lA,lC,lN]at *;omega)):(Lib.repeatL [32,32] d++c9 u.kind).length+(32::u.label).length≤2^62))<|Kf 0<|a (Lib.repeatL [32,32] d++c9 u.kind++32::u.label) (by(refine⟨by first|simp_all|(rw[h2];rfl)|(rw[h3];rfl)|(rw[h0];rfl),?_⟩;grind):(Lib.repeatL [(32:UInt8),(32:UInt8)] d++c9 u.kind++(32:UInt8)::u.label=bif ak (af u.kind (0:Int))then Lib.repeatL [(32:UInt8),(32:UInt8)] d++c9 u.kind++([(32:UInt8)]++u.label)else Lib.repeatL [(32:UInt8),(32:UInt8)] d++c9 u.kind)∧(Lib.repeatL [(32:UInt8),(32:UInt8)] d++c9 u.kind++(32:UInt8)::u.label).length≤40)) fun _=>Mf<|a (Lib.repeatL [32,32] d++c9 u.kind) (by(refine⟨by first|simp_all|(rw[h2];rfl)|(rw[h3];rfl)|(rw[h0];rfl),?_⟩;grind):(Lib.repeatL [(32:UInt8),(32:UInt8)] d++c9 u.kind=bif ak (af u.kind (0:Int))then Lib.repeatL [(32:UInt8),(32:UInt8)] d++c9 u.kind++([(32:UInt8)]++u.label)else Lib.repeatL [(32:UInt8),(32:UInt8)] d++c9 u.kind)∧(Lib.repeatL [(32:UInt8),(32:UInt8)] d++c9 u.kind).length≤40)) fun a hz18=>have hz18:(a=bif ak (af u.kind (0:Int))then Lib.repeatL [(32:UInt8),(32:UInt8)] d++c9 u.kind++([(32:UInt8)]++u.label)else Lib.repeatL [(32:UInt8),(32:UInt8)] d++c9 u.kind)∧List.length a≤40:=hz18;Mj aR [2,5] (N5 u a) (N6 u a) (fun b=>Kl 2 26 (ln aQ u.head)<|Kb 0 (aF 0<|Int.ofNat u.head.length) (fun h3=>Kv 0 (jq (s:=a) (u:=[58]) (H:=ab q1) (by(first|first|assumption|((try simp only[lA,lC,lN]);omega)|(simp only[lA,lC,lN]at *;omega)):(a).length+([58]).length≤2^62))<|Kp 1 (hp1 (a++[58])<|by first|assumption|((try simp only[lA,lC,lN]);omega))<|Kf 0<|b (mV (a++[58]) u.head) (by(refine⟨by first|simp_all|(rw[h2];rfl)|(rw[h4];rfl)|(rw[h5];rfl),?_⟩;first|omega|(have q:=vd (fun w hw=>(hh2 w hw).2) (a++[58]);grind)):(mV (a++[(58:UInt8)]) u.head=bif aF (0:Int) (Int.ofNat u.head.length)then mV (a++[(58:UInt8)]) u.head else a)∧List.length (mV (a++[(58:UInt8)]) u.head)≤6700)) fun h3=>Mf<|b a (by(refine⟨by first|simp_all|(rw[h2];rfl)|(rw[h4];rfl)|(rw[h5];rfl),?_⟩;first|omega|(have q:=vd (fun w hw=>(hh2 w hw).2) (a++[58]);simp only[lA,lC,lN]at q;omega)):(a=bif aF (0:Int) (Int.ofNat u.head.length)then mV (a++[(58:UInt8)]) u.head else a)∧List.length a≤6700)) fun b hz27=>have hz27:(b=bif aF (0:Int) (Int.ofNat u.head.length)then mV (a++[(58:UInt8)]) u.head else a)∧List.length b≤6700:=hz27;Kl 2 35 (ln aQ u.words)<|Kb 0 (aF 0<|Int.ofNat u.words.length) (fun h4=>Kv 0 (jq (s:=b) (u:=[32,124]) (H:=ab q1) (by(first|first|assumption|((try simp only[lA,lC,lN]);omega)|(simp only[lA,lC,lN]at *;omega)):(b).length+([32,124]).length≤2^62))<|Kp 1 (hp2 (b++[32,124])<|by first|assumption|((try simp only[lA,lC,lN]);omega))<|Kf 2<|Le.str<|rr0<|mV (b++[32,124]) u.words) fun h4=>Kf 1<|Le.str<|rr0 b
theorem LC(u:TUnit)(d:Nat)(hd:d≤2^20)(h:sd u):kP 285 [eU u,nV d] (.str (gz u d)):=by
  grind[Xg,Xf]
noncomputable abbrev IU(ep n:Nat):AObj:=.row 1 false 0 [.slice 2 ep 0 n none]
noncomputable abbrev E3:AObj:=.row 1 false 0 [.func (.func 284) [] [.ptr 0 0 0 0,.ptr 1 0 0 0]]
noncomputable abbrev FG(ep:Nat)(l:List aR):AObj:=.row 1 true ep (l.map nQ)
def tJ(u:TUnit)(d:Nat)(l:List aR)(x0:Nat×List TUnit×Nat×Nat×List aR):Prop:=(u.kids).drop x0.1=x0.2.1∧x0.2.2.2.1=x0.2.2.2.2.length∧x0.2.2.2.2++dX (d+(1:Nat)) x0.2.1=l++[gz u d]++dX (d+(1:Nat)) u.kids∧x0.2.2.2.2.length+eJ x0.2.1≤2^20
noncomputable def tW(u:TUnit)(d:Nat)(l:List aR)(x0:Nat×List TUnit×Nat×Nat×List aR):List AV×List AObj:=([nV d,AV.ptr 1 0 0 0,AV.ls (u.kids.map aY),nV u.kids.length,nV x0.1],[AObj.row 1 false 0 [AV.slice 2 x0.2.2.1 0 x0.2.2.2.1 none],AObj.row 1 false 0 [AV.func (Fn.func 284) [] [AV.ptr 0 0 0 0,AV.ptr 1 0 0 0]],AObj.row 1 true x0.2.2.1 (x0.2.2.2.2.map nQ)])
theorem ZY:∀(u:TUnit)(d ep n:Nat)(l:List aR),n=l.length→l.length+nU u≤2^20→d+nU u≤2^20→(∀x,x∈bu u→sd x)→kC 284 [eU u,nV d,.ptr 0 0 0 0,.ptr 1 0 0 0] (ab [IU ep n,E3,FG ep l])
    (fun v h=>∃y:Nat×Nat×List aR,(y.2.1=y.2.2.length∧y.2.2=l++eY d u)∧v=.tuple []∧h=ab [IU y.1 y.2.1,E3,FG y.1 y.2.2]):=by
  refine TUnit.ind fun u ih d ep n l hn hl hd ht=>?_
  have hq:=jy u
  have hkl:=bg u
  have hf:=LC u d (by omega) (ht u (dU u))
  have ihk:∀k,k∈u.kids→∀(d ep n:Nat)(l:List aR),n=l.length→l.length+nU k≤2^20→d+nU k≤2^20→kC 284 [eU k,nV d,.ptr 0 0 0 0,.ptr 1 0 0 0] (ab [IU ep n,E3,FG ep l])
    (fun v h=>∃y:Nat×Nat×List aR,(y.2.1=y.2.2.length∧y.2.2=l++eY d k)∧v=.tuple []∧h=ab [IU y.1 y.2.1,E3,FG y.1 y.2.2]):=fun k hk d ep n l a b c=>ih k hk d ep n l a b c (fun x hx=>ht x (bC hk hx))
  exact qe Tryz.func284 fun e=>Kp 3 hf<|Mg 0<|Mw (.apx ((l++[gz u d]).map nQ)<|.go 3<|.le 16 (nV u.kids.length)<|.go 0<|.frz 3 [1,3,15,16,17]<|.loop (Nat×List TUnit×Nat×Nat×List aR) [1,3,15,16,17] (tW u d l) (tJ u d l) (fun e=>e.2.1.length) (0,u.kids,(ep+1,n+1,l++[gz u d])) fun e=>.cs TUnit e.2.1 (.go 0<|.ff .fin) fun f _=>.go 0<|.tt<|.elem (eU f)<|.go 6<|.le 24 (nV<|d+1)<|.frz 3 [1,3,15,16,17,21,22,24]<|.eff (Nat×Nat×List aR) (fun _=>eb []) (fun e=>ab [IU e.1 e.2.1,E3,FG e.1 e.2.2]) (fun g=>g.2.1=g.2.2.length∧g.2.2=e.2.2.2.2++eY (d+1) f) fun _=>.go 0<|.le 26 (nV<|e.1+1)<|.go 0 .fin)<|et9 rt (iY (tR 1 true ep 4<|aX JT l) rt) (et (kN _ _:([aV (gz u d)]:List AV)≠[]) rt) (et (ca (aK ep) (by first|assumption|omega|simp_all|(refine aO (m:=2^31) ?_ ?_ ?_<;>(try simp only[lM,lC,lN])<;>omega):n=(l.map nQ).length) (by first|assumption|omega|(simp only[lM];omega)|(refine aO (m:=2^31) ?_ ?_ ?_<;>(try simp only[lM,lC,lN])<;>omega):small (n+([AV.str (gz u d)]).length) 16=true))<|dZ (f:=nQ) (l:=l) (ws:=[gz u d])) (ln aY u.kids) (jd (tR 1 true (ep+1) 3<|aX JT<|l++[gz u d]) rt rt ti) (aK<|tW u d l (0,u.kids,(ep+1,n+1,l++[gz u d]))) (et (rfl:List.drop 0 (u.kids)=u.kids) (by first|rfl|(first|grind|(have h1:=hj0.2.1;have h2:=hj0.2.2;rw[bi]at h2;rw[my]at h1;exact⟨hy1.1,(by rw[hy1.2,←h1];simp),(by rw[hy1.2,lA,lX];omega)⟩)):(n+1=(l++[gz u d]).length∧l++[gz u d]++dX (d+1) u.kids=l++[gz u d]++dX (d+1) u.kids∧(l++[gz u d]).length+eJ u.kids≤2^20))) fun(f:Nat×List TUnit×Nat×Nat×List aR)(g:(tJ u d l) f)=>et (fun(i:f.2.1=[])=>have j:=eN g.1 i;have:=gu (J:=fun e f=>f.2.1=f.2.2.length∧f.2.2++dX (d+1) e=l++[gz u d]++dX (d+1) u.kids∧f.2.2.length+eJ e≤2^20) (a:=f.2.2) i g.2;et j<|e (f.2.2.1,f.2.2.2.1,f.2.2.2.2)<|by first|grind[xj,C9]|rfl) fun(e:TUnit)(i:List TUnit)(j:f.2.1=e::i)=>have o:=fY g.1 j;have:=ar o;have p:=(eM (enc:=aY) g.1 j).trans<|congrArg some<|aT e;have:=cj (J:=fun e f=>f.2.1=f.2.2.length∧f.2.2++dX (d+1) e=l++[gz u d]++dX (d+1) u.kids∧f.2.2.length+eJ e≤2^20) (a:=f.2.2) j g.2;have q:=bX g.1 j;have r:f.2.2.2.2.length+nU e≤2^20:=(by grind[bi]);have s:d+1+nU e≤2^20:=(by have:=io q;omega);yC o p (jk d) (jd (tR 1 true f.2.2.1 3<|aX JT f.2.2.2.2) rt rt ti) (ihk e q (d+1) f.2.2.1 f.2.2.2.1 f.2.2.2.2 (by first|assumption|omega|(simp only[lM];omega)|(refine aO (m:=2^31) ?_ ?_ ?_<;>(try simp only[lM,lC,lN])<;>omega)) r s) fun(o:Nat×Nat×List aR)(_:o.2.1=o.2.2.length∧o.2.2=f.2.2.2.2++eY (d+1) e)=>et (jk f.1)<|Nx.mk (I:=tJ u d l) (m:=fun e=>e.2.1.length) (S:=tW u d l) (x:=f) (f.1+1,i,(o.1,o.2.1,o.2.2)) (et (bW g.1 j) (by first|exact⟨by simp[hn],rfl,by simp;omega⟩|grind[bi,my,lX]:(o.2.1=o.2.2.length∧o.2.2++dX (d+1) i=l++[gz u d]++dX (d+1) u.kids∧o.2.2.length+eJ i≤2^20)))<|dK j
theorem ZU(u:TUnit)(d:Nat)(hl:nU u≤2^19)(hd:d+nU u≤2^20)(ht:∀x,x∈bu u→sd x):kC 284 [eU u,nV d,.ptr 0 0 0 0,.ptr 1 0 0 0] (ab [.row 1 false 0 [.nils],E3])
    (fun v h=>∃y:Nat×Nat×List aR,(y.2.1=y.2.2.length∧y.2.2=eY d u)∧v=.tuple []∧h=ab [IU y.1 y.2.1,E3,FG y.1 y.2.2]):=by
  have hq:=jy u
  have hkl:=bg u
  have hf:=LC u d (by omega) (ht u (dU u))
  have ihk:∀k,k∈u.kids→∀(d ep n:Nat)(l:List aR),n=l.length→l.length+nU k≤2^20→d+nU k≤2^20→kC 284 [eU k,nV d,.ptr 0 0 0 0,.ptr 1 0 0 0] (ab [IU ep n,E3,FG ep l])
    (fun v h=>∃y:Nat×Nat×List aR,(y.2.1=y.2.2.length∧y.2.2=l++eY d k)∧v=.tuple []∧h=ab [IU y.1 y.2.1,E3,FG y.1 y.2.2]):=fun k hk d ep n l a b c=>ZY k d ep n l a b c (fun x hx=>ht x (bC hk hx))
  exact qe Tryz.func284 fun e=>Kp 3 hf<|Kl 5 16 (ln aY u.kids)<|Mg 0<|M0 (.ren [0,1,3,2] [] [1,3,15,16,17])<|M1 (.frz 3 [1,3,15,16,17]) (jd rt rt rt ti)<|WZ aY u.kids (0:Nat) (1:Nat) ([gz u d]:List aR) [1,3,15,16,17] (fun e _ f g i=>([nV d,bj 1 0 0 0,aW<|u.kids.map aY,nV u.kids.length,nV e],[aZ 1 false 0 [aM 2 f 0 g none],aZ 1 false 0 [bx (bz 284) [] [bj 0 0 0 0,bj 1 0 0 0]],aZ 1 true f<|i.map nQ])) (fun e _ f g=>f=g.length∧g++dX (d+1) e=[gz u d]++dX (d+1) u.kids∧g.length+eJ e≤2^20) (by first|rfl|(first|grind|(have h1:=hj0.2.1;have h2:=hj0.2.2;rw[bi]at h2;rw[my]at h1;exact⟨hy1.1,(by rw[hy1.2,←h1];simp),(by rw[hy1.2,lA,lX];omega)⟩))) (fun _ _ f g i _ _ _ j _=>Kh 0 j<|Mf<|e (f,g,i)<|by first|grind[xj,C9]|rfl) fun e _ f g i j m o p q r s _ t _=>have t:=(t).trans<|congrArg some<|aT o;have:=cj (J:=fun e f=>f.2.1=f.2.2.length∧f.2.2++dX (d+1) e=[gz u d]++dX (d+1) u.kids∧f.2.2.length+eJ e≤2^20) (a:=(f,g,i)) r m;have j:=bX j r;have m:i.length+nU o≤2^20:=(by grind[bi]);have r:d+1+nU o≤2^20:=(by have:=io j;omega);Kt 0 s<|Mx t<|Kl 6 24 (jk d)<|M1 (.frz 3 [1,3,15,16,17,21,22,24]) (jd (tR 1 true f 3<|aX JT i) rt rt ti)<|Mq (ihk o j (d+1) f g i (by first|assumption|omega) m r) fun f _=>Kl 0 26 (jk e)<|Kf 0<|q f.1 f.2.1 f.2.2<|by first|exact⟨by simp[hl],rfl,by simp;omega⟩|grind[bi,my,lX]
theorem Xe(u:TUnit)(h:mD u)(hv:kT (cH u)=false):kP 258 [eU u] (.ls (([]:List aR).map nQ)):=by
  have h1:=DN u h
  have h2:=yj (cH u) (sG h)
  exact bG Tryz.func258<|Kp 2 h1<|Mp h2<|Kt 0 (ch hv)<|Kf 0 bM
theorem Xd(u:TUnit)(h:mD u)(hv:kT (cH u)=true):kP 258 [eU u] (.ls ((eY 0 u).map nQ)):=by
  have h1:=DN u h
  have h2:=yj (cH u) (sG h)
  have h3:=ZU u 0 h.1 (by have:=h.1;omega) h.2
  have rr0 b' (h:((eY 0 u).map nQ)=b':=by first|rfl|(rw[hy0.2])):=h;exact bG Tryz.func258<|Kp 2 h1<|Mp h2<|Kh 0 (cb hv)<|Mg 5<|M0 (.ren [1,2,0] [] [3,10,11])<|M1 (.frz 2 [3,10,11]) (ca rt rt ti)<|Mq h3 fun a hy0=>Mg 1<|M2 (.fsl 0 [] 2<|a.2.2.map nQ) ti (ca (aK a.1) (tA nQ a.2.2 a.2.1 (by first|assumption|omega:(a.2.2).length=a.2.1))<|aX JT a.2.2)<|Ml 2 (fm (a.2.2.map nQ) false<|aX JT a.2.2)<|Mf<|cQ<|rr0<|a.2.2.map nQ
theorem Zv(u:TUnit)(h:mD u)(hv:kT (cH u)=false):kP 234 [eU u] (.tuple [.str (x9 u).1,iV (x9 u).2]):=by
  have h1:=Xe u h hv
  have e:x9 u=([],1):=by unfold x9;simp_all
  rw[e]
  exact bG Tryz.func234<|Kp 3 h1<|Kf 6<|bh<|eb [aV [],iV 1]
theorem Zw(u:TUnit)(h:mD u)(hv:kT (cH u)=true):kP 234 [eU u] (.tuple [.str (x9 u).1,iV (x9 u).2]):=by
  have h1:=Xd u h hv
  have hlen:=lX 0 u
  have hq:=jy u
  have hm:=h.1
  have hjl:=Q7 (sep:=[10]) (B:=2^14) (l:=eY 0 u) (fun s hs=>Ac 0 u s hs)
  rw[hlen]at hjl
  have hj2:(Lib.join (eY 0 u) [10]).length≤140737488355328:=bR hjl (bR (eu _ hm) (by grind))
  have hj3:(Lib.join (eY 0 u) [10]).length≤2^40:=bR hjl (bR (eu _ hm) (by grind))
  have hj:=UE (eY 0 u) [10] (by omega) hj2
  have hz:af (.ofNat (eY 0 u).length) 0=false:=by grind[SJ]
  have e:x9 u=(bif aF 16384 (.ofNat (Lib.join (eY 0 u) [10]++[10]).length)then([],6)else(Lib.join (eY 0 u) [10]++[10],0)):=by unfold x9;simp_all
  rw[e]
  clear e
  generalize Lib.join (eY 0 u) [10]=J at *
  cases hb:aF 16384 (.ofNat (J++[10]).length)
  · have hb2:aF 16384 (.ofNat (J++[10]).length)=false:=hb
    exact bG Tryz.func234<|Kp 3 h1<|Kl 2 9 (ln nQ<|eY 0 u)<|Kh 0 hz<|Kp 0 hj<|Mv (jq (s:=J) (u:=[10]) (H:=ab [aZ 8 false 0 [ax [iV u.act,iV u.item,iV u.n,iV u.kind,aV u.label,aW<|u.head.map aQ,aW<|u.words.map aQ,aW<|u.kids.map aY]]]) (by(first|first|assumption|grind|omega|(simp only[lA,lC,lN]at *;omega)):(J).length+([10]).length≤2^62))<|Kh 3 hb<|Kf 2<|bh<|eb [aV<|J++[10],iV 0]
  · have hb2:aF 16384 (.ofNat (J++[10]).length)=true:=hb
    exact bG Tryz.func234<|Kp 3 h1<|Kl 2 9 (ln nQ<|eY 0 u)<|Kh 0 hz<|Kp 0 hj<|Mv (jq (s:=J) (u:=[10]) (H:=ab [aZ 8 false 0 [ax [iV u.act,iV u.item,iV u.n,iV u.kind,aV u.label,aW<|u.head.map aQ,aW<|u.words.map aQ,aW<|u.kids.map aY]]]) (by(first|first|assumption|grind|omega|(simp only[lA,lC,lN]at *;omega)):(J).length+([10]).length≤2^62))<|Kt 3 hb<|Kf 1<|bh<|eb [aV [],iV 6]
theorem XL(u:TUnit)(h:mD u):kP 234 [eU u] (.tuple [.str (x9 u).1,iV (x9 u).2]):=by
  grind[Zv,Zw]
def Xo(u:TUnit):Bool:=Ik u&&(ak (af u.kind 0)&&af (x9 u).2 0)
theorem Xn(u:TUnit)(h:mD u):kP 177 [eU u] (.bool (Xo u)):=by
  have q1:=XL u h
  have q2:=Ye u h
  have rr0 b' (h:(Xo u)=b':=by first|rfl|(unfold Xo;rw[h0];rfl)|(unfold Xo;rw[h0,h1];rfl)|(unfold Xo;rw[h0,h1,h2];rfl)):=h;exact bG Tryz.func177<|Kp 2 q1<|Kp 5 q2<|Kb 0 (Ik u) (fun h0=>Kt 0 h0<|Kt 0 h0<|Ku 0 h0<|Kn 0 (af u.kind 0) (fun h1=>Kt 0 (ch h1)<|Ku 0 (ch h1)<|Kf 0<|cA<|rr0<|af (x9 u).2 0) fun h1=>Mh (cb h1)<|My (cb h1)<|Ky 0<|rr0 false) fun h0=>Mh h0<|Mh h0<|My h0<|Ky 2<|rr0 false
/-- What an item must be, so that the walks can count. -/
def yi(x:PItem):Prop:=nq x∧(x.at_.length<2^40∧∀s,s∈x.at_→s.label.length≤2^39)∧(x.to.length<2^40∧∀s,s∈x.to→s.label.length≤2^39)∧(x.old.length<2^40∧∀s,s∈x.old→s.length≤2^39)∧(x.new.length<2^40∧∀s,s∈x.new→s.length≤2^39)∧x.label.length≤2^39∧x.for_.length≤2^39∧x.start.event.length≤2^39∧mD x.unit
/-- What a valid item is known to be. -/
def AA(x:PItem):Prop:=(x.kind=0∨x.kind=6→iH x.where_=true)∧(x.kind=0→Xo x.unit=true)∧(x.kind=2∨x.kind=3→qp x.old=true∧B9 x.nth_=true)∧(x.kind=2∨x.kind=3∨x.kind=4→qp x.new=true)
theorem qn{l:List aR}{n:Int}(h:qo l n=true):qp l=true:=by
  simp_all[qo]
theorem WG(x:PItem)(hx:yi x)(h0:0≤x.kind)(h6:x.kind≤6):∃b,kP 106 [eI x] (.bool b)∧(b=true→AA x):=by
  obtain⟨k,a,t,w,n,u,o,ne,l,f,s,ac,im,d,e,bs⟩:=x
  obtain⟨hf,⟨ha,has⟩,⟨ht,hts⟩,⟨ho,hos⟩,⟨hn,hns⟩,hl,hfo,hse,hu⟩:=hx
  have hz:qT bf:=⟨by grind,by grind,by grind,trivial⟩
  have n0:(0:Nat)<2^60:=by omega
  obtain⟨f1,f2,f3,f4,f5,f6,f7⟩:=hf
  have hff:∀k w n,nq ⟨k,a,t,w,n,u,o,ne,l,f,s,ac,im,d,e,bs⟩:=fun _ _ _=>⟨f1,f2,f3,f4,f5,f6,f7⟩
  have h0:0≤k:=h0
  have h6:k≤6:=h6
  have hk:k=0∨k=1∨k=2∨k=3∨k=4∨k=5∨k=6:=by omega
  rcases hk with rfl|rfl|rfl|rfl|rfl|rfl|rfl
  · refine⟨_,o4 ⟨0,a,t,w,n,u,o,ne,l,f,s,ac,im,d,e,bs⟩ (n5 ⟨0,a,t,w,n,u,o,ne,l,f,s,ac,im,d,e,bs⟩ 0) 174 175 _ _ rfl rfl (Vs _) (tU _ (hff _ _ _) (xf ⟨0,a,t,w,n,u,o,ne,l,f,s,ac,im,d,e,bs⟩ (n5 ⟨0,a,t,w,n,u,o,ne,l,f,s,ac,im,d,e,bs⟩ 0)) ⟨f1,n0,n0,n0,n0,f6,trivial⟩) (Uo a t w n u o ne l f s ac im d e bs (Xo u) (Xn u hu)) ha has hfo hse,fun h=>?_⟩
    simp only[bq]at h
    exact⟨fun _=>h.2.2.2.2.1,fun _=>h.2.2.2.2.2,fun q=>(by rcases q with q|q<;>cases q),fun q=>(by rcases q with q|q|q<;>cases q)⟩
  · refine⟨_,o4 ⟨1,a,t,w,n,u,o,ne,l,f,s,ac,im,d,e,bs⟩ (n5 ⟨1,a,t,w,n,u,o,ne,l,f,s,ac,im,d,e,bs⟩ 1) 178 179 _ _ rfl rfl (Vr _) (tU _ (hff _ _ _) (xf ⟨1,a,t,w,n,u,o,ne,l,f,s,ac,im,d,e,bs⟩ (n5 ⟨1,a,t,w,n,u,o,ne,l,f,s,ac,im,d,e,bs⟩ 1)) ⟨f1,n0,n0,n0,n0,hz,trivial⟩) (Un a t w n u o ne l f s ac im d e bs) ha has hfo hse,fun h=>?_⟩
    exact⟨fun q=>(by rcases q with q|q<;>cases q),fun q=>(by cases q),fun q=>(by rcases q with q|q<;>cases q),fun q=>(by rcases q with q|q|q<;>cases q)⟩
  · refine⟨_,o4 ⟨2,a,t,w,n,u,o,ne,l,f,s,ac,im,d,e,bs⟩ (n5 ⟨2,a,t,w,n,u,o,ne,l,f,s,ac,im,d,e,bs⟩ 2) 180 181 _ _ rfl rfl (Vp _) (tU _ (hff _ _ _) (xf ⟨2,a,t,w,n,u,o,ne,l,f,s,ac,im,d,e,bs⟩ (n5 ⟨2,a,t,w,n,u,o,ne,l,f,s,ac,im,d,e,bs⟩ 2)) ⟨f1,n0,f3,f4,n0,hz,trivial⟩) (Um a t w n u o ne l f s ac im d e bs ho hn hos hns) ha has hfo hse,fun h=>?_⟩
    simp only[bq]at h
    exact⟨fun q=>(by rcases q with q|q<;>cases q),fun q=>(by cases q),fun _=>⟨qn h.2.2.2.2.1,h.2.2.2.2.2.2⟩,fun _=>qn h.2.2.2.2.2.1⟩
  · refine⟨_,o4 ⟨3,a,t,w,n,u,o,ne,l,f,s,ac,im,d,e,bs⟩ (n5 ⟨3,a,t,w,n,u,o,ne,l,f,s,ac,im,d,e,bs⟩ 3) 184 185 _ _ rfl rfl (Vo _) (tU _ (hff _ _ _) (xf ⟨3,a,t,w,n,u,o,ne,l,f,s,ac,im,d,e,bs⟩ (n5 ⟨3,a,t,w,n,u,o,ne,l,f,s,ac,im,d,e,bs⟩ 3)) ⟨f1,n0,f3,f4,n0,hz,trivial⟩) (Ul a t w n u o ne l f s ac im d e bs ho hn hos hns) ha has hfo hse,fun h=>?_⟩
    simp only[bq]at h
    exact⟨fun q=>(by rcases q with q|q<;>cases q),fun q=>(by cases q),fun _=>⟨qn h.2.2.2.2.1,h.2.2.2.2.2.2.1⟩,fun _=>qn h.2.2.2.2.2.1⟩
  · refine⟨_,o4 ⟨4,a,t,w,n,u,o,ne,l,f,s,ac,im,d,e,bs⟩ (n5 ⟨4,a,t,w,n,u,o,ne,l,f,s,ac,im,d,e,bs⟩ 4) 186 187 _ _ rfl rfl (Vn _) (tU _ (hff _ _ _) (xf ⟨4,a,t,w,n,u,o,ne,l,f,s,ac,im,d,e,bs⟩ (n5 ⟨4,a,t,w,n,u,o,ne,l,f,s,ac,im,d,e,bs⟩ 4)) ⟨f1,n0,n0,f4,n0,hz,trivial⟩) (Ui a t w n u o ne l f s ac im d e bs hn hns) ha has hfo hse,fun h=>?_⟩
    simp only[bq]at h
    exact⟨fun q=>(by rcases q with q|q<;>cases q),fun q=>(by cases q),fun q=>(by rcases q with q|q<;>cases q),fun _=>qn h.2.2.2.2⟩
  · refine⟨_,o4 ⟨5,a,t,w,n,u,o,ne,l,f,s,ac,im,d,e,bs⟩ (n5 ⟨5,a,t,w,n,u,o,ne,l,f,s,ac,im,d,e,bs⟩ 5) 188 189 _ _ rfl rfl (Vm _) (tU _ (hff _ _ _) (xf ⟨5,a,t,w,n,u,o,ne,l,f,s,ac,im,d,e,bs⟩ (n5 ⟨5,a,t,w,n,u,o,ne,l,f,s,ac,im,d,e,bs⟩ 5)) ⟨f1,n0,n0,n0,n0,hz,trivial⟩) (Uh a t w n u o ne l f s ac im d e bs hl) ha has hfo hse,fun h=>?_⟩
    exact⟨fun q=>(by rcases q with q|q<;>cases q),fun q=>(by cases q),fun q=>(by rcases q with q|q<;>cases q),fun q=>(by rcases q with q|q|q<;>cases q)⟩
  · refine⟨_,o4 ⟨6,a,t,w,n,u,o,ne,l,f,s,ac,im,d,e,bs⟩ (n5 ⟨6,a,t,w,n,u,o,ne,l,f,s,ac,im,d,e,bs⟩ 6) 191 192 _ _ rfl rfl (Vl _) (tU _ (hff _ _ _) (xf ⟨6,a,t,w,n,u,o,ne,l,f,s,ac,im,d,e,bs⟩ (n5 ⟨6,a,t,w,n,u,o,ne,l,f,s,ac,im,d,e,bs⟩ 6)) ⟨f1,f2,n0,n0,n0,hz,trivial⟩) (Ug a t w n u o ne l f s ac im d e bs ht hts) ha has hfo hse,fun h=>?_⟩
    simp only[bq]at h
    exact⟨fun _=>h.2.2.2.2.1,fun q=>(by cases q),fun q=>(by rcases q with q|q<;>cases q),fun q=>(by rcases q with q|q|q<;>cases q)⟩
theorem xU{u:TUnit}(h:OkB u):∀x,x∈bu u→x.head.length<2^30∧x.words.length<2^30:=fun x hx=>⟨ny (h.w x hx).1 (by omega),ny (h.w x hx).2 (by omega)⟩
theorem EW(p:PId)(u:TUnit)(hn:nU u≤1024): -1≤qu p u∧qu p u≤2^20:=by
  cases h:iq p u with
  |false=>rw[Qb h];omega
  | true=>
    obtain⟨q,i,h1,_,h3,h4,_⟩:=vR u h
    have:=dN h1
    grind[bg]
theorem yt(w:Int)(u:TUnit)(p:PId)(hn:nU u≤1024): -1≤(dw w u p).1.at_∧(dw w u p).1.at_≤2^41:=by
  have hb:=EW p u hn
  have key:∀n:Int,0≤n→n≤1→ -1≤(nF u p n).1.at_∧(nF u p n).1.at_≤2^41:=fun n h0 h1=>by
    unfold nF
    cases iq p u
    · exact⟨by show(-1:Int)≤0;omega,by show(0:Int)≤_;omega⟩
    grind
  unfold dw
  cases af w 0
  · cases af w 1
    · grind
    · show -1≤Int.ofNat _∧Int.ofNat _≤2^41
      have:(ee p u).kids.length≤1024:=by
        cases h:cV p u with
        | true=>
          have:=dN (vO h).1
          grind[bg]
        |false=>unfold ee;rw[h];exact bL _
      grind
  simp_all
theorem wj{u:TUnit}(hu:OkB u)(p:PId):kP 62 [eU u,aU p] (.tuple [eU (ee p u),.bool (cV p u)]):=RN p u (bR hu.n (by omega)) (xU hu)
theorem kx{u:TUnit}(hu:OkB u)(p:PId):kP 171 [eU u,aU p] (.tuple [aU (sT p u),iV (qu p u),.bool (iq p u)]):=Qv p u (bR hu.n (by omega))
theorem xY{u:TUnit}(hu:OkB u)(p:List PStep)(hp:p.length<2^40∧∀s,s∈p→s.label.length≤2^39):kP 107 [eU u,.ls (p.map aj)] (.tuple [aU (aH u p).1,iV (aH u p).2]):=
  Oq u p (VK u p (bR hu.n (by omega)) hp.1 hp.2) (bR hu.n (by omega))
theorem LI{u:TUnit}(hu:OkB u)(p:PId):kP 273 [eU u,aU p] (.tuple [fk (dw 0 u p).1,iV (dw 0 u p).2]):=Q4 u _ p _ (wj hu p)
theorem LH{u:TUnit}(hu:OkB u)(p:PId):kP 276 [eU u,aU p] (.tuple [fk (dw 1 u p).1,iV (dw 1 u p).2]):=Q3 u _ p _ (wj hu p)
theorem LG{u:TUnit}(hu:OkB u)(p:PId):kP 278 [eU u,aU p] (.tuple [fk (dw 2 u p).1,iV (dw 2 u p).2]):=Q2 u p _ _ _ (kx hu p) (by have:=EW p u hu.n;omega)
theorem LF{u:TUnit}(hu:OkB u)(p:PId):kP 280 [eU u,aU p] (.tuple [fk (dw 3 u p).1,iV (dw 3 u p).2]):=Q1 u p _ _ _ (kx hu p) (by have:=EW p u hu.n;omega)
theorem wI{w:Int}(h:iH w=true):w=0∨w=1∨w=2∨w=3:=by
  unfold iH at h
  rw[bq]at h
  have h1:=gC h.1
  have h2:=gC h.2
  omega
/-- Where a unit is inserted. -/
theorem UW{u:TUnit}(hu:OkB u)(p:List PStep)(hp:p.length<2^40∧∀s,s∈p→s.label.length≤2^39)(w:Int)(hw:iH w=true):kP 210 [eU u,.ls (p.map aj),iV w]
    (.tuple [aU (CF (aH u p).2 (dw w u (aH u p).1).1 (dw w u (aH u p).1).2).1.id,iV (CF (aH u p).2 (dw w u (aH u p).1).1 (dw w u (aH u p).1).2).1.at_,iV (CF (aH u p).2 (dw w u (aH u p).1).1 (dw w u (aH u p).1).2).2]):=by
  rcases wI hw with rfl|rfl|rfl|rfl
  · exact rp 0 _ rfl rfl u p _ _ _ _ (xY hu p hp) (LI hu _)
  · exact rp 1 _ rfl rfl u p _ _ _ _ (xY hu p hp) (LH hu _)
  · exact rp 2 _ rfl rfl u p _ _ _ _ (xY hu p hp) (LG hu _)
  · exact rp 3 _ rfl rfl u p _ _ _ _ (xY hu p hp) (LF hu _)
theorem XE{u:TUnit}(hu:OkB u)(p q:PId)(w:Int)(hw:iH w=true):∃bs,kP 212 [eU u,aU p,aU q,iV w]
    (.tuple [fk (n4 p q (sT p u) (qu p u) (iq p u) ((qW q u).any (bB p)) bs (dw w u q).1 (dw w u q).2).1,iV (n4 p q (sT p u) (qu p u) (iq p u) ((qW q u).any (bB p)) bs (dw w u q).1 (dw w u q).2).2]):=by
  have hb:=EW p u hu.n
  have hb: -1≤qu p u∧qu p u≤2^40:=by omega
  have hn:nU u≤2^20:=bR hu.n (by omega)
  have hal:(qW q u).length<2^40:=by
    grind[mz,qW]
  have hC:=MG (qW q u) p hal
  rcases wI hw with rfl|rfl|rfl|rfl
  · exact⟨_,HV 0 _ rfl rfl rfl u p q _ _ _ _ _ _ _ hb (yt 0 u q hu.n) (kx hu p) (Ib q u hn) hC (LI hu q)⟩
  · exact⟨_,HV 1 _ rfl rfl rfl u p q _ _ _ _ _ _ _ hb (yt 1 u q hu.n) (kx hu p) (Ib q u hn) hC (LH hu q)⟩
  · exact⟨_,Rn u p q _ _ _ _ _ _ _ hb (yt 2 u q hu.n) (kx hu p) (Ib q u hn) hC (LG hu q)⟩
  · exact⟨_,Rm u p q _ _ _ _ _ _ _ hb (yt 3 u q hu.n) (kx hu p) (Ib q u hn) hC (LF hu q)⟩
theorem Hy{B:Nat}:∀{l:List TUnit},(∀x,x∈l→(nb x).length≤B)→(l.flatMap nb).length≤B*l.length
  |[],_=>bL _
  | x::r,h=>by
    have h1:=h x dI
    have h2:=Hy (l:=r) fun y hy=>h y (eW _ hy)
    rw[Cj,lA,lC,Nat.mul_succ];omega
theorem PI{u:TUnit}(h:mD u):(nJ u).length≤2^29:=by
  rw[TK]
  have h1:∀x,x∈bu u→(nb x).length≤600:=fun x hx=>by
    obtain⟨a,b,_⟩:=h.2 x hx
    unfold nb;rw[lA];omega
  have h2:=Hy h1
  have h3:(bu u).length=nU u:=by rw[mX];unfold dz;rw[lM]
  rw[h3]at h2
  have:=h.1
  omega
theorem YT{e:Int}{sp:PSpot}{e2:Int}(h:(CF e sp e2).2=0):e=0∧e2=0∧(CF e sp e2).1=sp:=by
  unfold CF at h ⊢
  cases h1:af e 0 with
  |false=>rw[h1]at h;rw[show e=0 from h]at h1;cases h1
  | true=>
    rw[h1]at h
    cases h2:af e2 0 with
    |false=>rw[h2]at h;rw[show e2=0 from h]at h2;cases h2
    |true=>exact⟨fL h1,fL h2,rfl⟩
theorem UL{u u2:TUnit}{te:Int}{full cf:Bool}:(OZ u te full cf u2).1=u∨(full=false∧cf=false∧(OZ u te full cf u2).1=u2):=by
  unfold OZ;cases af te 0<;>cases full<;>cases cf<;>first|exact .inl rfl|exact .inr ⟨rfl,rfl,rfl⟩
/-- What an outcome is known to be. -/
def Bk(u:TUnit)(d:PDeed)(v:TUnit):Prop:=OkB v∧Rt u v
theorem Bk.refl{u:TUnit}(hu:OkB u){d:PDeed}:Bk u d u:=⟨hu,rfl⟩
/-- An insertion has an outcome. -/
theorem Wg{u:TUnit}(hu:OkB u)(f:TUnit)(d:PDeed)(hd:yi d.it)(hg:AA d.it)(hk:d.it.kind=0):∃r:qJ,kP 128 [eU u,eU f,aq d] (eF r)∧Bk u d r.1:=by
  have hw:=hg.1 (.inl hk)
  have hD:=Sj u d.it _ _ _ (by rw[hk];rfl) (UW hu d.it.at_ hd.2.1 d.it.where_ hw)
  cases he:af (CF (aH u d.it.at_).2 (dw d.it.where_ u (aH u d.it.at_).1).1 (dw d.it.where_ u (aH u d.it.at_).1).2).2 0 with
  |false=>exact⟨(u,_),UN u f d _ _ _ he hD,.refl hu⟩
  | true=>
    have e0:=fL he
    obtain⟨e1,e2,e3⟩:=YT e0
    obtain⟨n,n1,n2,n3⟩:=GF hu (rX e1) e2
    rw[e0,e3,n1]at hD
    have ht:=hd.2.2.2.2.2.2.2.2
    have hS:=PR d.act d.item d.it.unit (bR ht.1 (by decide)) (PI ht) (fun x hx=>⟨bR (ht.2 x hx).1 (by decide),bR (ht.2 x hx).2.1 (by decide)⟩)
    have hsn:=PS d.act d.item d.it.unit 0 0
    have hsi:=vA d.act d.item d.it.unit 0 0
    have hsw:=K4 d.act d.item 300 d.it.unit 0 0 (fun x hx=>⟨(ht.2 x hx).1,(ht.2 x hx).2.1⟩)
    generalize cS d.act d.item d.it.unit 0 0=X at *
    have hn:=hu.n
    have hm:=ht.1
    have hX:nU X≤2^19:=by omega
    have hkp:(ee (dw d.it.where_ u (aH u d.it.at_).1).1.id u).kids.length<2^40:=by
      cases h:cV (dw d.it.where_ u (aH u d.it.at_).1).1.id u with
      |true=>have:=dN (vO h).1;have:=bg (ee (dw d.it.where_ u (aH u d.it.at_).1).1.id u);omega
      |false=>unfold ee;rw[h];exact ny (bL 0) (by decide)
    have hiu:(dz u).length<2^40:=by rw[←mX];omega
    have hix:(dz X).length<2^40:=by rw[←mX];omega
    refine⟨_,UG u f _ X _ d _ n (nU u) (nU X) _ _ _ _ (dz u) (dz X) (by omega) (by omega) hD (wj hu _) hS (zq _ X hkp) (Mu u X _ (by omega) (by omega)) (EM u (by omega)) (EM X (by omega)) (Rb u (by omega)) (Rb X (by omega)) (cfX (dz X) (dz u) hiu hix) (Pe _ n X u (by omega) (xU hu) n3),?_⟩
    rcases UL (u:=u) (u2:=dW (dw d.it.where_ u (aH u d.it.at_).1).1.id (du n X) u) (te:=zz (ee (dw d.it.where_ u (aH u d.it.at_).1).1.id u) X) (full:=ak (aF (Int.ofNat (ee (dw d.it.where_ u (aH u d.it.at_).1).1.id u).kids.length) 64)||(Sd u (dw d.it.where_ u (aH u d.it.at_).1).1.id X||aF 1024 (Int.ofNat (nU u+nU X)))) (cf:=(dz X).any fun i=>(dz u).any (bB i))with q|⟨q1,q2,q3⟩
    · rw[q];exact .refl hu
    · rw[q3]
      rw[wC,wC]at q1
      have q4:=aG q1.2.2
      simp only[oN]at q4
      refine⟨hu.ins (by rw[hsi];exact P0 _ _ _ _) (fun p hp hq=>?_) (by omega) hsw,Lq (f:=du n X) (fun _=>rfl) u⟩
      rw[y7]at q2
      have:=q2 p hp
      exact this (List.any_eq_true.2 ⟨p,hq,lJ p⟩)
/-- A unit is taken away. -/
theorem Ww{u:TUnit}(hu:OkB u){p:PId}(hp:iq p u=true):∃q i,q∈bu u∧sT p u=bw q∧qu p u=Int.ofNat i∧i<q.kids.length∧bw (gD q.kids i)=p∧kP 164 [eU u,aU p] (eU (dW (bw q) (gI i) u)):=by
  obtain⟨q,i,h1,h2,h3,h4,h5⟩:=vR u hp
  have hP:=kx hu p
  rw[h2,h3,hp]at hP
  exact⟨q,i,h1,h2,h3,h4,h5,y9 u _ p _ i hP (Ph (bw q) i u (bR hu.n (by decide)) (xU hu) fun v hv hid=>by rw[hu.uni hv h1 ((gE _ v).1 hid)];exact h4)⟩
theorem YM{u x:TUnit}(hu:OkB u)(d:PDeed)(hp:iq (bw x) u=true):∃r:qJ,kP 129 [eU u,eU x,aq d] (eF r)∧Bk u d r.1:=by
  obtain⟨q,i,h1,h2,h3,h4,h5,h6⟩:=Ww hu hp
  exact⟨_,T1 u x _ d h6,(hu.del h1 h4).1,Lq (f:=gI i) (fun _=>rfl) u⟩
theorem EQ(l:List PWord):(vN l).length≤256:=by
  unfold vN
  cases h:aF 256 (Int.ofNat l.length)with
  |true=>exact bL _
  |false=>have:=aG h;simp only[oN]at this;show l.length≤256;omega
theorem QX(a b:Int)(w:List PWord)(old new:List aR)(n:Int):(GJ a b w old new n).1.length≤256:=by
  unfold GJ
  cases af (Int.ofNat old.length) 0
  · cases af (Int.ofNat (nS (uc (b8 w) old) n).length) 0
    · exact EQ _
    · exact bL _
  · exact bL _
theorem UH(a b:Int)(w:List PWord)(part new:List aR)(n:Int):(Ei a b w part new n).1.length≤256:=by
  unfold Ei
  cases(af (Int.ofNat new.length) 0||(af (Int.ofNat part.length) 0&&ak (af n 0)))
  · cases af (Int.ofNat part.length) 0
    · cases af (Int.ofNat (nS (uc (b8 w) part) n).length) 0
      · exact EQ _
      · exact bL _
    · exact EQ _
  · exact bL _
theorem uW{l:List aR}(h:qp l=true):l.length≤256:=by
  unfold qp at h
  rw[bq]at h
  have:=gC h.1
  simp only[oN]at this
  omega
theorem Lm{n:Int}(h:B9 n=true):0≤n∧n≤256:=by
  unfold B9 at h
  rw[bq]at h
  exact⟨gC h.1,gC h.2⟩
theorem CP{u:TUnit}(hu:OkB u)(q:PId){l:List PWord}(hl:l.length≤300):OkB (dW q (mq l) u):=hu.keep (fun _=>⟨rfl,rfl⟩) fun v hv=>⟨(hu.w v hv).1,hl⟩
theorem Qt{u:TUnit}(hu:OkB u)(q:PId){l:List PWord}(hl:l.length≤300):OkB (dW q (Ar l) u):=hu.keep (fun _=>⟨rfl,rfl⟩) fun v hv=>⟨hl,(hu.w v hv).2⟩
theorem NR{u:TUnit}(hu:OkB u)(q:PId)(s:aR):OkB (dW q (pb s) u):=hu.keep (fun _=>⟨rfl,rfl⟩) fun v hv=>hu.w v hv
theorem KE{u u2:TUnit}{d:PDeed}{e:Int}(h:OkB u)(h2:Bk u d u2):Bk u d (Fi u e u2).1:=by
  have h:=Bk.refl h (d:=d)
  unfold Fi;cases af e 0;exact h;exact h2
theorem Yu{u x:TUnit}(hu:OkB u)(hx:x∈bu u)(hp:iq (bw x) u=true)(d:PDeed)(hg:AA d.it)(hk:d.it.kind=2):∃r:qJ,kP 130 [eU u,eU x,aq d] (eF r)∧Bk u d r.1:=by
  obtain⟨h1,h2⟩:=hg.2.2.1 (.inl hk)
  have h3:=uW h1
  have h4:=uW (hg.2.2.2 (.inl hk))
  obtain⟨h5,h6⟩:=Lm h2
  have h7:=(hu.w x hx).2
  have hR:=T0 d.act d.item x.words d.it.old d.it.new d.it.nth_ (by omega) (by omega) (by omega) h5 (by omega) (iO h5)
  exact⟨_,Td u x _ d _ _ hR (Py (bw x) _ u (bR hu.n (by decide)) (xU hu)),KE hu ⟨CP hu _ (bR (QX ..) (by decide)),LU hp⟩⟩
theorem YR{u x:TUnit}(hu:OkB u)(hx:x∈bu u)(hp:iq (bw x) u=true)(d:PDeed)(hg:AA d.it)(hk:d.it.kind=3):∃r:qJ,kP 131 [eU u,eU x,aq d] (eF r)∧Bk u d r.1:=by
  obtain⟨h1,h2⟩:=hg.2.2.1 (.inr hk)
  have h3:=uW h1
  have h4:=uW (hg.2.2.2 (.inr (.inl hk)))
  obtain⟨h5,h6⟩:=Lm h2
  have h7:=(hu.w x hx).2
  have hR:=Zq d.act d.item x.words d.it.old d.it.new d.it.nth_ (by omega) (by omega) (by omega) h5 (by omega)
  exact⟨_,T8 u x _ d _ _ hR (Pb (bw x) _ u (bR hu.n (by decide)) (xU hu)),KE hu ⟨CP hu _ (bR (UH ..) (by decide)),LU hp⟩⟩
theorem Zj{u x:TUnit}(hu:OkB u)(hp:iq (bw x) u=true)(d:PDeed)(hg:AA d.it)(hk:d.it.kind=4):∃r:qJ,kP 132 [eU u,eU x,aq d] (eF r)∧Bk u d r.1:=by
  have h4:=uW (hg.2.2.2 (.inr (.inr hk)))
  have hM:=yo d.it.new d.act d.item 0 (by omega) (by decide)
  exact⟨_,U5 u x _ d _ hM (Pg (bw x) _ u (bR hu.n (by decide)) (xU hu)),Qt hu _ (by rw[gX];omega),LU hp⟩
theorem Wc{u:TUnit}(hu:OkB u)(p:PId):(ee p u).kids.length<2^40:=by
  have hn:=hu.n
  cases h:cV p u with
  |true=>have:=dN (vO h).1;have:=bg (ee p u);omega
  |false=>unfold ee;rw[h];exact ny (bL 0) (by decide)
theorem YO{u x:TUnit}(hu:OkB u)(hp:iq (bw x) u=true)(d:PDeed):∃r:qJ,kP 133 [eU u,eU x,aq d] (eF r)∧Bk u d r.1:=by
  refine⟨_,T3 u x _ _ d _ _ _ _ _ (kx hu (bw x)) (wj hu _) (zq _ _ (Wc hu _)) (Pa (bw x) d u (bR hu.n (by decide)) (xU hu)),?_⟩
  unfold T4
  cases af (zz (ee (sT (bw x) u) u) (pb d.it.label x)) 10
  · exact⟨NR hu _ _,LU hp⟩
  · exact .refl hu
theorem Ua{u u2:TUnit}{d:PDeed}{te:Int}{full:Bool}(h:OkB u)(h2:Bk u d u2):Bk u d (QM u te full u2).1:=by
  have h:=Bk.refl h (d:=d)
  unfold QM;cases af te 0<;>cases full<;>first|exact h|exact h2
theorem Zc{e2 e3:Int}{sp:PSpot}(h:(HN 0 e2 sp e3).2=0):e2=0∧e3=0∧(HN 0 e2 sp e3).1=sp:=by
  unfold HN at h ⊢
  rw[show af 0 0=true from rfl]at h ⊢
  simp only[cond_true]at h ⊢
  cases h1:af e2 0 with
  |false=>rw[h1]at h;rw[show e2=0 from h]at h1;cases h1
  | true=>
    rw[h1]at h
    cases h2:af e3 0 with
    |false=>rw[h2]at h;rw[show e3=0 from h]at h2;cases h2
    |true=>exact⟨fL h1,fL h2,rfl⟩
/-- A move has an outcome. -/
theorem ZZ{u x:TUnit}(hu:OkB u)(hx:x∈bu u)(d:PDeed)(hd:yi d.it)(hg:AA d.it)(hk:d.it.kind=6)(h0:(aH u d.it.at_).2=0)(hid:(aH u d.it.at_).1=bw x)(hp:iq (bw x) u=true):∃r:qJ,kP 134 [eU u,eU x,aq d] (eF r)∧Bk u d r.1:=by
  have hw:=hg.1 (.inr hk)
  have hF:=xY hu d.it.at_ hd.2.1
  rw[h0,hid]at hF
  obtain⟨bs,hG⟩:=XE hu (bw x) (aH u d.it.to).1 d.it.where_ hw
  obtain⟨q,i,h1,h2,h3,h4,h5,h6⟩:=Ww hu hp
  have hD:=Sx u d.it _ _ _ _ _ _ (by rw[hk];rfl) (by rw[hk];rfl) hw hF (xY hu d.it.to hd.2.2.1) hG
  rw[h2,h3,hp]at hD
  cases he:af (HN 0 (aH u d.it.to).2 (n4 (bw x) (aH u d.it.to).1 (bw q) (Int.ofNat i) true ((qW (aH u d.it.to).1 u).any (bB (bw x))) bs (dw d.it.where_ u (aH u d.it.to).1).1 (dw d.it.where_ u (aH u d.it.to).1).2).1 (n4 (bw x) (aH u d.it.to).1 (bw q) (Int.ofNat i) true ((qW (aH u d.it.to).1 u).any (bB (bw x))) bs (dw d.it.where_ u (aH u d.it.to).1).1 (dw d.it.where_ u (aH u d.it.to).1).2).2).2 0 with
  |false=>exact⟨(u,_),Ub u x d _ _ _ he hD,.refl hu⟩
  | true=>
    have e0:=fL he
    obtain⟨e1,e2,e3⟩:=Zc e0
    obtain⟨n,n1,n2,n3⟩:=Rl hu h1 h4 (rX e1) e2
    rw[e0,e3,n1]at hD
    obtain⟨hr,hpm⟩:=hu.del h1 h4
    have hkx:gD q.kids i=x:=hu.uni (jY h1 (bC (fR h4) (dU _))) hx h5
    rw[hkx]at hpm
    have hnr:=hr.n
    have hnx:=dN hx
    have hn:=hu.n
    refine⟨_,Uy u x _ _ _ d _ _ n _ _ _ _ _ hD (kx hu (bw x)) h6 (wj hr _) (zq _ x (Wc hr _)) (Mu _ x _ (by omega) (by omega)) (Pc _ n x _ (by omega) (xU hr) n3),Ua hu ?_⟩
    have hnd:=List.nodup_append.1 (hpm.nodup_iff.1 hu.nd)
    have hlen:=hpm.length_eq
    rw[lA,←mX,←mX,←mX]at hlen
    exact⟨hr.ins hnd.2.1 (fun p hp hq=>hnd.2.2 p hq p hp rfl) (by omega) (fun y hy=>hu.w y (jY hx hy)),(Lq (f:=du _ _) (fun _=>rfl) _).trans (Lq (f:=gI i) (fun _=>rfl) u)⟩
/-- An item's doer. -/
theorem aaN{u x:TUnit}(hu:OkB u)(hx:x∈bu u)(d:PDeed)(hd:yi d.it)(hg:AA d.it)(hk0:0≤d.it.kind)(hk6:d.it.kind≤6)(h0:(aH u d.it.at_).2=0)(hid:(aH u d.it.at_).1=bw x)(hp:iq (bw x) u=true):∃r:qJ,kP (Wo d.it.kind) [eU u,eU x,aq d] (eF r)∧Bk u d r.1:=by
  have hk:d.it.kind=0∨d.it.kind=1∨d.it.kind=2∨d.it.kind=3∨d.it.kind=4∨d.it.kind=5∨d.it.kind=6:=by omega
  rcases hk with h|h|h|h|h|h|h<;>rw[h]
  · exact Wg hu x d hd hg h
  · exact YM hu d hp
  · exact Yu hu hx hp d hg h
  · exact YR hu hx hp d hg h
  · exact Zj hu hp d hg h
  · exact YO hu hp d
  · exact ZZ hu hx d hd hg h h0 hid hp
/-- An amendment has one outcome. -/
theorem VR {u:TUnit}(hu:OkB u)(d:PDeed)(hd:yi d.it)(hk0:0≤d.it.kind)(hk6:d.it.kind≤6):∃r:qJ,kP 74 [eU u,aq d] (eF r)∧Bk u d r.1:=by
  obtain⟨b,hV,hg⟩:=WG d.it hd hk0 hk6
  have hl:=Xc d hk0 hk6
  cases b with
  |false=>exact⟨_,VS u d _ hl hV,.refl hu⟩
  | true=>
    have hg:=hg rfl
    have hF:=xY hu d.it.at_ hd.2.1
    cases he:af (aH u d.it.at_).2 0 with
    |false=>exact⟨_,V0 u d _ _ _ hl hV he hF,.refl hu⟩
    | true=>
      have e0:=fL he
      have hh:=rX e0
      obtain⟨hx,hxi⟩:=vO hh
      rw[e0]at hF
      have hX:=wj hu (aH u d.it.at_).1
      cases hi:(af (aH u d.it.at_).1.a u.act&&(af (aH u d.it.at_).1.i u.item&&af (aH u d.it.at_).1.n u.n))with
      | true=>
        cases hk:af d.it.kind 0 with
        | true=>
          have hk:=fL hk
          obtain⟨r,h1,h2⟩:=Wg hu (ee (aH u d.it.at_).1 u) d hd hg hk
          exact⟨r,S3 u _ d _ _ _ r hl hV hF hX hi (by rw[hk];rfl) (by rw[hk];exact h1),h2⟩
        |false=>exact⟨_,VT u _ d _ _ _ _ _ hl hV hF hX hi hk (xY hu d.it.to hd.2.2.1),.refl hu⟩
      | false=>
        have hni:fO (aH u d.it.at_).1 u=false:=by
          cases q:fO (aH u d.it.at_).1 u with
          |false=>rfl
          | true=>
            have:=(gE _ u).1 q
            rw[←this]at hi
            have e:(af (bw u).a u.act&&(af (bw u).i u.item&&af (bw u).n u.n))=true:=by
              show(af u.act u.act&&(af u.item u.item&&af u.n u.n))=true
              rw[bZ,bZ,bZ];rfl
            rw[e]at hi;cases hi
        obtain⟨r,h1,h2⟩:=aaN hu hx d hd hg hk0 hk6 e0 hxi.symm (by rw[hxi];exact U7 hh hni)
        exact⟨r,V1 u _ d _ _ _ r hl hV hF hX hi h1,h2⟩
theorem TX{k:Int}(h:rv k=true):0≤k∧k≤6:=by
  unfold rv at h;rw[bq]at h;exact⟨gC h.1,gC h.2⟩
/-- What an amendment makes of a book: the one outcome there is. -/
structure AppOk(u:TUnit)(d:PDeed):Prop where
  b:OkB u
  i:yi d.it
  a:rv d.it.kind=true
theorem S1{u:TUnit}{d:PDeed}(h:AppOk u d):∃r:qJ,kP 74 [eU u,aq d] (eF r)∧Bk u d r.1:=VR h.b d h.i (TX h.a).1 (TX h.a).2
open Classical in
noncomputable def jI(u:TUnit)(d:PDeed):qJ:=if h:AppOk u d then(S1 h).choose else(u,0)
theorem M9{u:TUnit}{d:PDeed}(h:AppOk u d):kP 74 [eU u,aq d] (.tuple [eU (jI u d).1,iV (jI u d).2])∧Bk u d (jI u d).1:=by
  unfold jI;rw[dif_pos h];exact(S1 h).choose_spec
theorem sW{u:TUnit}{d:PDeed}(h:AppOk u d):kP 74 [eU u,aq d] (.tuple [eU (jI u d).1,iV (jI u d).2])∧OkB (jI u d).1:=⟨(M9 h).1,(M9 h).2.1⟩
theorem WA(u:TUnit)(d:PDeed)(h1:OkB u)(h2:yi d.it)(h3:rv d.it.kind=true):kP 74 [eU u,aq d] (.tuple [eU (jI u d).1,iV (jI u d).2]):=(sW ⟨h1,h2,h3⟩).1
noncomputable def tL(u:TUnit)(d:PDeed):TUnit:=bif rv d.it.kind then(jI u d).1 else u
noncomputable def C5(u:TUnit)(d:PDeed):List PFail:=bif rv d.it.kind then(bif af (jI u d).2 0 then[]else[⟨d.act,d.item,(jI u d).2⟩])else[]
theorem PP{u:TUnit}{d:PDeed}(h1:OkB u)(h2:yi d.it):OkB (tL u d):=by
  unfold tL
  cases h:rv d.it.kind with
  |false=>exact h1
  |true=>exact(sW ⟨h1,h2,h⟩).2
noncomputable def dc:TUnit→List PDeed→TUnit
  |u,[]=>u
  |u,d::r=>dc (tL u d) r
noncomputable def fh:TUnit→List PDeed→List PFail
  |_,[]=>[]
  |u,d::r=>C5 u d++fh (tL u d) r
theorem Iz:∀{l:List PDeed}{u:TUnit},OkB u→(∀d,d∈l→yi d.it)→OkB (dc u l)
  |[],_,h,_=>h
  |d::r,u,h,hl=>Iz (l:=r) (u:=tL u d) (PP h (hl d (dI ..))) fun x hx=>hl x (eW _ hx)
theorem Dk:∀(l:List PDeed)(u:TUnit),(fh u l).length≤l.length
  |[],_=>aB _
  | d::r,u=>by
    have:=Dk r (tL u d)
    have h:(C5 u d).length≤1:=by
      unfold C5
      cases rv d.it.kind<;>cases af (jI u d).2 0<;>simp
    rw[fh,lA,lC];omega
theorem YF{u:TUnit}{d:PDeed}{r:List PDeed}(h:rv d.it.kind=false):dc u (d::r)=dc u r∧fh u (d::r)=fh u r:=by
  rw[dc,fh,tL,C5,h];exact⟨rfl,rfl⟩
theorem TB{u:TUnit}{d:PDeed}{r:List PDeed}(h:rv d.it.kind=true)(h2:af (jI u d).2 0=true):dc u (d::r)=dc (jI u d).1 r∧fh u (d::r)=fh (jI u d).1 r:=by
  rw[dc,fh,tL,C5,h,h2];exact⟨rfl,rfl⟩
theorem TA{u:TUnit}{d:PDeed}{r:List PDeed}(h:rv d.it.kind=true)(h2:af (jI u d).2 0=false):dc u (d::r)=dc (jI u d).1 r∧fh u (d::r)=⟨d.act,d.item,(jI u d).2⟩::fh (jI u d).1 r:=by
  rw[dc,fh,tL,C5,h,h2];exact⟨rfl,rfl⟩
mutual
theorem LZ:∀(u:TUnit)(deep most:Int),mF u deep most≤most→Int.ofNat (nU u)≤mF u deep most
  | ⟨_,_,_,_,_,_,_,kids⟩,deep,most,h=>by
    rw[mF]at h ⊢
    cases hd:aF 20 deep with
    |true=>rw[hd]at h;simp only at h;omega
    | false=>
      rw[hd]at h
      have:=LX kids deep most 1 h
      rw[nU]
      simp only[oN]at *
      omega
theorem LX:∀(l:List TUnit)(deep most n:Int),mG l deep most n≤most→n+Int.ofNat (eJ l)≤mG l deep most n
  |[],_,_,n,_=>by rw[mG,eJ];exact Int.le_of_eq (Int.add_zero n)
  | k::r,deep,most,n,h=>by
    rw[mG]at h ⊢
    cases hd:aF most n with
    |true=>rw[hd]at h;have:=ar hd;simp only at h;omega
    | false=>
      rw[hd]at h
      have h2:=LX r deep most _ h
      have h1:=LZ k (deep+1) (most-n) (by simp only[oN]at *;omega)
      rw[eJ]
      simp only[oN]at *
      omega
end
theorem F6{l:List PWord}(h:mH l=true):l.length≤300∧∀w,w∈l→w.text.length≤100:=by
  unfold mH at h
  obtain⟨h1,h2⟩:=jM.1 h
  refine⟨by have:=gC h2;simp only[oN]at this;omega,fun w hw=>?_⟩
  have:=gC (na.1 h1 w hw)
  simp only[oN]at this;omega
theorem IC:∀(u:TUnit),kO u=true→∀x,x∈bu u→sd x:=by
  refine TUnit.ind fun u ih h x hx=>?_
  rw[Cf]at h
  simp only[bq]at h
  obtain⟨⟨⟨h0,h1⟩,h2⟩,h3⟩:=h
  rw[dj]at hx
  rcases fQ.1 hx with rfl|hx
  · have h0:=gC h0
    simp only[oN]at h0
    have q1:=F6 h1
    have q2:=F6 h2
    exact⟨q1.1,q2.1,by omega,fun w hw=>bR (q1.2 w hw) (by decide),fun w hw=>bR (q2.2 w hw) (by decide)⟩
  · obtain⟨k,hk,hx⟩:=ml hx
    exact ih k hk (na.1 h3 k hk) x hx
theorem XR{u:TUnit}{n:Nat}(h:Hl u (.ofNat n)=true):nU u≤n∧∀x,x∈bu u→sd x:=by
  unfold Hl at h
  obtain⟨h1,h2⟩:=jM.1 h
  refine⟨?_,IC u h2⟩
  have h3:=gC h1
  have:=LZ u 0 (.ofNat n) h3
  simp only[oN]at *
  omega
theorem Qs{x:PItem}(hf:nq x)(h:m7 x=true):yi x:=by
  rw[EC]at h
  unfold yB at h
  simp only[bq]at h
  obtain⟨⟨⟨⟨⟨⟨⟨⟨⟨⟨a1,a2⟩,a3⟩,a4⟩,a5⟩,a6⟩,a7⟩,a8⟩,a9⟩,a10⟩,b1,b2,b3,b4,b5⟩:=h
  have a1:=gC a1
  have a2:=gC a2
  have a3:=gC a3
  have a4:=gC a4
  have a5:=gC a5
  have a6:=gC a6
  have a7:=gC a7
  simp only[oN]at a1 a2 a3 a4 a5 a6 a7
  have hs:∀{l:List aR},l.all xR=true→∀s,s∈l→s.length≤2^39:=fun h s hs=>by
    have:=gC (na.1 h s hs);simp only[oN]at this;omega
  have ht:∀{l:List PStep},l.all xP=true→∀s,s∈l→s.label.length≤2^39:=fun h s hs=>by
    have:=gC (na.1 h s hs);simp only[oN]at this;omega
  have hu:=XR (n:=30) a10
  exact⟨hf,⟨by omega,ht b3⟩,⟨by omega,ht b4⟩,⟨by omega,hs b1⟩,⟨by omega,hs b2⟩,by omega,by omega,by omega,bR hu.1 (by decide),hu.2⟩
theorem Ux:∀(u:TUnit),nU u≤1024→(∀x,x∈bu u→x.head.length≤300∧x.words.length≤300)→qT u:=by
  refine TUnit.ind fun u ih hn hw=>?_
  have:=bg u
  obtain⟨h1,h2⟩:=hw u (dU u)
  exact og.2 ⟨by omega,by omega,by omega,fun k hk=>ih k hk (by have:=io hk;omega) fun x hx=>hw x (bC hk hx)⟩
theorem Gb{u:TUnit}(h:OkB u):qT u:=Ux u h.n h.w
theorem JH{u v:TUnit}{l r:List PDeed}{xs:List PFail}(h:fh u l=xs++fh v r):xs.length≤l.length:=by
  grind[Dk]
theorem S7(u:TUnit)(l:List PDeed)(hu:OkB u)(hl:l.length<2^30)(ho:∀d,d∈l→yi d.it):kP 59 [eU u,.ls (l.map aq)] (.tuple [eU (dc u l),.ls ((fh u l).map iE)]):=by
  have rr0 b' (h:((dc u l).act)=b':=by first|(rw[hj0.2.1];rfl)|(rw[hj0.2.2];rfl)|(rw[hj0.2.2.1];rfl)|(rw[hj0.2.2.2];simp only[fh,dE])|exact aX gj _):=h;have rr1 b' (h:((dc u l).item)=b':=by first|(rw[hj0.2.1];rfl)|(rw[hj0.2.2];rfl)|(rw[hj0.2.2.1];rfl)|(rw[hj0.2.2.2];simp only[fh,dE])|exact aX gj _):=h;have rr2 b' (h:((dc u l).n)=b':=by first|(rw[hj0.2.1];rfl)|(rw[hj0.2.2];rfl)|(rw[hj0.2.2.1];rfl)|(rw[hj0.2.2.2];simp only[fh,dE])|exact aX gj _):=h;have rr3 b' (h:((dc u l).kind)=b':=by first|(rw[hj0.2.1];rfl)|(rw[hj0.2.2];rfl)|(rw[hj0.2.2.1];rfl)|(rw[hj0.2.2.2];simp only[fh,dE])|exact aX gj _):=h;have rr4 b' (h:((dc u l).label)=b':=by first|(rw[hj0.2.1];rfl)|(rw[hj0.2.2];rfl)|(rw[hj0.2.2.1];rfl)|(rw[hj0.2.2.2];simp only[fh,dE])|exact aX gj _):=h;have rr5 b' (h:(List.map aQ (dc u l).head)=b':=by first|(rw[hj0.2.1];rfl)|(rw[hj0.2.2];rfl)|(rw[hj0.2.2.1];rfl)|(rw[hj0.2.2.2];simp only[fh,dE])|exact aX gj _):=h;have rr6 b' (h:(List.map aQ (dc u l).words)=b':=by first|(rw[hj0.2.1];rfl)|(rw[hj0.2.2];rfl)|(rw[hj0.2.2.1];rfl)|(rw[hj0.2.2.2];simp only[fh,dE])|exact aX gj _):=h;have rr7 b' (h:(List.map aY (dc u l).kids)=b':=by first|(rw[hj0.2.1];rfl)|(rw[hj0.2.2];rfl)|(rw[hj0.2.2.1];rfl)|(rw[hj0.2.2.2];simp only[fh,dE])|exact aX gj _):=h;have rr8 b' (h:((fh u l).map iE)=b':=by first|(rw[hj0.2.1];rfl)|(rw[hj0.2.2];rfl)|(rw[hj0.2.2.1];rfl)|(rw[hj0.2.2.2];simp only[fh,dE])|exact aX gj _):=h;exact bG Tryz.func59<|Kl 2 5 bM<|Kl 2 12 (ln aq l)<|Mg 0<|Z8 TUnit Nat Nat (List PFail) aq l u [2,4,6,11,12,13] (fun a _ b=>([bj 0 0 0 0,bj 1 0 0 0,al,aW<|l.map aq,nV l.length,nV a],[aZ 8 false 0 [ax [iV b.act,iV b.item,iV b.n,iV b.kind,aV b.label,aW<|b.head.map aQ,aW<|b.words.map aQ,aW<|b.kids.map aY]],aZ 8 false 0 [ax [iV 0,iV 0,iV 0,iV 0,aV [],al,al,al]]])) (fun a _ b c e f=>([bj 0 0 0 0,bj 1 0 0 0,aM 2 c 0 e none,aW<|l.map aq,nV l.length,nV a],[aZ 8 false 0 [ax [iV b.act,iV b.item,iV b.n,iV b.kind,aV b.label,aW<|b.head.map aQ,aW<|b.words.map aQ,aW<|b.kids.map aY]],aZ 8 false 0 [ax [iV 0,iV 0,iV 0,iV 0,aV [],al,al,al]],aZ 3 true c<|f.map iE])) (fun a b=>OkB b∧dc u l=dc b a∧fh u l=fh b a) (fun a b _ c e=>OkB b∧c=e.length∧dc u l=dc b a∧fh u l=e++fh b a) sA (fun _ _ a _ _ _ b hj0=>Kh 0 b<|Kl 3 5 bM<|Mf<|eL<|.cons (bQ (.cons (li<|rr0 a.act)<|.cons (li<|rr1 a.item)<|.cons (li<|rr2 a.n)<|.cons (li<|rr3 a.kind)<|.cons (Le.str<|rr4 a.label)<|.cons (cQ<|rr5<|a.head.map aQ)<|.cons (cQ<|rr6<|a.words.map aQ)<|.cons (cQ<|rr7<|a.kids.map aY) .nil)<|by kernel_rfl)<|.cons (cQ<|rr8 []) .nil) (fun a _ b c _ e f g i j k _ n hj0=>have c:=ho _<|bX c j;Kt 0 k<|Mx n<|Kp 5 (Kq e.it.kind)<|Kn 0 (rv e.it.kind) (fun _=>Kl 0 40 (dV a)<|K1 0 (.frz 2 [2,4,6,11,12,13]) (ca rt rt ti)<|Mf<|g b<|by grind[YF]) fun j=>Kp 1 (WA b e sA c j)<|Kc 7 (jI b e).2 0 (fun _ _=>Kl 12 40 (dV a)<|Mg 0<|M0 (.ren [0,1,4,2,3] [] [2,4,6,11,12,13])<|M1 (.frz 3 [2,4,6,11,12,13]) (jd rt rt rt ti)<|Mf<|i (jI b e).1 0 1 [PFail.mk e.act e.item (jI b e).2]<|by exact⟨(sW ⟨hj0.1,c,by omega⟩).2,rfl,hj0.2.1.trans (TA (by omega) (by omega)).1,hj0.2.2.trans (TA (by omega) (by omega)).2⟩) fun _ _=>Kl 2 40 (dV a)<|K1 0 (.frz 2 [2,4,6,11,12,13]) (ca rt rt ti)<|Mf<|g (jI b e).1<|by exact⟨(sW ⟨hj0.1,c,by omega⟩).2,hj0.2.1.trans (TB (by omega) (by omega)).1,hj0.2.2.trans (TB (by omega) (by omega)).2⟩) (fun _ _ a b c e _ _ _ f hj0=>Kh 0 f<|Mg 3<|M2 (.fsl 2 [4] 5<|e.map iE) (ca rt rt ti) (ca (aK b) (tA iE e c (oA:(e).length=c))<|aX gj e)<|Ml 5 (fm (e.map iE) false<|aX gj e)<|Mf<|eL<|.cons (bQ (.cons (li<|rr0 a.act)<|.cons (li<|rr1 a.item)<|.cons (li<|rr2 a.n)<|.cons (li<|rr3 a.kind)<|.cons (Le.str<|rr4 a.label)<|.cons (cQ<|rr5<|a.head.map aQ)<|.cons (cQ<|rr6<|a.words.map aQ)<|.cons (cQ<|rr7<|a.kids.map aY) .nil)<|by kernel_rfl)<|.cons (cQ<|rr8<|e.map iE) .nil) fun a _ b c e f g _ i j _ k n o _ p hj0=>have g:=ho _<|bX g n;Kt 0 o<|Mx p<|Kp 5 (Kq i.it.kind)<|Kn 0 (rv i.it.kind) (fun _=>Kl 0 40 (dV a)<|K1 0 (.frz 3 [2,4,6,11,12,13]) (jd (tR 3 true c 3<|aX gj f) rt rt ti)<|Mf<|k b c e f<|by grind[YF]) fun n=>Kp 1 (WA b i sA g n)<|Kc 7 (jI b i).2 0 (fun _ _=>K1 7 .app (ca (aK c) (sA:e=(f.map iE).length) (by(have z:=JH hj0.2.2.2;have z2:=hj0.2.1;refine aO (m:=2^31) ?_ ?_ ?_<;>omega):small (e+1) 24=true))<|M1 (.obj 2<|aZ 3 true (c+1)<|(f++[PFail.mk i.act i.item (jI b i).2]).map iE) (congrArg (aZ 3 true<|c+1)<|dZ (f:=iE) (l:=f) (ws:=[PFail.mk i.act i.item (jI b i).2]))<|Kl 3 40 (dV a)<|K1 0 (.frz 3 [2,4,6,11,12,13]) (jd (tR 3 true (c+1) 3<|aX gj<|f++[PFail.mk i.act i.item (jI b i).2]) rt rt ti)<|Mf<|k (jI b i).1 (c+1) (e+1) (f++[PFail.mk i.act i.item (jI b i).2])<|by exact⟨(sW ⟨hj0.1,g,by omega⟩).2,by simp_all,hj0.2.2.1.trans (TA (by omega) (by omega)).1,hj0.2.2.2.trans (by grind[TA])⟩) fun _ _=>Kl 2 40 (dV a)<|K1 0 (.frz 3 [2,4,6,11,12,13]) (jd (tR 3 true c 3<|aX gj f) rt rt ti)<|Mf<|k (jI b i).1 c e f<|by exact⟨(sW ⟨hj0.1,g,by omega⟩).2,hj0.2.1,hj0.2.2.1.trans (TB (by omega) (by omega)).1,hj0.2.2.2.trans (by grind[TB])⟩
end Go.Proofs.YtaepacpodblomaaGreatDoor
