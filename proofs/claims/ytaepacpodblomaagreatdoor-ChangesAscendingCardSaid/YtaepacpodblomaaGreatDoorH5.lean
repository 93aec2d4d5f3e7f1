/- Functions walked: what each of them answers, for Every change day is a breakpoint, both lists rise, and Next enumerates the change days: part 5. Conditions: those that each theorem names. -/
import Derived.Test.YtaepacpodblomaaGreatDoorH4
namespace Go.Proofs.YtaepacpodblomaaGreatDoor
open Go Go.Ev
noncomputable abbrev BI(l:List PWord):AObj:=.row 4 true 0 (l.map aQ)
noncomputable def FZ:TypeInfo:=(Tryz.prog.info? 102).getD default
theorem FQ:Tryz.prog.info? 102=some FZ:=by kernel_rfl
theorem yd:FZ.size=4:=by kernel_rfl
theorem wU:FZ.bytes=40:=by kernel_rfl
theorem Vg(l:List PWord):dC 4 (l.map aQ)=true:=gg (fun w=>by cases w;rfl) l
/-- A copy of words: a row of its own. -/
theorem Z5(ws:List PWord)(hl:ws.length≤2^20)(a b c d:AObj):kD 110 [.ls (ws.map aQ)] (av [a,b,c,d]) (.sl0 4 0 ws.length none) (av [a,b,c,d,BI ws]):=by
  by_cases hne:ws=[]
  · subst hne
    have hE:(av [a,b,c,d]).push (BI [])=av [a,b,c,d,BI []]:=by kernel_rfl
    have h:=aI.psh (o:=BI []) (u:=.sl0 4 0 0 none) (ry [] (by omega) (av [a,b,c,d])) EB
    simp_all
  have hn:ws.map aQ≠[]:=fun h=>hne (List.map_eq_nil_iff.1 h)
  have hf:=Vg ws
  have hsm:small (ws.map aQ).length 40=true:=by grind[aN]
  have hlen:ws.length=(ws.map aQ).length:=(cX ..).symm
  unfold BI
  rw[hlen]
  generalize ws.map aQ=L at hn hf hsm
  refine(aI.less (Ψ:=fun v h=>v=.slice 4 0 0 L.length none∧h=av [a,b,c,d,.row 4 true 0 L]) ?_ fun v h ⟨h1,h2⟩=>⟨_,h1▸Le.sl0,rfl,h2⟩)
  refine aI.enter 2 (fn:=Tryz.f110) Tryz.func110 (by kernel_rfl) rfl ⟨by kernel_rfl,by kernel_rfl⟩ ?_
  refine aA.seq (aA.mono (DS qk jK (ev 40) (s':=⟨eZ 8 [(0,.ls L),(2,.nils)],av [a,b,c,d]⟩) (.go 0 .fin) (by kernel_rfl)) ?_)
  rintro _ _ ⟨rfl,rfl⟩
  refine aA.seq (aA.seq (aA.mono (xG jK (ev 40) (Ψ:=fun s=>s=⟨eZ 8 [(0,.ls L),(2,.nils),(3,.ps L false),(4,.bool false)],av [a,b,c,d]⟩) (.go 0 (.nz 3 .abs (.go 0 .fin)))
    (W:=(L=[]→False)∧(⟨eZ 8 [(0,.ls L),(2,.nils),(3,.ps L false),(4,.bool false)],av [a,b,c,d]⟩:St)=⟨eZ 8 [(0,.ls L),(2,.nils),(3,.ps L false),(4,.bool false)],av [a,b,c,d]⟩) ⟨hn,rfl⟩ (by kernel_rfl)) ?_))
  rintro _ _ ⟨rfl,rfl⟩
  refine aA.cond (t:=false) (by kernel_rfl) (fun h=>by grind) fun _=>aA.skip ?_
  refine aA.seq (aA.region ?_)
  show cj _ _ _ _ [_,_,_,_] _ _
  refine cj.one (s':=⟨eZ 8 [(0,.ls L),(2,.nils),(3,.ps L false),(4,.bool false),(5,.ps [] true)],av [a,b,c,d]⟩) (ev 40) (by kernel_rfl) ?_
  refine cj.one (s':=⟨eZ 8 [(0,.ls L),(2,.nils),(3,.ps L false),(4,.bool false),(5,.ps [] true),(6,.ls L)],av [a,b,c,d]⟩) (ev 40) (by kernel_rfl) ?_
  refine rm (I:=fun k:Nat=>k=0) (r:=fun _=>.slice 4 0 0 L.length none) (H:=fun _=>av [a,b,c,d,.row 4 true 0 L]) (by kernel_rfl)
    (fun pl M a w g1 g2 g3=>xj (z:=aQ ⟨[],0,0,0⟩) (z0:=aQ ⟨[],0,0,0⟩) (xs:=L) (t:=35) (tx:=35) (e:=102) (i:=FZ) yd wU (by kernel_rfl) ⟨102,by kernel_rfl⟩ FQ (by kernel_rfl) (Le.refl _) (by kernel_rfl) (by kernel_rfl) hn hf (by kernel_rfl) hsm (by omega) pl M a w g1 g2 g3) fun k _=>?_
  refine⟨eZ 8 [(0,.ls L),(2,.nils),(3,.ps L false),(4,.bool false),(5,.ps [] true),(6,.ls L),(7,.slice 4 0 0 L.length none)],by kernel_rfl,?_⟩
  refine cj.one (s':=⟨eZ 8 [(0,.ls L),(2,.slice 4 0 0 L.length none),(3,.ps L false),(4,.bool false),(5,.ps [] true),(6,.ls L),(7,.slice 4 0 0 L.length none)],av [a,b,c,d,.row 4 true 0 L]⟩) (ev 40) (by kernel_rfl) (cj.nil (aA.ret ⟨fun id h=>(by grind),.slice 4 0 0 L.length none,by kernel_rfl,by kernel_rfl,by kernel_rfl⟩))
theorem Z4(ws:List PWord)(hl:ws.length≤2^20)(a b c d e:AObj):kD 110 [.ls (ws.map aQ)] (av [a,b,c,d,e]) (.sl0 5 0 ws.length none) (av [a,b,c,d,e,BI ws]):=by
  by_cases hne:ws=[]
  · subst hne
    have hE:(av [a,b,c,d,e]).push (BI [])=av [a,b,c,d,e,BI []]:=by kernel_rfl
    have h:=aI.psh (o:=BI []) (u:=.sl0 5 0 0 none) (ry [] (by omega) (av [a,b,c,d,e])) EB
    simp_all
  have hn:ws.map aQ≠[]:=fun h=>hne (List.map_eq_nil_iff.1 h)
  have hf:=Vg ws
  have hsm:small (ws.map aQ).length 40=true:=by grind[aN]
  have hlen:ws.length=(ws.map aQ).length:=(cX ..).symm
  unfold BI
  rw[hlen]
  generalize ws.map aQ=L at hn hf hsm
  refine(aI.less (Ψ:=fun v h=>v=.slice 5 0 0 L.length none∧h=av [a,b,c,d,e,.row 4 true 0 L]) ?_ fun v h ⟨h1,h2⟩=>⟨_,h1▸Le.sl0,rfl,h2⟩)
  refine aI.enter 2 (fn:=Tryz.f110) Tryz.func110 (by kernel_rfl) rfl ⟨by kernel_rfl,by kernel_rfl⟩ ?_
  refine aA.seq (aA.mono (DS qk jK (ev 40) (s':=⟨eZ 8 [(0,.ls L),(2,.nils)],av [a,b,c,d,e]⟩) (.go 0 .fin) (by kernel_rfl)) ?_)
  rintro _ _ ⟨rfl,rfl⟩
  refine aA.seq (aA.seq (aA.mono (xG jK (ev 40) (Ψ:=fun s=>s=⟨eZ 8 [(0,.ls L),(2,.nils),(3,.ps L false),(4,.bool false)],av [a,b,c,d,e]⟩) (.go 0 (.nz 3 .abs (.go 0 .fin)))
    (W:=(L=[]→False)∧(⟨eZ 8 [(0,.ls L),(2,.nils),(3,.ps L false),(4,.bool false)],av [a,b,c,d,e]⟩:St)=⟨eZ 8 [(0,.ls L),(2,.nils),(3,.ps L false),(4,.bool false)],av [a,b,c,d,e]⟩) ⟨hn,rfl⟩ (by kernel_rfl)) ?_))
  rintro _ _ ⟨rfl,rfl⟩
  refine aA.cond (t:=false) (by kernel_rfl) (fun h=>by grind) fun _=>aA.skip ?_
  refine aA.seq (aA.region ?_)
  show cj _ _ _ _ [_,_,_,_] _ _
  refine cj.one (s':=⟨eZ 8 [(0,.ls L),(2,.nils),(3,.ps L false),(4,.bool false),(5,.ps [] true)],av [a,b,c,d,e]⟩) (ev 40) (by kernel_rfl) ?_
  refine cj.one (s':=⟨eZ 8 [(0,.ls L),(2,.nils),(3,.ps L false),(4,.bool false),(5,.ps [] true),(6,.ls L)],av [a,b,c,d,e]⟩) (ev 40) (by kernel_rfl) ?_
  refine rm (I:=fun k:Nat=>k=0) (r:=fun _=>.slice 5 0 0 L.length none) (H:=fun _=>av [a,b,c,d,e,.row 4 true 0 L]) (by kernel_rfl)
    (fun pl M a w g1 g2 g3=>xj (z:=aQ ⟨[],0,0,0⟩) (z0:=aQ ⟨[],0,0,0⟩) (xs:=L) (t:=35) (tx:=35) (e:=102) (i:=FZ) yd wU (by kernel_rfl) ⟨102,by kernel_rfl⟩ FQ (by kernel_rfl) (Le.refl _) (by kernel_rfl) (by kernel_rfl) hn hf (by kernel_rfl) hsm (by omega) pl M a w g1 g2 g3) fun k _=>?_
  refine⟨eZ 8 [(0,.ls L),(2,.nils),(3,.ps L false),(4,.bool false),(5,.ps [] true),(6,.ls L),(7,.slice 5 0 0 L.length none)],by kernel_rfl,?_⟩
  refine cj.one (s':=⟨eZ 8 [(0,.ls L),(2,.slice 5 0 0 L.length none),(3,.ps L false),(4,.bool false),(5,.ps [] true),(6,.ls L),(7,.slice 5 0 0 L.length none)],av [a,b,c,d,e,.row 4 true 0 L]⟩) (ev 40) (by kernel_rfl) (cj.nil (aA.ret ⟨fun id h=>(by grind),.slice 5 0 0 L.length none,by kernel_rfl,by kernel_rfl,by kernel_rfl⟩))
noncomputable abbrev De(u:TUnit)(k:AV):AV:=.agg [iV u.act,iV u.item,iV u.n,iV u.kind,.str u.label,.sl0 3 0 u.head.length none,.sl0 4 0 u.words.length none,k]
noncomputable abbrev UE(u:TUnit)(i j:Nat)(k:AV):AObj:=.row 8 false 0 [.agg [iV u.act,iV u.item,iV u.n,iV u.kind,.str u.label,.sl0 i 0 u.head.length none,.sl0 j 0 u.words.length none,k]]
theorem Ym(u:TUnit)(hk:0<u.kids.length)(hn:nU u≤2^20)(ht:∀x,x∈bo u→x.head.length≤2^20∧x.words.length≤2^20):kC 77 [eU u] (av [wz u,wK])
    (fun v h=>∃y:Nat×Nat×List TUnit,(y.2.1=u.kids.length∧y.2.2=u.kids)∧v=De u (.slice 5 y.1 0 y.2.1 none)∧h=av [wz u,wK,UE u 3 4 (.slice 5 y.1 0 y.2.1 none),BI u.head,BI u.words,.row 8 true y.1 (y.2.2.map aK)]):=by
  have hkl:=bd u
  have c1:=(ht u (dq u)).1
  have c2:=(ht u (dq u)).2
  have ihk:∀k,k∈u.kids→kP 77 [eU k] (eU k):=fun k hk=>Ha k (b0 (s6 (iq hk)) hn) (fun x hx=>⟨m9 (ht x (bA hk hx)).1 (by omega),m9 (ht x (bA hk hx)).2 (by omega)⟩)
  let q1:=[ab [iV u.act,iV u.item,iV u.n,iV u.kind,ax u.label,aW (u.head.map aQ),aW (u.words.map aQ),aW (u.kids.map aK)]];let q2:=[ab [iV 0,iV 0,iV 0,iV 0,ax [],af,af,af]];let q3:=aZ 8 false 0 q2;let q4:=aZ 8 false 0 q1;let q5:=List.map aQ u.head;let q6:=aZ 4 true 0 q5;exact pO Tryz.func77 fun a=>Mg 3<|M3 (.efx true (AV.sl0 4 0 u.head.length none)<|av [aZ 8 false 0 q1,aZ 8 false 0 q2,aZ 8 false 0 q1,aZ 8 false 0 q2,aZ 4 true 0 q5]) (wR rt rt rt rt ti) (wR (aU<|some q3) (aU<|some q4) (aU<|some q3) (aU<|some q4) ti) (Z5 u.head c1 q4 q3 q4 q3)<|Mg 1<|M3 (.efx true (AV.sl0 5 0 u.words.length none)<|av [aZ 8 false 0 q1,aZ 8 false 0 q2,aZ 8 false 0 q1,aZ 8 false 0 q2,aZ 4 true 0 q5,aZ 4 true 0<|u.words.map aQ]) (vB (tR 4 true 0 5<|aX ip u.head) rt rt rt rt ti) (vB (aU<|some q6) (aU<|some q3) (aU<|some q4) (aU<|some q3) (aU<|some q4) ti) (Z4 u.words c2 q4 q3 q4 q3 q6)<|Kl 7 16 (ln aK u.kids)<|Mg 0<|kh Nat Nat (List TUnit) aK u.kids [1,2,3,15,16,17] (fun a _=>([bz 2 0 0 0,bz 3 0 0 0,af,aW<|u.kids.map aK,nV u.kids.length,nV a],[aZ 8 false 0 [ab [iV u.act,iV u.item,iV u.n,iV u.kind,ax u.label,aW<|u.head.map aQ,aW<|u.words.map aQ,aW<|u.kids.map aK]],aZ 8 false 0 [ab [iV 0,iV 0,iV 0,iV 0,ax [],af,af,af]],aZ 8 false 0 [ab [iV u.act,iV u.item,iV u.n,iV u.kind,ax u.label,AV.sl0 4 0 u.head.length none,AV.sl0 5 0 u.words.length none,aW<|u.kids.map aK]],aZ 8 false 0 [ab [iV 0,iV 0,iV 0,iV 0,ax [],af,af,af]],aZ 4 true 0<|u.head.map aQ,aZ 4 true 0<|u.words.map aQ])) (fun a _ b c d=>([bz 2 0 0 0,bz 3 0 0 0,aM 6 b 0 c none,aW<|u.kids.map aK,nV u.kids.length,nV a],[aZ 8 false 0 [ab [iV u.act,iV u.item,iV u.n,iV u.kind,ax u.label,aW<|u.head.map aQ,aW<|u.words.map aQ,aW<|u.kids.map aK]],aZ 8 false 0 [ab [iV 0,iV 0,iV 0,iV 0,ax [],af,af,af]],aZ 8 false 0 [ab [iV u.act,iV u.item,iV u.n,iV u.kind,ax u.label,AV.sl0 4 0 u.head.length none,AV.sl0 5 0 u.words.length none,aW<|u.kids.map aK]],aZ 8 false 0 [ab [iV 0,iV 0,iV 0,iV 0,ax [],af,af,af]],aZ 4 true 0<|u.head.map aQ,aZ 4 true 0<|u.words.map aQ,aZ 8 true b<|d.map aK])) (fun a=>a=u.kids) (fun a _ b c=>b=c.length∧(0:Nat)<c.length∧c++a=u.kids∧c.length+a.length=u.kids.length) (by rfl) (fun _ _ _ _ _ a _=>Kh 0 a<|Mg 4<|Mw .abs (sA:False)) (fun a _ _ b c d _ e f g _ i _=>have i:=(i).trans<|congrArg some<|aT c;have b:=cq (J:=fun a _=>a=u.kids) (a:=()) f b;Kt 0 g<|Mx i<|Kp 4 (ihk c gR)<|K1 1 (.obj 7<|aZ 8 true 0<|List.map aK [c]) (congrArg (aZ 8 true 0)<|TA (f:=aK) (g:=Go.Ev.eU) (ws:=[c]) aT)<|Kl 1 26 (dV a)<|Mg 0<|Mw (.ren [0,1,2,3,4,5,7,6] [4,5,7] [1,2,3,15,16,17]<|.frz 7 [1,2,3,15,16,17] .fin)<|wR (tS 4 true 0<|aX ip u.head) (tS 4 true 0<|aX ip u.words) (tS 8 true 0<|aX iQ [c]) (Z3 (tR 8 true 0 7<|aX iQ [c]) (tR 4 true 0 7<|aX ip u.words) (tR 4 true 0 7<|aX ip u.head) rt rt rt rt ti)<|e 0 1 [c]<|by(refine⟨rfl,by simp,?_,?_⟩<;>(rw[←b])<;>(first|rfl|grind))) (fun _ _ b c d _ _ _ e _=>Kh 0 e<|Mg 4<|Mw (.ren [0,1,3,4,5,6,2] [4,5,6] [2]<|.frz 6 [2] .fin)<|wR (tS 4 true 0<|aX ip u.head) (tS 4 true 0<|aX ip u.words) (tS 8 true b<|aX iQ d) (EM (tR 8 true b 6<|aX iQ d) (tR 4 true 0 6<|aX ip u.words) (tR 4 true 0 6<|aX ip u.head) rt rt rt ti)<|a (b,c,d) sA) fun a _ b c d _ e f g _ i j l _ n _=>have n:=(n).trans<|congrArg some<|aT f;have e:=cq (J:=fun a b=>b.2.1=b.2.2.length∧(0:Nat)<b.2.2.length∧b.2.2++a=u.kids∧b.2.2.length+a.length=u.kids.length) (a:=(b,c,d)) j e;Kt 0 l<|Mx n<|Kp 4 (ihk f gR)<|K1 0 .app (ce (aU b) (sA:c=(d.map aK).length) (by(refine aN (m:=2^21) ?_ ?_ ?_<;>omega):small (c+1) 120=true))<|M1 (.obj 6<|aZ 8 true (b+1)<|(d++[f]).map aK) (congrArg (aZ 8 true<|b+1)<|xP (f:=aK) (g:=Go.Ev.eU) (l:=d) (ws:=[f]) aT)<|Kl 1 26 (dV a)<|K1 0 (.frz 7 [1,2,3,15,16,17]) (Z3 (tR 8 true (b+1) 7<|aX iQ<|d++[f]) (tR 4 true 0 7<|aX ip u.words) (tR 4 true 0 7<|aX ip u.head) rt rt rt rt ti)<|Mf<|i (b+1) (c+1) (d++[f])<|by(refine⟨by simp_all,by simp,?_,?_⟩<;>first|(rw[←e.2.2.1];simp;done)|grind)
theorem Yn(u:TUnit)(hk:u.kids=[])(ht:∀x,x∈bo u→x.head.length≤2^20∧x.words.length≤2^20):kD 77 [eU u] (av [wz u,wK]) (De u .nils) (av [wz u,wK,UE u 3 4 .nils,BI u.head,BI u.words]):=by
  have c1:=(ht u (dq u)).1
  have c2:=(ht u (dq u)).2
  have hz:ap 0 (Int.ofNat u.kids.length)=false:=by rw[hk];rfl
  let q:=[ab [iV u.act,iV u.item,iV u.n,iV u.kind,ax u.label,aW (u.head.map aQ),aW (u.words.map aQ),aW (u.kids.map aK)]];let q1:=[ab [iV 0,iV 0,iV 0,iV 0,ax [],af,af,af]];let q2:=[aZ 8 false 0 q,aZ 8 false 0 q1,aZ 8 false 0 [ab [iV u.act,iV u.item,iV u.n,iV u.kind,ax u.label,AV.sl0 4 0 u.head.length none,AV.sl0 5 0 u.words.length none,aW (u.kids.map aK)]],aZ 8 false 0 q1,aZ 4 true 0 (u.head.map aQ),aZ 4 true 0 (u.words.map aQ)];let q3:=aZ 8 false 0 q1;let q4:=aZ 8 false 0 q;let q5:=[bz 2 0 0 0,bz 3 0 0 0,af,aW (u.kids.map aK),nV u.kids.length,iV 0];let q6:=List.map aQ u.head;let q7:=aZ 4 true 0 q6;exact eV Tryz.func77 fun a=>Mg 3<|M3 (.efx true (AV.sl0 4 0 u.head.length none)<|av [aZ 8 false 0 q,aZ 8 false 0 q1,aZ 8 false 0 q,aZ 8 false 0 q1,aZ 4 true 0 q6]) (wR rt rt rt rt ti) (wR (aU<|some q3) (aU<|some q4) (aU<|some q3) (aU<|some q4) ti) (Z5 u.head c1 q4 q3 q4 q3)<|Mg 1<|M3 (.efx true (AV.sl0 5 0 u.words.length none)<|av [aZ 8 false 0 q,aZ 8 false 0 q1,aZ 8 false 0 q,aZ 8 false 0 q1,aZ 4 true 0 q6,aZ 4 true 0<|u.words.map aQ]) (vB (tR 4 true 0 5<|aX ip u.head) rt rt rt rt ti) (vB (aU<|some q7) (aU<|some q3) (aU<|some q4) (aU<|some q3) (aU<|some q4) ti) (Z4 u.words c2 q4 q3 q4 q3 q7)<|Kl 7 16 (ln aK u.kids)<|Mg 0<|ZQ [1,2,3,15,16,17] (q5,q2) True 0 ti fun _ _=>Kh 0 hz<|Mg 4<|M2 (.ren [0,1,3,4,5,2] [4,5] [2]) (tS 4 true 0<|aX ip u.head) (tS 4 true 0<|aX ip u.words)<|M1 (.frz 5 [2]) (vB (tR 4 true 0 5<|aX ip u.words) (tR 4 true 0 5<|aX ip u.head) rt rt rt ti)<|Mf a
noncomputable abbrev Zq(ep:Nat)(l:List TUnit):AObj:=.row 8 true ep (l.map aK)
theorem K9(u:TUnit){k k':AV}(h:Le k k')(h2:cF k=true):Le (De u k) (De u k'):=bZ (.cons (Le.refl _) (.cons (Le.refl _) (.cons (Le.refl _) (.cons (Le.refl _) (.cons (Le.refl _) (.cons (Le.refl _) (.cons (Le.refl _) (.cons h .nil)))))))) (by simp only[List.all_cons,List.all_nil,h2];rfl)
theorem Yl(u:TUnit)(hn:nU u≤2^20)(ht:∀x,x∈bo u→x.head.length≤2^20∧x.words.length≤2^20):kC 77 [eU u] (av [wz u,wK])
    (fun v h=>∃ep:Nat,True∧v=De u (.sl0 5 ep u.kids.length none)∧h=av [wz u,wK,.dead,BI u.head,BI u.words,Zq ep u.kids]):=by
  rcases Nat.eq_zero_or_pos u.kids.length with hk|hk
  · have hk:=List.length_eq_zero_iff.1 hk
    refine aI.dead (i:=2) (JF (Ψ':=fun v h=>v=De u (.sl0 5 0 0 none)∧h=av [wz u,wK,UE u 3 4 .nils,BI u.head,BI u.words,Zq 0 u.kids]) (Zq 0 u.kids) (Yn u hk ht) fun v h' ⟨h1,h2⟩=>⟨De u (.sl0 5 0 0 none),h1▸K9 u Le.sl0n rfl,rfl,?_⟩) (au 2) (by omega) fun v h' ⟨h1,h2⟩=>⟨0,trivial,by simp_all,?_⟩
    · rw[h2];kernel_rfl
    · rw[h2];kernel_rfl
  · refine aI.dead (i:=2) (aI.less (Ψ':=fun v h=>∃ep:Nat,v=De u (.sl0 5 ep u.kids.length none)∧h=av [wz u,wK,UE u 3 4 (.slice 5 ep 0 u.kids.length none),BI u.head,BI u.words,Zq ep u.kids]) (Ym u hk hn ht) fun v h' ⟨y,⟨e1,e2⟩,h1,h2⟩=>⟨De u (.sl0 5 y.1 u.kids.length none),?_,y.1,rfl,?_⟩) (au 2) (by omega) fun v h' ⟨ep,h1,h2⟩=>⟨ep,trivial,h1,?_⟩
    · rw[h1,e1];exact K9 u Le.sl0 rfl
    · simp_all
    · rw[h2];kernel_rfl
/-- The first 'i' elements changed by 'f'. -/
def ka{α:Type}(f:α→α)(l:List α)(i:Nat):List α:=(l.take i).map f++l.drop i
theorem vf{α:Type}{f:α→α}{l:List α}{i:Nat}:(ka f l i).length=l.length:=by
  grind[ka]
theorem vg{α:Type}{f:α→α}{l:List α}{i:Nat}(h:l.length≤i):ka f l i=l.map f:=by
  grind[ka,List.take_of_length_le]
theorem ze{α:Type}[Inhabited α]{f:α→α}{l:List α}{i:Nat}(h:i<l.length):gD (ka f l i) i=gD l i:=by
  have e:((l.take i).map f).length=i:=by grind
  simp_all[ka,gD,pa]
theorem Cf{α:Type}[Inhabited α]{f:α→α}{l:List α}{i:Nat}(h:i<l.length):(ka f l i).set i (f (gD l i))=ka f l (i+1):=by
  have e:((l.take i).map f).length=i:=by grind
  have hg:gD l i=l[i]:=by unfold gD;simp_all
  unfold ka
  rw[List.set_append_right _ _ (by omega),e,Nat.sub_self,hg,Oe h,List.set_cons_zero,Of h,rA,nH]
  rfl
theorem zd{l:List PWord}{i:Nat}(h:i<l.length):(ka gF l i).set i ⟨(gD (ka gF l i) i).text,0,0,0⟩=ka gF l (i+1):=by
  rw[ze h];exact Cf h
theorem O1:∀u:TUnit,nU u≤2^20→(∀x,x∈bo u→x.head.length≤2^20∧x.words.length≤2^20)→kP 283 [eU u] (eU (cE u)):=by
  refine TUnit.ind fun u ih hn ht=>?_
  have hkl:=bd u
  have c1:=(ht u (dq u)).1
  have c2:=(ht u (dq u)).2
  have hc:=Yl u hn ht
  have ihk:∀k,k∈u.kids→kP 283 [eU k] (eU (cE k)):=fun k hk=>ih k hk (b0 (s6 (iq hk)) hn) (fun x hx=>ht x (bA hk hx))
  rw[mK]
  have rr0 b' (h:(List.map aQ (TUnit.mk 0 0 0 u.kind u.label (u.head.map gF) (u.words.map gF) (u.kids.map cE)).head)=b':=by(rw[hx1.2,vg (by(simp only[oN]at *;omega))];rfl)):=h;have rr1 b' (h:(List.map aQ (TUnit.mk 0 0 0 u.kind u.label (u.head.map gF) (u.words.map gF) (u.kids.map cE)).words)=b':=by(rw[hx2.2,vg (by(simp only[oN]at *;omega))];rfl)):=h;have rr2 b' (h:(List.map aK (TUnit.mk 0 0 0 u.kind u.label (u.head.map gF) (u.words.map gF) (u.kids.map cE)).kids)=b':=by(rw[hx3.2,vg (by(simp only[oN]at *;omega))];rfl)):=h;exact bH Tryz.func283<|Mg 2<|Mq hc fun a _=>Mg 10<|M0 (.un 2)<|Mg 7<|LP (0:Nat) u.head [1,2,4,15,16,17,22,23] (fun b c=>([bz 0 0 0 0,bz 1 0 0 0,AV.sl0 3 0 u.head.length none,jq [AV.sl0 3 0 u.head.length none,AV.sl0 4 0 u.words.length none] true,iV 2,iV 0,nV u.head.length,nV b],[aZ 8 false 0 [ab [iV 0,iV 0,iV 0,iV u.kind,ax u.label,AV.sl0 3 0 u.head.length none,AV.sl0 4 0 u.words.length none,AV.sl0 5 a u.kids.length none]],aZ 8 false 0 [ab [iV 0,iV 0,iV 0,iV 0,ax [],af,af,af]],AObj.dead,aZ 4 true 0<|c.map aQ,aZ 4 true 0<|u.words.map aQ,aZ 8 true a<|u.kids.map aK])) (fun a b=>a≤u.head.length∧b=ka gF u.head a) (fun a _=>u.head.length-a) (by exact⟨bG _,rfl⟩) fun b c hx1 d=>have hx1:b≤u.head.length∧c=ka gF u.head b:=hx1;have:c.length=u.head.length:=(by grind[vf]);Ka 0 (Int.ofNat b) (Int.ofNat u.head.length) (fun _ _=>K1 4 .rix (et (aU 0) (sA:b<u.head.length))<|K1 0 (.rst (aQ<|gD c b)<|(c.set b<|PWord.mk (gD c b).text 0 0 0).map aQ) (ce (aU 0) (bW aQ (sA:b<(c).length))<|j4 (f:=aQ) (l:=c) (i:=b) (w:=PWord.mk (gD c b).text 0 0 0))<|Kl 0 31 (jU b)<|Kf 0<|d (b+1) (c.set b<|PWord.mk (gD c b).text 0 0 0) (by grind[zd]) gR) fun _ _=>Mg 9<|LP (0:Nat) u.words [1,2,4,15,16,17,22,23] (fun b d=>([bz 0 0 0 0,bz 1 0 0 0,AV.sl0 4 0 u.words.length none,jq [AV.sl0 3 0 u.head.length none,AV.sl0 4 0 u.words.length none] true,iV 2,iV 1,nV u.words.length,nV b],[aZ 8 false 0 [ab [iV 0,iV 0,iV 0,iV u.kind,ax u.label,AV.sl0 3 0 u.head.length none,AV.sl0 4 0 u.words.length none,AV.sl0 5 a u.kids.length none]],aZ 8 false 0 [ab [iV 0,iV 0,iV 0,iV 0,ax [],af,af,af]],AObj.dead,aZ 4 true 0<|c.map aQ,aZ 4 true 0<|d.map aQ,aZ 8 true a<|u.kids.map aK])) (fun a b=>a≤u.words.length∧b=ka gF u.words a) (fun a _=>u.words.length-a) (by exact⟨bG _,rfl⟩) fun b d hx2 e=>have hx2:b≤u.words.length∧d=ka gF u.words b:=hx2;have:d.length=u.words.length:=(by grind[vf]);Ka 0 (Int.ofNat b) (Int.ofNat u.words.length) (fun _ _=>K1 4 .rix (et (aU 0) (sA:b<u.words.length))<|K1 0 (.rst (aQ<|gD d b)<|(d.set b<|PWord.mk (gD d b).text 0 0 0).map aQ) (ce (aU 0) (bW aQ (sA:b<(d).length))<|j4 (f:=aQ) (l:=d) (i:=b) (w:=PWord.mk (gD d b).text 0 0 0))<|Kl 0 31 (jU b)<|Kf 0<|e (b+1) (d.set b<|PWord.mk (gD d b).text 0 0 0) (by grind[zd]) gR) fun _ _=>Mg 7<|LP (0:Nat) u.kids [1,2,35,36] (fun b e=>([bz 0 0 0 0,bz 1 0 0 0,nV u.kids.length,nV b],[aZ 8 false 0 [ab [iV 0,iV 0,iV 0,iV u.kind,ax u.label,AV.sl0 3 0 u.head.length none,AV.sl0 4 0 u.words.length none,AV.sl0 5 a u.kids.length none]],aZ 8 false 0 [ab [iV 0,iV 0,iV 0,iV 0,ax [],af,af,af]],AObj.dead,aZ 4 true 0<|c.map aQ,aZ 4 true 0<|d.map aQ,aZ 8 true a<|e.map aK])) (fun a b=>a≤u.kids.length∧b=ka cE u.kids a) (fun a _=>u.kids.length-a) (by exact⟨bG _,rfl⟩) fun b e hx3 f=>have hx3:b≤u.kids.length∧e=ka cE u.kids b:=hx3;have:e.length=u.kids.length:=(by grind[vf]);have g:b<u.kids.length→kP (283:FuncId) [eU (gD e b)] (eU (cE (gD e b))):=fun h=>ihk _ (by grind[ze,ge]);Ka 0 (Int.ofNat b) (Int.ofNat u.kids.length) (fun _ _=>K1 7 .rix (et (aU a) (sA:b<u.kids.length))<|Mr (et (aU a)<|rX aK (g:=Go.Ev.eU) aT (sA:b<(e).length))<|Mp (g sA)<|M1 .rix (et (aU a) (sA:b<u.kids.length))<|M3 (.rst (ab [iV (gD e b).act,iV (gD e b).item,iV (gD e b).n,iV (gD e b).kind,ax (gD e b).label,aW<|List.map aQ (gD e b).head,aW<|List.map aQ (gD e b).words,aW<|List.map aK (gD e b).kids])<|(e.set b<|cE<|gD e b).map aK) rt (gS (tR 8 true a 6<|aX iQ e) rt) (ce (aU a) (rX aK (g:=Go.Ev.eU) aT (sA:b<(e).length))<|Dy (f:=aK) (g:=Go.Ev.eU) aT (l:=e) (i:=b) (w:=cE<|gD e b))<|Kl 0 49 (jU b)<|Kf 0<|f (b+1) (e.set b<|cE<|gD e b) (by grind[ze,Cf]) gR) fun _ _=>M2 (.fza 0 7 5 [1,2]<|e.map aK) (vB (tR 4 true 0 5<|aX ip d) (tR 4 true 0 5<|aX ip c) rt rt rt ti) (ce (aU a) (tA aK e u.kids.length (oA:(e).length=u.kids.length))<|aX iQ e)<|M2 (.fza 0 6 4 [1,2]<|d.map aQ) (wR (tR 4 true 0 4<|aX ip c) rt rt rt ti) (ce (aU 0) (tA aQ d u.words.length (oA:(d).length=u.words.length))<|aX ip d)<|M2 (.fza 0 5 3 [1,2]<|c.map aQ) (jQ rt rt rt ti) (ce (aU 0) (tA aQ c u.head.length (oA:(c).length=u.head.length))<|aX ip c)<|Kf 1 (bZ (lc<|lc<|lc<|lc<|lc<|.cons (cW<|rr0<|c.map aQ)<|.cons (cW<|rr1<|d.map aQ)<|.cons (cW<|rr2<|e.map aK) .nil)<|by kernel_rfl:Le _ (AV.agg [iV 0,iV 0,iV 0,iV u.kind,AV.str u.label,AV.ls (c.map aQ),AV.ls (d.map aQ),AV.ls (e.map aK)]))
theorem QZ:Go.Proofs.Builder.Extra Tryz.prog Tryz.ljoin_ren:=by
  repeat' (first|kernel_rfl|(intro w;kernel_rfl)|decide|constructor)
theorem TG(l:List aO)(sep:aO)(h1:l.length≤140737488355328)(h2:(Lib.join l sep).length≤140737488355328):kP 259 [.ls (l.map mN),.str sep] (.str (Lib.join l sep)):=Na (Go.Proofs.enters_of Tryz.func259 (by kernel_rfl) rfl) (fun a b c d e f g h i j k=>Go.Proofs.Any.strings_Join Go.Proofs.Tryz.ljoin QZ a b c d e f g h i j k) (fun a b c d=>Go.Proofs.Any.strings_Join_none Go.Proofs.Tryz.ljoin QZ a b c d) l sep h1 h2
theorem YU:Go.Proofs.Builder.Extra Tryz.prog Tryz.lrep_ren:=by
  repeat' (first|kernel_rfl|(intro w;kernel_rfl)|decide|constructor)
theorem V2(s:aO)(c:Nat)(h1:c≤9223372036854775807)(h2:s.length*c≤140737488355328):kP 300 [.str s,nV c] (.str (Lib.repeatL s c)):=Fu (Go.Proofs.enters_of Tryz.func300 (by kernel_rfl) rfl) (fun a b d e f=>Go.Proofs.Any.strings_Repeat Go.Proofs.Tryz.lrep YU a b d e f) s c h1 h2
theorem Pb(s:aO)(ws:List PWord)(hw:∀w,w∈ws→1≤w.text.length∧w.text.length≤24)(hb:s.length+26*ws.length≤2^40)(hn:ws.length≤2^20):kP 302 [.str s,.ls (ws.map aQ)] (.str (lI s ws)):=by
  have rr0 b' (h:(lI s ws)=b':=by first|rfl|(exact hj0.1.symm)):=h;exact bH Tryz.func302<|Kl 2 8 (ln aQ ws)<|Mg 0<|U9 (0:Nat) ws s [0,7,8,9] (fun a _ b=>([ax b,aW<|ws.map aQ,nV ws.length,nV a],[])) (fun a b c=>(ws).drop a=b∧lI c b=lI s ws∧List.length c+26*b.length≤2^40) (fun _ a _=>a.length) (et rfl<|by first|rfl|(first|simp_all|(refine⟨by(rw[←hj0.1,oz];first|rw[Eu h1]|rw[Et h1 h2]|rw[Es h1 h2]),?_⟩;have q:=hj0.2;simp only[lA,lC,lN]at *;omega))) fun a b c d e=>Mc b (fun a=>have b:=eP d.1 a;have hj0:=gw (J:=fun a b=>lI b a=lI s ws∧List.length b+26*a.length≤2^40) (a:=c) a d.2;Kh 0 b<|Kf 1<|Le.str<|rr0 c) fun b f g=>let i:=[aZ 4 false 0 [ab [ax b.text,iV b.act,iV b.item,iV b.at_]]];have j:=fY d.1 g;have:=am j;have k:=eO (enc:=aQ) d.1 g;have hj0:=cq (J:=fun a b=>lI b a=lI s ws∧List.length b+26*a.length≤2^40) (a:=c) g d.2;have:=hw b<|aR d.1 g;Kt 0 j<|Mx k<|Kv 3 (iM (s:=c) (u:=[32]) (H:=av i) (by(first|first|assumption|omega|grind):(c).length+([32]).length≤2^62))<|K1 2 (.chr<|gD b.text 0) (zY (by first|omega|(simp only[oN,lM,lS]at *;omega)|(simp only[oN,lM,lS,lA,lR,lC,lN]at * <;>omega):0<(b.text).length))<|Kj 1 (Int.ofNat (gD b.text 0).toNat) 124 (fun j _=>Mt j<|Mt j<|Mt j<|MV j<|Kv 1 (iM (s:=c++[32]) (u:=[92]) (H:=av i) (by(first|first|assumption|omega|grind):(c++[32]).length+([92]).length≤2^62))<|Kv 3 (iM (s:=c++[32]++[92]) (u:=b.text) (H:=av i) (by(first|first|assumption|omega|grind):(c++[32]++[92]).length+(b.text).length≤2^62))<|Kl 1 31 (dV a)<|K1 0 (.frz 0 [0,7,8,9]) ti<|Mf<|e (a+1) f (c++[32]++[92]++b.text) (et (bK d.1 g)<|by first|exact⟨rfl,hb⟩|(refine⟨by(rw[←hj0.1,oz];first|rw[Eu j]|rw[Et j h2]|rw[Es j h2]),?_⟩;grind))<|dn g) fun j _=>Kh 0 j<|Kh 0 j<|M1 (.chr<|gD b.text 0) (zY (by first|omega|(simp only[oN,lM,lS]at *;omega)|(simp only[oN,lM,lS,lA,lR,lC,lN]at * <;>omega):0<(b.text).length))<|Mh j<|Kw 0 j<|Mb (ah (Int.ofNat (gD b.text 0).toNat) 92) (fun k=>have:=jZ k;Kv 0 (iM (s:=c++[32]) (u:=[92]) (H:=av i) (by(first|first|assumption|omega|grind):(c++[32]).length+([92]).length≤2^62))<|Kv 3 (iM (s:=c++[32]++[92]) (u:=b.text) (H:=av i) (by(first|first|assumption|omega|grind):(c++[32]++[92]).length+(b.text).length≤2^62))<|Kl 1 31 (dV a)<|K1 0 (.frz 0 [0,7,8,9]) ti<|Mf<|e (a+1) f (c++[32]++[92]++b.text) (et (bK d.1 g)<|by first|exact⟨rfl,hb⟩|(refine⟨by(rw[←hj0.1,oz];first|rw[Eu j]|grind[Et]|rw[Es j k]),?_⟩;grind))<|dn g) fun k=>have:=Lh k;Kv 2 (iM (s:=c++[32]) (u:=b.text) (H:=av i) (by(first|first|assumption|omega|grind):(c++[32]).length+(b.text).length≤2^62))<|Kl 1 31 (dV a)<|K1 0 (.frz 0 [0,7,8,9]) ti<|Mf<|e (a+1) f (c++[32]++b.text) (et (bK d.1 g)<|by first|exact⟨rfl,hb⟩|(refine⟨by(rw[←hj0.1,oz];first|rw[Eu j]|rw[Et j k]|grind[Es]),?_⟩;grind))<|dn g
theorem sY{u:TUnit}(h:md u):md (cE u):=by
  obtain⟨h1,h2⟩:=L9 u
  refine⟨by rw[h1];exact h.1,fun x hx=>?_⟩
  obtain⟨y,hy,rfl⟩:=h2 x hx
  obtain⟨a,b,c,d,e⟩:=h.2 y hy
  rw[mK]
  refine⟨by grind[TUnit.head],by grind[TUnit.words],c,fun w hw=>?_,fun w hw=>?_⟩
  · obtain⟨v,hv,rfl⟩:=kw.1 hw;exact d v hv
  · obtain⟨v,hv,rfl⟩:=kw.1 hw;exact e v hv
theorem BP{u:TUnit}(h:rG u):md (tY u):=by
  have e:bo (tY u)=[tY u]:=by rw[da];exact congrArg _ fN
  refine⟨by rw[iT];exact b0 (v9 (congrArg (1+ ·) l0)) (by omega),fun x hx=>?_⟩
  rw[e]at hx
  rw[pG.1 hx];exact h
theorem Dq(u:TUnit)(h:md u):kP 283 [eU u] (eU (cE u)):=
  O1 u (b0 h.1 (by omega)) fun x hx=>⟨b0 (h.2 x hx).1 (by omega),b0 (h.2 x hx).2.1 (by omega)⟩
theorem P8(u:TUnit)(d:Nat)(hd:d≤2^20)(h:rG u):kP 299 [eU u,nV d] (.bool (DC u d)):=by
  have h1:=Dq (tY u) (BP h)
  have h2:=xr (cE (tY u)) (sY (BP h))
  have hz:=WW d
  have rr0 b' (h:(DC u d)=b':=by first|rfl|(unfold DC;simp only[aS,ak,bS, *];done)):=h;exact bH Tryz.func299<|Kn 13 (ap 8<|Int.ofNat d) (fun a=>Kt 0 (cH a)<|Mp (bX.onArgs (.cons (bZ (lc<|lc<|lc<|lc<|lc<|lc<|lc<|.cons bI .nil)<|by kernel_rfl) .nil) h1:kP 283 [ab [iV 0,iV 0,iV 0,iV u.kind,ax u.label,aW (u.head.map aQ),aW (u.words.map aQ),af]] _)<|Mt (cH a)<|Mp h2<|MV (cH a)<|Kf 0<|cb<|rr0<|ko<|cE<|tY u) fun a=>Mh (bR a)<|Mh (bR a)<|My (bR a)<|Ky 0<|rr0 false
theorem Wa(u:TUnit)(d:Nat)(hd:d≤2^20)(h:rG u)(hm:DC u d=false):kP 285 [eU u,nV d] (.str (f8 u d)):=by
  have h1:=P8 u d hd h
  rw[hm]at h1
  have e:f8 u d=[]:=by unfold f8;simp_all
  rw[e]
  exact bH Tryz.func285<|Kp 3 h1<|Kf 2<|bi<|ax []
def Nv(u:TUnit)(d:Nat)(z18:aO):Prop:=(z18=bif ak (ah u.kind (0:Int))then Lib.repeatL [(32:UInt8),(32:UInt8)] d++c8 u.kind++([(32:UInt8)]++u.label)else Lib.repeatL [(32:UInt8),(32:UInt8)] d++c8 u.kind)∧List.length z18≤(40:Nat)
noncomputable def Nw(u:TUnit)(d:Nat)(z18:aO):List AV×List AObj:=([AV.ptr 0 0 0 0,AV.str z18],[AObj.row 8 false 0 [AV.agg [iV u.act,iV u.item,iV u.n,iV u.kind,AV.str u.label,AV.ls (u.head.map aQ),AV.ls (u.words.map aQ),AV.ls (u.kids.map aK)]]])
def Nk(u:TUnit)(z18:aO)(z27:aO):Prop:=(z27=bif ap (0:Int) (Int.ofNat u.head.length)then lI (z18++[(58:UInt8)]) u.head else z18)∧List.length z27≤(6700:Nat)
noncomputable def Nj(u:TUnit)(z18:aO)(z27:aO):List AV×List AObj:=([AV.ptr 0 0 0 0,AV.str z27],[AObj.row 8 false 0 [AV.agg [iV u.act,iV u.item,iV u.n,iV u.kind,AV.str u.label,AV.ls (u.head.map aQ),AV.ls (u.words.map aQ),AV.ls (u.kids.map aK)]]])
theorem Wy(u:TUnit)(d:Nat)(hd:d≤2^20)(h:rG u)(hm:DC u d=true):kP 285 [eU u,nV d] (.str (f8 u d)):=by
  have h1:=P8 u d hd h
  obtain⟨hd8,hlb,⟨hh1,hh2⟩,hw1,hw2⟩:=KT hm
  have hrl:=Lib.repeatL_length [32,32] d
  simp only[lC,lN]at hrl
  have h2:=V2 [32,32] d (by omega) (by grind)
  have hk:=wD u.kind
  have hkl:=zB u.kind
  have hp1:∀s:aO,s.length≤2^14→kP 302 [.str s,.ls (u.head.map aQ)] (.str (lI s u.head)):=fun s hs=>Pb s u.head hh2 (by omega) (by omega)
  have hp2:∀s:aO,s.length≤2^14→kP 302 [.str s,.ls (u.words.map aQ)] (.str (lI s u.words)):=fun s hs=>Pb s u.words hw2 (by omega) (by omega)
  rw[hm]at h1
  have rr0 b' (h:(f8 u d)=b':=by first|rfl|(unfold f8;rw[hm];simp only[ak,cond_false];rw[←hz18.1,←hz27.1];first|(rw[h3];rfl)|(rw[h4];rfl)|(rw[h5];rfl)|(rw[h6];rfl)|(rw[h7];rfl))):=h;let q1:=[aZ 8 false 0 [ab [iV u.act,iV u.item,iV u.n,iV u.kind,ax u.label,aW (u.head.map aQ),aW (u.words.map aQ),aW (u.kids.map aK)]]];exact bH Tryz.func285<|Kp 3 h1<|Kp 2 h2<|Kp 1 hk<|Mv (iM (s:=Lib.repeatL [32,32] d) (u:=c8 u.kind) (H:=AHeap.mk 1000000 Tr.nil) (by(first|first|assumption|((try simp only[lA,lC,lN]);omega)|(simp only[lA,lC,lN]at *;omega)):(Lib.repeatL [32,32] d).length+(c8 u.kind).length≤2^62))<|Mg 0<|Mj aO [2,5] (Nw u d) (Nv u d) (fun a=>Kn 2 (ah u.kind 0) (fun _=>Kv 2 (iM (s:=[32]) (u:=u.label) (H:=av q1) (by(first|first|assumption|((try simp only[lA,lC,lN]);omega)|(simp only[lA,lC,lN]at *;omega)):([32]).length+(u.label).length≤2^62))<|Mv (iM (s:=Lib.repeatL [32,32] d++c8 u.kind) (u:=32::u.label) (H:=av q1) (by(first|first|assumption|((try simp only[lA,lC,lN]);omega)|(simp only[lA,lC,lN]at *;omega)):(Lib.repeatL [32,32] d++c8 u.kind).length+(32::u.label).length≤2^62))<|Kf 0<|a (Lib.repeatL [32,32] d++c8 u.kind++32::u.label) (by(refine⟨by first|simp_all|(rw[h2];rfl)|(rw[h3];rfl)|(rw[h0];rfl),?_⟩;grind):(Lib.repeatL [(32:UInt8),(32:UInt8)] d++c8 u.kind++(32:UInt8)::u.label=bif ak (ah u.kind (0:Int))then Lib.repeatL [(32:UInt8),(32:UInt8)] d++c8 u.kind++([(32:UInt8)]++u.label)else Lib.repeatL [(32:UInt8),(32:UInt8)] d++c8 u.kind)∧(Lib.repeatL [(32:UInt8),(32:UInt8)] d++c8 u.kind++(32:UInt8)::u.label).length≤40)) fun _=>Mf<|a (Lib.repeatL [32,32] d++c8 u.kind) (by(refine⟨by first|simp_all|(rw[h2];rfl)|(rw[h3];rfl)|(rw[h0];rfl),?_⟩;grind):(Lib.repeatL [(32:UInt8),(32:UInt8)] d++c8 u.kind=bif ak (ah u.kind (0:Int))then Lib.repeatL [(32:UInt8),(32:UInt8)] d++c8 u.kind++([(32:UInt8)]++u.label)else Lib.repeatL [(32:UInt8),(32:UInt8)] d++c8 u.kind)∧(Lib.repeatL [(32:UInt8),(32:UInt8)] d++c8 u.kind).length≤40)) fun a hz18=>have hz18:(a=bif ak (ah u.kind (0:Int))then Lib.repeatL [(32:UInt8),(32:UInt8)] d++c8 u.kind++([(32:UInt8)]++u.label)else Lib.repeatL [(32:UInt8),(32:UInt8)] d++c8 u.kind)∧List.length a≤40:=hz18;Mj aO [2,5] (Nj u a) (Nk u a) (fun b=>Kl 2 26 (ln aQ u.head)<|Kb 0 (ap 0<|Int.ofNat u.head.length) (fun h3=>Kv 0 (iM (s:=a) (u:=[58]) (H:=av q1) (by(first|first|assumption|((try simp only[lA,lC,lN]);omega)|(simp only[lA,lC,lN]at *;omega)):(a).length+([58]).length≤2^62))<|Kp 1 (hp1 (a++[58])<|by first|assumption|((try simp only[lA,lC,lN]);omega))<|Kf 0<|b (lI (a++[58]) u.head) (by(refine⟨by first|simp_all|(rw[h2];rfl)|(rw[h4];rfl)|(rw[h5];rfl),?_⟩;first|omega|(have q:=uM (fun w hw=>(hh2 w hw).2) (a++[58]);grind)):(lI (a++[(58:UInt8)]) u.head=bif ap (0:Int) (Int.ofNat u.head.length)then lI (a++[(58:UInt8)]) u.head else a)∧List.length (lI (a++[(58:UInt8)]) u.head)≤6700)) fun h3=>Mf<|b a (by(refine⟨by first|simp_all|(rw[h2];rfl)|(rw[h4];rfl)|(rw[h5];rfl),?_⟩;first|omega|(have q:=uM (fun w hw=>(hh2 w hw).2) (a++[58]);simp only[lA,lC,lN]at q;omega)):(a=bif ap (0:Int) (Int.ofNat u.head.length)then lI (a++[(58:UInt8)]) u.head else a)∧List.length a≤6700)) fun b hz27=>have hz27:(b=bif ap (0:Int) (Int.ofNat u.head.length)then lI (a++[(58:UInt8)]) u.head else a)∧List.length b≤6700:=hz27;Kl 2 35 (ln aQ u.words)<|Kb 0 (ap 0<|Int.ofNat u.words.length) (fun h4=>Kv 0 (iM (s:=b) (u:=[32,124]) (H:=av q1) (by(first|first|assumption|((try simp only[lA,lC,lN]);omega)|(simp only[lA,lC,lN]at *;omega)):(b).length+([32,124]).length≤2^62))<|Kp 1 (hp2 (b++[32,124])<|by first|assumption|((try simp only[lA,lC,lN]);omega))<|Kf 2<|Le.str<|rr0<|lI (b++[32,124]) u.words) fun h4=>Kf 1<|Le.str<|rr0 b
theorem K8(u:TUnit)(d:Nat)(hd:d≤2^20)(h:rG u):kP 285 [eU u,nV d] (.str (f8 u d)):=by
  grind[Wa,Wy]
noncomputable abbrev Ht(ep n:Nat):AObj:=.row 1 false 0 [.slice 2 ep 0 n none]
noncomputable abbrev Ef:AObj:=.row 1 false 0 [.func (.func 284) [] [.ptr 0 0 0 0,.ptr 1 0 0 0]]
noncomputable abbrev FK(ep:Nat)(l:List aO):AObj:=.row 1 true ep (l.map mN)
def sB(u:TUnit)(d:Nat)(l:List aO)(x0:Nat×List TUnit×Nat×Nat×List aO):Prop:=(u.kids).drop x0.1=x0.2.1∧x0.2.2.2.1=x0.2.2.2.2.length∧x0.2.2.2.2++dX (d+(1:Nat)) x0.2.1=l++[f8 u d]++dX (d+(1:Nat)) u.kids∧x0.2.2.2.2.length+eW x0.2.1≤2^20
noncomputable def su(u:TUnit)(d:Nat)(l:List aO)(x0:Nat×List TUnit×Nat×Nat×List aO):List AV×List AObj:=([nV d,AV.ptr 1 0 0 0,AV.ls (u.kids.map aK),nV u.kids.length,nV x0.1],[AObj.row 1 false 0 [AV.slice 2 x0.2.2.1 0 x0.2.2.2.1 none],AObj.row 1 false 0 [AV.func (Fn.func 284) [] [AV.ptr 0 0 0 0,AV.ptr 1 0 0 0]],AObj.row 1 true x0.2.2.1 (x0.2.2.2.2.map mN)])
theorem Yq:∀(u:TUnit)(d ep n:Nat)(l:List aO),n=l.length→l.length+nU u≤2^20→d+nU u≤2^20→(∀x,x∈bo u→rG x)→kC 284 [eU u,nV d,.ptr 0 0 0 0,.ptr 1 0 0 0] (av [Ht ep n,Ef,FK ep l])
    (fun v h=>∃y:Nat×Nat×List aO,(y.2.1=y.2.2.length∧y.2.2=l++eY d u)∧v=.tuple []∧h=av [Ht y.1 y.2.1,Ef,FK y.1 y.2.2]):=by
  refine TUnit.ind fun u ih d ep n l hn hl hd ht=>?_
  have hq:=iT u
  have hkl:=bd u
  have hf:=K8 u d (by omega) (ht u (dq u))
  have ihk:∀k,k∈u.kids→∀(d ep n:Nat)(l:List aO),n=l.length→l.length+nU k≤2^20→d+nU k≤2^20→kC 284 [eU k,nV d,.ptr 0 0 0 0,.ptr 1 0 0 0] (av [Ht ep n,Ef,FK ep l])
    (fun v h=>∃y:Nat×Nat×List aO,(y.2.1=y.2.2.length∧y.2.2=l++eY d k)∧v=.tuple []∧h=av [Ht y.1 y.2.1,Ef,FK y.1 y.2.2]):=fun k hk d ep n l a b c=>ih k hk d ep n l a b c (fun x hx=>ht x (bA hk hx))
  exact pO Tryz.func284 fun e=>Kp 3 hf<|Mg 0<|Mw (.apx ((l++[f8 u d]).map mN)<|.go 3<|.le 16 (nV u.kids.length)<|.go 0<|.frz 3 [1,3,15,16,17]<|.loop (Nat×List TUnit×Nat×Nat×List aO) [1,3,15,16,17] (su u d l) (sB u d l) (fun e=>e.2.1.length) (0,u.kids,(ep+1,n+1,l++[f8 u d])) fun e=>.cs TUnit e.2.1 (.go 0<|.ff .fin) fun f _=>.go 0<|.tt<|.elem (eU f)<|.go 6<|.le 24 (nV<|d+1)<|.frz 3 [1,3,15,16,17,21,22,24]<|.eff (Nat×Nat×List aO) (fun _=>bO []) (fun e=>av [Ht e.1 e.2.1,Ef,FK e.1 e.2.2]) (fun g=>g.2.1=g.2.2.length∧g.2.2=e.2.2.2.2++eY (d+1) f) fun _=>.go 0<|.le 26 (nV<|e.1+1)<|.go 0 .fin)<|et9 rt (gS (tR 1 true ep 4<|aX Ja l) rt) (et (pw _ _:([ax (f8 u d)]:List AV)≠[]) rt) (et (ce (aU ep) (by first|assumption|omega|simp_all|(refine aN (m:=2^31) ?_ ?_ ?_<;>(try simp only[lM,lC,lN])<;>omega):n=(l.map mN).length) (by first|assumption|omega|(simp only[lM];omega)|(refine aN (m:=2^31) ?_ ?_ ?_<;>(try simp only[lM,lC,lN])<;>omega):small (n+([AV.str (f8 u d)]).length) 16=true))<|dQ (f:=mN) (l:=l) (ws:=[f8 u d])) (ln aK u.kids) (jQ (tR 1 true (ep+1) 3<|aX Ja<|l++[f8 u d]) rt rt ti) (aU<|su u d l (0,u.kids,(ep+1,n+1,l++[f8 u d]))) (et (rfl:List.drop 0 (u.kids)=u.kids) (by first|rfl|(first|grind|(have h1:=hj0.2.1;have h2:=hj0.2.2;rw[bf]at h2;rw[l8]at h1;exact⟨hy1.1,(by rw[hy1.2,←h1];simp),(by rw[hy1.2,lA,kB];omega)⟩)):(n+1=(l++[f8 u d]).length∧l++[f8 u d]++dX (d+1) u.kids=l++[f8 u d]++dX (d+1) u.kids∧(l++[f8 u d]).length+eW u.kids≤2^20))) fun(f:Nat×List TUnit×Nat×Nat×List aO)(g:(sB u d l) f)=>et (fun(i:f.2.1=[])=>have j:=eP g.1 i;have:=gw (J:=fun e f=>f.2.1=f.2.2.length∧f.2.2++dX (d+1) e=l++[f8 u d]++dX (d+1) u.kids∧f.2.2.length+eW e≤2^20) (a:=f.2.2) i g.2;et j<|e (f.2.2.1,f.2.2.2.1,f.2.2.2.2)<|by first|grind[wt,Ch]|rfl) fun(e:TUnit)(i:List TUnit)(j:f.2.1=e::i)=>have o:=fY g.1 j;have:=am o;have p:=(eO (enc:=aK) g.1 j).trans<|congrArg some<|aT e;have:=cq (J:=fun e f=>f.2.1=f.2.2.length∧f.2.2++dX (d+1) e=l++[f8 u d]++dX (d+1) u.kids∧f.2.2.length+eW e≤2^20) (a:=f.2.2) j g.2;have q:=aR g.1 j;have r:f.2.2.2.2.length+nU e≤2^20:=(by grind[bf]);have s:d+1+nU e≤2^20:=(by have:=iq q;omega);vB o p (jU d) (jQ (tR 1 true f.2.2.1 3<|aX Ja f.2.2.2.2) rt rt ti) (ihk e q (d+1) f.2.2.1 f.2.2.2.1 f.2.2.2.2 (by first|assumption|omega|(simp only[lM];omega)|(refine aN (m:=2^31) ?_ ?_ ?_<;>(try simp only[lM,lC,lN])<;>omega)) r s) fun(o:Nat×Nat×List aO)(_:o.2.1=o.2.2.length∧o.2.2=f.2.2.2.2++eY (d+1) e)=>et (jU f.1)<|Nx.mk (I:=sB u d l) (m:=fun e=>e.2.1.length) (S:=su u d l) (x:=f) (f.1+1,i,(o.1,o.2.1,o.2.2)) (et (bK g.1 j) (by first|exact⟨by simp[hn],rfl,by simp;omega⟩|grind[bf,l8,kB]:(o.2.1=o.2.2.length∧o.2.2++dX (d+1) i=l++[f8 u d]++dX (d+1) u.kids∧o.2.2.length+eW i≤2^20)))<|dn j
theorem Yz(u:TUnit)(d:Nat)(hl:nU u≤2^19)(hd:d+nU u≤2^20)(ht:∀x,x∈bo u→rG x):kC 284 [eU u,nV d,.ptr 0 0 0 0,.ptr 1 0 0 0] (av [.row 1 false 0 [.nils],Ef])
    (fun v h=>∃y:Nat×Nat×List aO,(y.2.1=y.2.2.length∧y.2.2=eY d u)∧v=.tuple []∧h=av [Ht y.1 y.2.1,Ef,FK y.1 y.2.2]):=by
  have hq:=iT u
  have hkl:=bd u
  have hf:=K8 u d (by omega) (ht u (dq u))
  have ihk:∀k,k∈u.kids→∀(d ep n:Nat)(l:List aO),n=l.length→l.length+nU k≤2^20→d+nU k≤2^20→kC 284 [eU k,nV d,.ptr 0 0 0 0,.ptr 1 0 0 0] (av [Ht ep n,Ef,FK ep l])
    (fun v h=>∃y:Nat×Nat×List aO,(y.2.1=y.2.2.length∧y.2.2=l++eY d k)∧v=.tuple []∧h=av [Ht y.1 y.2.1,Ef,FK y.1 y.2.2]):=fun k hk d ep n l a b c=>Yq k d ep n l a b c (fun x hx=>ht x (bA hk hx))
  exact pO Tryz.func284 fun e=>Kp 3 hf<|Kl 5 16 (ln aK u.kids)<|Mg 0<|M0 (.ren [0,1,3,2] [] [1,3,15,16,17])<|M1 (.frz 3 [1,3,15,16,17]) (jQ rt rt rt ti)<|U8 aK u.kids (0:Nat) (1:Nat) ([f8 u d]:List aO) [1,3,15,16,17] (fun e _ f g i=>([nV d,bz 1 0 0 0,aW<|u.kids.map aK,nV u.kids.length,nV e],[aZ 1 false 0 [aM 2 f 0 g none],aZ 1 false 0 [bU (bY 284) [] [bz 0 0 0 0,bz 1 0 0 0]],aZ 1 true f<|i.map mN])) (fun e _ f g=>f=g.length∧g++dX (d+1) e=[f8 u d]++dX (d+1) u.kids∧g.length+eW e≤2^20) (by first|rfl|(first|grind|(have h1:=hj0.2.1;have h2:=hj0.2.2;rw[bf]at h2;rw[l8]at h1;exact⟨hy1.1,(by rw[hy1.2,←h1];simp),(by rw[hy1.2,lA,kB];omega)⟩))) (fun _ _ f g i _ _ _ j _=>Kh 0 j<|Mf<|e (f,g,i)<|by first|grind[wt,Ch]|rfl) fun e _ f g i j m o p q r s _ t _=>have t:=(t).trans<|congrArg some<|aT o;have:=cq (J:=fun e f=>f.2.1=f.2.2.length∧f.2.2++dX (d+1) e=[f8 u d]++dX (d+1) u.kids∧f.2.2.length+eW e≤2^20) (a:=(f,g,i)) r m;have j:=aR j r;have m:i.length+nU o≤2^20:=(by grind[bf]);have r:d+1+nU o≤2^20:=(by have:=iq j;omega);Kt 0 s<|Mx t<|Kl 6 24 (jU d)<|M1 (.frz 3 [1,3,15,16,17,21,22,24]) (jQ (tR 1 true f 3<|aX Ja i) rt rt ti)<|Mq (ihk o j (d+1) f g i (by first|assumption|omega) m r) fun f _=>Kl 0 26 (jU e)<|Kf 0<|q f.1 f.2.1 f.2.2<|by first|exact⟨by simp[hl],rfl,by simp;omega⟩|grind[bf,l8,kB]
theorem Wv(u:TUnit)(h:md u)(hv:ko (cE u)=false):kP 258 [eU u] (.ls (([]:List aO).map mN)):=by
  have h1:=Dq u h
  have h2:=xr (cE u) (sY h)
  exact bH Tryz.func258<|Kp 2 h1<|Mp h2<|Kt 0 (cH hv)<|Kf 0 bI
theorem Ww(u:TUnit)(h:md u)(hv:ko (cE u)=true):kP 258 [eU u] (.ls ((eY 0 u).map mN)):=by
  have h1:=Dq u h
  have h2:=xr (cE u) (sY h)
  have h3:=Yz u 0 h.1 (by have:=h.1;omega) h.2
  have rr0 b' (h:((eY 0 u).map mN)=b':=by first|rfl|(rw[hy0.2])):=h;exact bH Tryz.func258<|Kp 2 h1<|Mp h2<|Kh 0 (bR hv)<|Mg 5<|M0 (.ren [1,2,0] [] [3,10,11])<|M1 (.frz 2 [3,10,11]) (ce rt rt ti)<|Mq h3 fun a hy0=>Mg 1<|M2 (.fsl 0 [] 2<|a.2.2.map mN) ti (ce (aU a.1) (tA mN a.2.2 a.2.1 (by first|assumption|omega:(a.2.2).length=a.2.1))<|aX Ja a.2.2)<|Ml 2 (fg (a.2.2.map mN) false<|aX Ja a.2.2)<|Mf<|cW<|rr0<|a.2.2.map mN
theorem Yc(u:TUnit)(h:md u)(hv:ko (cE u)=false):kP 234 [eU u] (.tuple [.str (xg u).1,iV (xg u).2]):=by
  have h1:=Wv u h hv
  have e:xg u=([],1):=by unfold xg;simp_all
  rw[e]
  exact bH Tryz.func234<|Kp 3 h1<|Kf 6<|bi<|bO [ax [],iV 1]
theorem Yb(u:TUnit)(h:md u)(hv:ko (cE u)=true):kP 234 [eU u] (.tuple [.str (xg u).1,iV (xg u).2]):=by
  have h1:=Ww u h hv
  have hlen:=kB 0 u
  have hq:=iT u
  have hm:=h.1
  have hjl:=Qx (sep:=[10]) (B:=2^14) (l:=eY 0 u) (fun s hs=>zo 0 u s hs)
  rw[hlen]at hjl
  have hj2:(Lib.join (eY 0 u) [10]).length≤140737488355328:=b0 hjl (b0 (eA _ hm) (by grind))
  have hj3:(Lib.join (eY 0 u) [10]).length≤2^40:=b0 hjl (b0 (eA _ hm) (by grind))
  have hj:=TG (eY 0 u) [10] (by omega) hj2
  have hz:ah (.ofNat (eY 0 u).length) 0=false:=by grind[RY]
  have e:xg u=(bif ap 16384 (.ofNat (Lib.join (eY 0 u) [10]++[10]).length)then([],6)else(Lib.join (eY 0 u) [10]++[10],0)):=by unfold xg;simp_all
  rw[e]
  clear e
  generalize Lib.join (eY 0 u) [10]=J at *
  cases hb:ap 16384 (.ofNat (J++[10]).length)
  · have hb2:ap 16384 (.ofNat (J++[10]).length)=false:=hb
    exact bH Tryz.func234<|Kp 3 h1<|Kl 2 9 (ln mN<|eY 0 u)<|Kh 0 hz<|Kp 0 hj<|Mv (iM (s:=J) (u:=[10]) (H:=av [aZ 8 false 0 [ab [iV u.act,iV u.item,iV u.n,iV u.kind,ax u.label,aW<|u.head.map aQ,aW<|u.words.map aQ,aW<|u.kids.map aK]]]) (by(first|first|assumption|grind|omega|(simp only[lA,lC,lN]at *;omega)):(J).length+([10]).length≤2^62))<|Kh 3 hb<|Kf 2<|bi<|bO [ax<|J++[10],iV 0]
  · have hb2:ap 16384 (.ofNat (J++[10]).length)=true:=hb
    exact bH Tryz.func234<|Kp 3 h1<|Kl 2 9 (ln mN<|eY 0 u)<|Kh 0 hz<|Kp 0 hj<|Mv (iM (s:=J) (u:=[10]) (H:=av [aZ 8 false 0 [ab [iV u.act,iV u.item,iV u.n,iV u.kind,ax u.label,aW<|u.head.map aQ,aW<|u.words.map aQ,aW<|u.kids.map aK]]]) (by(first|first|assumption|grind|omega|(simp only[lA,lC,lN]at *;omega)):(J).length+([10]).length≤2^62))<|Kt 3 hb<|Kf 1<|bi<|bO [ax [],iV 6]
theorem WG(u:TUnit)(h:md u):kP 234 [eU u] (.tuple [.str (xg u).1,iV (xg u).2]):=by
  grind[Yc,Yb]
def Wf(u:TUnit):Bool:=HE u&&(ak (ah u.kind 0)&&ah (xg u).2 0)
theorem We(u:TUnit)(h:md u):kP 177 [eU u] (.bool (Wf u)):=by
  have q1:=WG u h
  have q2:=Xf u h
  have rr0 b' (h:(Wf u)=b':=by first|rfl|(unfold Wf;rw[h0];rfl)|(unfold Wf;rw[h0,h1];rfl)|(unfold Wf;rw[h0,h1,h2];rfl)):=h;exact bH Tryz.func177<|Kp 2 q1<|Kp 5 q2<|Kb 0 (HE u) (fun h0=>Kt 0 h0<|Kt 0 h0<|Ku 0 h0<|Kn 0 (ah u.kind 0) (fun h1=>Kt 0 (cH h1)<|Ku 0 (cH h1)<|Kf 0<|cb<|rr0<|ah (xg u).2 0) fun h1=>Mh (bR h1)<|My (bR h1)<|Ky 0<|rr0 false) fun h0=>Mh h0<|Mh h0<|My h0<|Ky 2<|rr0 false
/-- What an item must be, so that the walks can count. -/
def xH(x:PItem):Prop:=m6 x∧(x.at_.length<2^40∧∀s,s∈x.at_→s.label.length≤2^39)∧(x.to.length<2^40∧∀s,s∈x.to→s.label.length≤2^39)∧(x.old.length<2^40∧∀s,s∈x.old→s.length≤2^39)∧(x.new.length<2^40∧∀s,s∈x.new→s.length≤2^39)∧x.label.length≤2^39∧x.for_.length≤2^39∧x.start.event.length≤2^39∧md x.unit
/-- What a valid item is known to be. -/
def zR(x:PItem):Prop:=(x.kind=0∨x.kind=6→ie x.where_=true)∧(x.kind=0→Wf x.unit=true)∧(x.kind=2∨x.kind=3→qJ x.old=true∧Bw x.nth_=true)∧(x.kind=2∨x.kind=3∨x.kind=4→qJ x.new=true)
theorem qX{l:List aO}{n:Int}(h:qW l n=true):qJ l=true:=by
  simp_all[qW]
theorem VE(x:PItem)(hx:xH x)(h0:0≤x.kind)(h6:x.kind≤6):∃b,kP 106 [eI x] (.bool b)∧(b=true→zR x):=by
  obtain⟨k,a,t,w,n,u,o,ne,l,f,s,ac,im,d,e,bs⟩:=x
  obtain⟨hf,⟨ha,has⟩,⟨ht,hts⟩,⟨ho,hos⟩,⟨hn,hns⟩,hl,hfo,hse,hu⟩:=hx
  have hz:jo bb:=⟨by grind,by grind,by grind,trivial⟩
  have n0:(0:Nat)<2^60:=by omega
  obtain⟨f1,f2,f3,f4,f5,f6,f7⟩:=hf
  have hff:∀k w n,m6 ⟨k,a,t,w,n,u,o,ne,l,f,s,ac,im,d,e,bs⟩:=fun _ _ _=>⟨f1,f2,f3,f4,f5,f6,f7⟩
  have h0:0≤k:=h0
  have h6:k≤6:=h6
  have hk:k=0∨k=1∨k=2∨k=3∨k=4∨k=5∨k=6:=by omega
  rcases hk with rfl|rfl|rfl|rfl|rfl|rfl|rfl
  · refine⟨_,oe ⟨0,a,t,w,n,u,o,ne,l,f,s,ac,im,d,e,bs⟩ (nE ⟨0,a,t,w,n,u,o,ne,l,f,s,ac,im,d,e,bs⟩ 0) 174 175 _ _ rfl rfl (Us _) (sG _ (hff _ _ _) (wL ⟨0,a,t,w,n,u,o,ne,l,f,s,ac,im,d,e,bs⟩ (nE ⟨0,a,t,w,n,u,o,ne,l,f,s,ac,im,d,e,bs⟩ 0)) ⟨f1,n0,n0,n0,n0,f6,trivial⟩) (Tt a t w n u o ne l f s ac im d e bs (Wf u) (We u hu)) ha has hfo hse,fun h=>?_⟩
    simp only[bx]at h
    exact⟨fun _=>h.2.2.2.2.1,fun _=>h.2.2.2.2.2,fun q=>(by rcases q with q|q<;>cases q),fun q=>(by rcases q with q|q|q<;>cases q)⟩
  · refine⟨_,oe ⟨1,a,t,w,n,u,o,ne,l,f,s,ac,im,d,e,bs⟩ (nE ⟨1,a,t,w,n,u,o,ne,l,f,s,ac,im,d,e,bs⟩ 1) 178 179 _ _ rfl rfl (Ur _) (sG _ (hff _ _ _) (wL ⟨1,a,t,w,n,u,o,ne,l,f,s,ac,im,d,e,bs⟩ (nE ⟨1,a,t,w,n,u,o,ne,l,f,s,ac,im,d,e,bs⟩ 1)) ⟨f1,n0,n0,n0,n0,hz,trivial⟩) (Ts a t w n u o ne l f s ac im d e bs) ha has hfo hse,fun h=>?_⟩
    exact⟨fun q=>(by rcases q with q|q<;>cases q),fun q=>(by cases q),fun q=>(by rcases q with q|q<;>cases q),fun q=>(by rcases q with q|q|q<;>cases q)⟩
  · refine⟨_,oe ⟨2,a,t,w,n,u,o,ne,l,f,s,ac,im,d,e,bs⟩ (nE ⟨2,a,t,w,n,u,o,ne,l,f,s,ac,im,d,e,bs⟩ 2) 180 181 _ _ rfl rfl (Up _) (sG _ (hff _ _ _) (wL ⟨2,a,t,w,n,u,o,ne,l,f,s,ac,im,d,e,bs⟩ (nE ⟨2,a,t,w,n,u,o,ne,l,f,s,ac,im,d,e,bs⟩ 2)) ⟨f1,n0,f3,f4,n0,hz,trivial⟩) (Tp a t w n u o ne l f s ac im d e bs ho hn hos hns) ha has hfo hse,fun h=>?_⟩
    simp only[bx]at h
    exact⟨fun q=>(by rcases q with q|q<;>cases q),fun q=>(by cases q),fun _=>⟨qX h.2.2.2.2.1,h.2.2.2.2.2.2⟩,fun _=>qX h.2.2.2.2.2.1⟩
  · refine⟨_,oe ⟨3,a,t,w,n,u,o,ne,l,f,s,ac,im,d,e,bs⟩ (nE ⟨3,a,t,w,n,u,o,ne,l,f,s,ac,im,d,e,bs⟩ 3) 184 185 _ _ rfl rfl (Uo _) (sG _ (hff _ _ _) (wL ⟨3,a,t,w,n,u,o,ne,l,f,s,ac,im,d,e,bs⟩ (nE ⟨3,a,t,w,n,u,o,ne,l,f,s,ac,im,d,e,bs⟩ 3)) ⟨f1,n0,f3,f4,n0,hz,trivial⟩) (To a t w n u o ne l f s ac im d e bs ho hn hos hns) ha has hfo hse,fun h=>?_⟩
    simp only[bx]at h
    exact⟨fun q=>(by rcases q with q|q<;>cases q),fun q=>(by cases q),fun _=>⟨qX h.2.2.2.2.1,h.2.2.2.2.2.2.1⟩,fun _=>qX h.2.2.2.2.2.1⟩
  · refine⟨_,oe ⟨4,a,t,w,n,u,o,ne,l,f,s,ac,im,d,e,bs⟩ (nE ⟨4,a,t,w,n,u,o,ne,l,f,s,ac,im,d,e,bs⟩ 4) 186 187 _ _ rfl rfl (Un _) (sG _ (hff _ _ _) (wL ⟨4,a,t,w,n,u,o,ne,l,f,s,ac,im,d,e,bs⟩ (nE ⟨4,a,t,w,n,u,o,ne,l,f,s,ac,im,d,e,bs⟩ 4)) ⟨f1,n0,n0,f4,n0,hz,trivial⟩) (Tn a t w n u o ne l f s ac im d e bs hn hns) ha has hfo hse,fun h=>?_⟩
    simp only[bx]at h
    exact⟨fun q=>(by rcases q with q|q<;>cases q),fun q=>(by cases q),fun q=>(by rcases q with q|q<;>cases q),fun _=>qX h.2.2.2.2⟩
  · refine⟨_,oe ⟨5,a,t,w,n,u,o,ne,l,f,s,ac,im,d,e,bs⟩ (nE ⟨5,a,t,w,n,u,o,ne,l,f,s,ac,im,d,e,bs⟩ 5) 188 189 _ _ rfl rfl (Um _) (sG _ (hff _ _ _) (wL ⟨5,a,t,w,n,u,o,ne,l,f,s,ac,im,d,e,bs⟩ (nE ⟨5,a,t,w,n,u,o,ne,l,f,s,ac,im,d,e,bs⟩ 5)) ⟨f1,n0,n0,n0,n0,hz,trivial⟩) (Tm a t w n u o ne l f s ac im d e bs hl) ha has hfo hse,fun h=>?_⟩
    exact⟨fun q=>(by rcases q with q|q<;>cases q),fun q=>(by cases q),fun q=>(by rcases q with q|q<;>cases q),fun q=>(by rcases q with q|q|q<;>cases q)⟩
  · refine⟨_,oe ⟨6,a,t,w,n,u,o,ne,l,f,s,ac,im,d,e,bs⟩ (nE ⟨6,a,t,w,n,u,o,ne,l,f,s,ac,im,d,e,bs⟩ 6) 191 192 _ _ rfl rfl (Ul _) (sG _ (hff _ _ _) (wL ⟨6,a,t,w,n,u,o,ne,l,f,s,ac,im,d,e,bs⟩ (nE ⟨6,a,t,w,n,u,o,ne,l,f,s,ac,im,d,e,bs⟩ 6)) ⟨f1,f2,n0,n0,n0,hz,trivial⟩) (Tl a t w n u o ne l f s ac im d e bs ht hts) ha has hfo hse,fun h=>?_⟩
    simp only[bx]at h
    exact⟨fun _=>h.2.2.2.2.1,fun q=>(by cases q),fun q=>(by rcases q with q|q<;>cases q),fun q=>(by rcases q with q|q|q<;>cases q)⟩
theorem wl{u:TUnit}(h:OkB u):∀x,x∈bo u→x.head.length<2^30∧x.words.length<2^30:=fun x hx=>⟨m9 (h.w x hx).1 (by omega),m9 (h.w x hx).2 (by omega)⟩
theorem Di(p:PId)(u:TUnit)(hn:nU u≤1024): -1≤qY p u∧qY p u≤2^20:=by
  cases h:hJ p u with
  |false=>rw[Po h];omega
  | true=>
    obtain⟨q,i,h1,_,h3,h4,_⟩:=vk u h
    have:=dM h1
    grind[bd]
theorem xR(w:Int)(u:TUnit)(p:PId)(hn:nU u≤1024): -1≤(dc w u p).1.at_∧(dc w u p).1.at_≤2^41:=by
  have hb:=Di p u hn
  have key:∀n:Int,0≤n→n≤1→ -1≤(ny u p n).1.at_∧(ny u p n).1.at_≤2^41:=fun n h0 h1=>by
    unfold ny
    cases hJ p u
    · exact⟨by show(-1:Int)≤0;omega,by show(0:Int)≤_;omega⟩
    grind
  unfold dc
  cases ah w 0
  · cases ah w 1
    · grind
    · show -1≤Int.ofNat _∧Int.ofNat _≤2^41
      have:(ef p u).kids.length≤1024:=by
        cases h:cV p u with
        | true=>
          have:=dM (vz h).1
          grind[bd]
        |false=>unfold ef;rw[h];exact bG _
      grind
  simp_all
theorem vu{u:TUnit}(hu:OkB u)(p:PId):kP 62 [eU u,aV p] (.tuple [eU (ef p u),.bool (cV p u)]):=Q4 p u (b0 hu.n (by omega)) (wl hu)
theorem j8{u:TUnit}(hu:OkB u)(p:PId):kP 171 [eU u,aV p] (.tuple [aV (se p u),iV (qY p u),.bool (hJ p u)]):=Pi p u (b0 hu.n (by omega))
theorem wg{u:TUnit}(hu:OkB u)(p:List PStep)(hp:p.length<2^40∧∀s,s∈p→s.label.length≤2^39):kP 107 [eU u,.ls (p.map az)] (.tuple [aV (aF u p).1,iV (aF u p).2]):=
  Np u p (UU u p (b0 hu.n (by omega)) hp.1 hp.2) (b0 hu.n (by omega))
theorem LW{u:TUnit}(hu:OkB u)(p:PId):kP 273 [eU u,aV p] (.tuple [fz (dc 0 u p).1,iV (dc 0 u p).2]):=QY u _ p _ (vu hu p)
theorem LX{u:TUnit}(hu:OkB u)(p:PId):kP 276 [eU u,aV p] (.tuple [fz (dc 1 u p).1,iV (dc 1 u p).2]):=QV u _ p _ (vu hu p)
theorem LZ{u:TUnit}(hu:OkB u)(p:PId):kP 278 [eU u,aV p] (.tuple [fz (dc 2 u p).1,iV (dc 2 u p).2]):=QK u p _ _ _ (j8 hu p) (by have:=Di p u hu.n;omega)
theorem LQ{u:TUnit}(hu:OkB u)(p:PId):kP 280 [eU u,aV p] (.tuple [fz (dc 3 u p).1,iV (dc 3 u p).2]):=QJ u p _ _ _ (j8 hu p) (by have:=Di p u hu.n;omega)
theorem wY{w:Int}(h:ie w=true):w=0∨w=1∨w=2∨w=3:=by
  unfold ie at h
  rw[bx]at h
  have h1:=gv h.1
  have h2:=gv h.2
  omega
/-- Where a unit is inserted. -/
theorem TV{u:TUnit}(hu:OkB u)(p:List PStep)(hp:p.length<2^40∧∀s,s∈p→s.label.length≤2^39)(w:Int)(hw:ie w=true):kP 210 [eU u,.ls (p.map az),iV w]
    (.tuple [aV (CX (aF u p).2 (dc w u (aF u p).1).1 (dc w u (aF u p).1).2).1.id,iV (CX (aF u p).2 (dc w u (aF u p).1).1 (dc w u (aF u p).1).2).1.at_,iV (CX (aF u p).2 (dc w u (aF u p).1).1 (dc w u (aF u p).1).2).2]):=by
  rcases wY hw with rfl|rfl|rfl|rfl
  · exact qT 0 _ rfl rfl u p _ _ _ _ (wg hu p hp) (LW hu _)
  · exact qT 1 _ rfl rfl u p _ _ _ _ (wg hu p hp) (LX hu _)
  · exact qT 2 _ rfl rfl u p _ _ _ _ (wg hu p hp) (LZ hu _)
  · exact qT 3 _ rfl rfl u p _ _ _ _ (wg hu p hp) (LQ hu _)
theorem WA{u:TUnit}(hu:OkB u)(p q:PId)(w:Int)(hw:ie w=true):∃bs,kP 212 [eU u,aV p,aV q,iV w]
    (.tuple [fz (nC p q (se p u) (qY p u) (hJ p u) ((pA q u).any (bu p)) bs (dc w u q).1 (dc w u q).2).1,iV (nC p q (se p u) (qY p u) (hJ p u) ((pA q u).any (bu p)) bs (dc w u q).1 (dc w u q).2).2]):=by
  have hb:=Di p u hu.n
  have hb: -1≤qY p u∧qY p u≤2^40:=by omega
  have hn:nU u≤2^20:=b0 hu.n (by omega)
  have hal:(pA q u).length<2^40:=by
    grind[lP,pA]
  have hC:=LA (pA q u) p hal
  rcases wY hw with rfl|rfl|rfl|rfl
  · exact⟨_,GB 0 _ rfl rfl rfl u p q _ _ _ _ _ _ _ hb (xR 0 u q hu.n) (j8 hu p) (HL q u hn) hC (LW hu q)⟩
  · exact⟨_,GB 1 _ rfl rfl rfl u p q _ _ _ _ _ _ _ hb (xR 1 u q hu.n) (j8 hu p) (HL q u hn) hC (LX hu q)⟩
  · exact⟨_,QF u p q _ _ _ _ _ _ _ hb (xR 2 u q hu.n) (j8 hu p) (HL q u hn) hC (LZ hu q)⟩
  · exact⟨_,QE u p q _ _ _ _ _ _ _ hb (xR 3 u q hu.n) (j8 hu p) (HL q u hn) hC (LQ hu q)⟩
theorem GN{B:Nat}:∀{l:List TUnit},(∀x,x∈l→(nQ x).length≤B)→(l.flatMap nQ).length≤B*l.length
  |[],_=>bG _
  | x::r,h=>by
    have h1:=h x eu
    have h2:=GN (l:=r) fun y hy=>h y (eN _ hy)
    rw[List.flatMap_cons,lA,lC,Nat.mul_succ];omega
theorem OT{u:TUnit}(h:md u):(mS u).length≤2^29:=by
  rw[Sq]
  have h1:∀x,x∈bo u→(nQ x).length≤600:=fun x hx=>by
    obtain⟨a,b,_⟩:=h.2 x hx
    unfold nQ;rw[lA];omega
  have h2:=GN h1
  have h3:(bo u).length=nU u:=by rw[lu];unfold dj;rw[lM]
  rw[h3]at h2
  have:=h.1
  omega
theorem X0{e:Int}{sp:PSpot}{e2:Int}(h:(CX e sp e2).2=0):e=0∧e2=0∧(CX e sp e2).1=sp:=by
  unfold CX at h ⊢
  cases h1:ah e 0 with
  |false=>rw[h1]at h;rw[show e=0 from h]at h1;cases h1
  | true=>
    rw[h1]at h
    cases h2:ah e2 0 with
    |false=>rw[h2]at h;rw[show e2=0 from h]at h2;cases h2
    |true=>exact⟨jZ h1,jZ h2,rfl⟩
theorem TO{u u2:TUnit}{te:Int}{full cf:Bool}:(Nc u te full cf u2).1=u∨(full=false∧cf=false∧(Nc u te full cf u2).1=u2):=by
  unfold Nc;cases ah te 0<;>cases full<;>cases cf<;>first|exact .inl rfl|exact .inr ⟨rfl,rfl,rfl⟩
/-- What an outcome is known to be. -/
def Bk(u:TUnit)(d:PDeed)(v:TUnit):Prop:=OkB v∧Rt u v
theorem Bk.refl{u:TUnit}(hu:OkB u){d:PDeed}:Bk u d u:=⟨hu,rfl⟩
/-- An insertion has an outcome. -/
theorem Vf{u:TUnit}(hu:OkB u)(f:TUnit)(d:PDeed)(hd:xH d.it)(hg:zR d.it)(hk:d.it.kind=0):∃r:pB,kP 128 [eU u,eU f,aY d] (eG r)∧Bk u d r.1:=by
  have hw:=hg.1 (.inl hk)
  have hD:=Rv u d.it _ _ _ (by rw[hk];rfl) (TV hu d.it.at_ hd.2.1 d.it.where_ hw)
  cases he:ah (CX (aF u d.it.at_).2 (dc d.it.where_ u (aF u d.it.at_).1).1 (dc d.it.where_ u (aF u d.it.at_).1).2).2 0 with
  |false=>exact⟨(u,_),TR u f d _ _ _ he hD,.refl hu⟩
  | true=>
    have e0:=jZ he
    obtain⟨e1,e2,e3⟩:=X0 e0
    obtain⟨n,n1,n2,n3⟩:=GV hu (qn e1) e2
    rw[e0,e3,n1]at hD
    have ht:=hd.2.2.2.2.2.2.2.2
    have hS:=O5 d.act d.item d.it.unit (b0 ht.1 (by decide)) (OT ht) (fun x hx=>⟨b0 (ht.2 x hx).1 (by decide),b0 (ht.2 x hx).2.1 (by decide)⟩)
    have hsn:=O6 d.act d.item d.it.unit 0 0
    have hsi:=vQ d.act d.item d.it.unit 0 0
    have hsw:=J6 d.act d.item 300 d.it.unit 0 0 (fun x hx=>⟨(ht.2 x hx).1,(ht.2 x hx).2.1⟩)
    generalize cP d.act d.item d.it.unit 0 0=X at *
    have hn:=hu.n
    have hm:=ht.1
    have hX:nU X≤2^19:=by omega
    have hkp:(ef (dc d.it.where_ u (aF u d.it.at_).1).1.id u).kids.length<2^40:=by
      cases h:cV (dc d.it.where_ u (aF u d.it.at_).1).1.id u with
      |true=>have:=dM (vz h).1;have:=bd (ef (dc d.it.where_ u (aF u d.it.at_).1).1.id u);omega
      |false=>unfold ef;rw[h];exact m9 (bG 0) (by decide)
    have hiu:(dj u).length<2^40:=by rw[←lu];omega
    have hix:(dj X).length<2^40:=by rw[←lu];omega
    refine⟨_,TL u f _ X _ d _ n (nU u) (nU X) _ _ _ _ (dj u) (dj X) (by omega) (by omega) hD (vu hu _) hS (yl _ X hkp) (Ln u X _ (by omega) (by omega)) (EY u (by omega)) (EY X (by omega)) (Qs u (by omega)) (Qs X (by omega)) (cfX (dj X) (dj u) hiu hix) (Ot _ n X u (by omega) (wl hu) n3),?_⟩
    rcases TO (u:=u) (u2:=dJ (dc d.it.where_ u (aF u d.it.at_).1).1.id (du n X) u) (te:=ym (ef (dc d.it.where_ u (aF u d.it.at_).1).1.id u) X) (full:=ak (ap (Int.ofNat (ef (dc d.it.where_ u (aF u d.it.at_).1).1.id u).kids.length) 64)||(Rf u (dc d.it.where_ u (aF u d.it.at_).1).1.id X||ap 1024 (Int.ofNat (nU u+nU X)))) (cf:=(dj X).any fun i=>(dj u).any (bu i))with q|⟨q1,q2,q3⟩
    · rw[q];exact .refl hu
    · rw[q3]
      rw[Bu,Bu]at q1
      have q4:=aE q1.2.2
      simp only[oN]at q4
      refine⟨hu.ins (by rw[hsi];exact O8 _ _ _ _) (fun p hp hq=>?_) (by omega) hsw,Kz (f:=du n X) (fun _=>rfl) u⟩
      rw[List.any_eq_false]at q2
      have:=q2 p hp
      exact this (List.any_eq_true.2 ⟨p,hq,mI p⟩)
/-- A unit is taken away. -/
theorem Vz{u:TUnit}(hu:OkB u){p:PId}(hp:hJ p u=true):∃q i,q∈bo u∧se p u=bj q∧qY p u=Int.ofNat i∧i<q.kids.length∧bj (gD q.kids i)=p∧kP 164 [eU u,aV p] (eU (dJ (bj q) (gh i) u)):=by
  obtain⟨q,i,h1,h2,h3,h4,h5⟩:=vk u hp
  have hP:=j8 hu p
  rw[h2,h3,hp]at hP
  exact⟨q,i,h1,h2,h3,h4,h5,yb u _ p _ i hP (OA (bj q) i u (b0 hu.n (by decide)) (wl hu) fun v hv hid=>by rw[hu.uni hv h1 ((gy _ v).1 hid)];exact h4)⟩
theorem XN{u x:TUnit}(hu:OkB u)(d:PDeed)(hp:hJ (bj x) u=true):∃r:pB,kP 129 [eU u,eU x,aY d] (eG r)∧Bk u d r.1:=by
  obtain⟨q,i,h1,h2,h3,h4,h5,h6⟩:=Vz hu hp
  exact⟨_,S6 u x _ d h6,(hu.del h1 h4).1,Kz (f:=gh i) (fun _=>rfl) u⟩
theorem Df(l:List PWord):(vq l).length≤256:=by
  unfold vq
  cases h:ap 256 (Int.ofNat l.length)with
  |true=>exact bG _
  |false=>have:=aE h;simp only[oN]at this;show l.length≤256;omega
theorem Px(a b:Int)(w:List PWord)(old new:List aO)(n:Int):(Ft a b w old new n).1.length≤256:=by
  unfold Ft
  cases ah (Int.ofNat old.length) 0
  · cases ah (Int.ofNat (np (tG (b6 w) old) n).length) 0
    · exact Df _
    · exact bG _
  · exact bG _
theorem TM(a b:Int)(w:List PWord)(part new:List aO)(n:Int):(DO a b w part new n).1.length≤256:=by
  unfold DO
  cases(ah (Int.ofNat new.length) 0||(ah (Int.ofNat part.length) 0&&ak (ah n 0)))
  · cases ah (Int.ofNat part.length) 0
    · cases ah (Int.ofNat (np (tG (b6 w) part) n).length) 0
      · exact Df _
      · exact bG _
    · exact Df _
  · exact bG _
theorem tj{l:List aO}(h:qJ l=true):l.length≤256:=by
  unfold qJ at h
  rw[bx]at h
  have:=gv h.1
  simp only[oN]at this
  omega
theorem KO{n:Int}(h:Bw n=true):0≤n∧n≤256:=by
  unfold Bw at h
  rw[bx]at h
  exact⟨gv h.1,gv h.2⟩
theorem Cz{u:TUnit}(hu:OkB u)(q:PId){l:List PWord}(hl:l.length≤300):OkB (dJ q (lO l) u):=hu.keep (fun _=>⟨rfl,rfl⟩) fun v hv=>⟨(hu.w v hv).1,hl⟩
theorem PL{u:TUnit}(hu:OkB u)(q:PId){l:List PWord}(hl:l.length≤300):OkB (dJ q (zM l) u):=hu.keep (fun _=>⟨rfl,rfl⟩) fun v hv=>⟨hl,(hu.w v hv).2⟩
theorem NQ{u:TUnit}(hu:OkB u)(q:PId)(s:aO):OkB (dJ q (o4 s) u):=hu.keep (fun _=>⟨rfl,rfl⟩) fun v hv=>hu.w v hv
theorem JM{u u2:TUnit}{d:PDeed}{e:Int}(h:OkB u)(h2:Bk u d u2):Bk u d (E5 u e u2).1:=by
  have h:=Bk.refl h (d:=d)
  unfold E5;cases ah e 0;exact h;exact h2
theorem XA{u x:TUnit}(hu:OkB u)(hx:x∈bo u)(hp:hJ (bj x) u=true)(d:PDeed)(hg:zR d.it)(hk:d.it.kind=2):∃r:pB,kP 130 [eU u,eU x,aY d] (eG r)∧Bk u d r.1:=by
  obtain⟨h1,h2⟩:=hg.2.2.1 (.inl hk)
  have h3:=tj h1
  have h4:=tj (hg.2.2.2 (.inl hk))
  obtain⟨h5,h6⟩:=KO h2
  have h7:=(hu.w x hx).2
  have hR:=S5 d.act d.item x.words d.it.old d.it.new d.it.nth_ (by omega) (by omega) (by omega) h5 (by omega) (gr h5)
  exact⟨_,Si u x _ d _ _ hR (Oi (bj x) _ u (b0 hu.n (by decide)) (wl hu)),JM hu ⟨Cz hu _ (b0 (Px ..) (by decide)),Kq hp⟩⟩
theorem XS{u x:TUnit}(hu:OkB u)(hx:x∈bo u)(hp:hJ (bj x) u=true)(d:PDeed)(hg:zR d.it)(hk:d.it.kind=3):∃r:pB,kP 131 [eU u,eU x,aY d] (eG r)∧Bk u d r.1:=by
  obtain⟨h1,h2⟩:=hg.2.2.1 (.inr hk)
  have h3:=tj h1
  have h4:=tj (hg.2.2.2 (.inr (.inl hk)))
  obtain⟨h5,h6⟩:=KO h2
  have h7:=(hu.w x hx).2
  have hR:=Yj d.act d.item x.words d.it.old d.it.new d.it.nth_ (by omega) (by omega) (by omega) h5 (by omega)
  exact⟨_,TZ u x _ d _ _ hR (Om (bj x) _ u (b0 hu.n (by decide)) (wl hu)),JM hu ⟨Cz hu _ (b0 (TM ..) (by decide)),Kq hp⟩⟩
theorem Ya{u x:TUnit}(hu:OkB u)(hp:hJ (bj x) u=true)(d:PDeed)(hg:zR d.it)(hk:d.it.kind=4):∃r:pB,kP 132 [eU u,eU x,aY d] (eG r)∧Bk u d r.1:=by
  have h4:=tj (hg.2.2.2 (.inr (.inr hk)))
  have hM:=xN d.it.new d.act d.item 0 (by omega) (by decide)
  exact⟨_,T8 u x _ d _ hM (Ou (bj x) _ u (b0 hu.n (by decide)) (wl hu)),PL hu _ (by rw[fO];omega),Kq hp⟩
theorem Vb{u:TUnit}(hu:OkB u)(p:PId):(ef p u).kids.length<2^40:=by
  have hn:=hu.n
  cases h:cV p u with
  |true=>have:=dM (vz h).1;have:=bd (ef p u);omega
  |false=>unfold ef;rw[h];exact m9 (bG 0) (by decide)
theorem XP{u x:TUnit}(hu:OkB u)(hp:hJ (bj x) u=true)(d:PDeed):∃r:pB,kP 133 [eU u,eU x,aY d] (eG r)∧Bk u d r.1:=by
  refine⟨_,S8 u x _ _ d _ _ _ _ _ (j8 hu (bj x)) (vu hu _) (yl _ _ (Vb hu _)) (Ol (bj x) d u (b0 hu.n (by decide)) (wl hu)),?_⟩
  unfold S9
  cases ah (ym (ef (se (bj x) u) u) (o4 d.it.label x)) 10
  · exact⟨NQ hu _ _,Kq hp⟩
  · exact .refl hu
theorem Td{u u2:TUnit}{d:PDeed}{te:Int}{full:Bool}(h:OkB u)(h2:Bk u d u2):Bk u d (P5 u te full u2).1:=by
  have h:=Bk.refl h (d:=d)
  unfold P5;cases ah te 0<;>cases full<;>first|exact h|exact h2
theorem Yh{e2 e3:Int}{sp:PSpot}(h:(Hx 0 e2 sp e3).2=0):e2=0∧e3=0∧(Hx 0 e2 sp e3).1=sp:=by
  unfold Hx at h ⊢
  rw[show ah 0 0=true from rfl]at h ⊢
  simp only[cond_true]at h ⊢
  cases h1:ah e2 0 with
  |false=>rw[h1]at h;rw[show e2=0 from h]at h1;cases h1
  | true=>
    rw[h1]at h
    cases h2:ah e3 0 with
    |false=>rw[h2]at h;rw[show e3=0 from h]at h2;cases h2
    |true=>exact⟨jZ h1,jZ h2,rfl⟩
/-- A move has an outcome. -/
theorem YJ{u x:TUnit}(hu:OkB u)(hx:x∈bo u)(d:PDeed)(hd:xH d.it)(hg:zR d.it)(hk:d.it.kind=6)(h0:(aF u d.it.at_).2=0)(hid:(aF u d.it.at_).1=bj x)(hp:hJ (bj x) u=true):∃r:pB,kP 134 [eU u,eU x,aY d] (eG r)∧Bk u d r.1:=by
  have hw:=hg.1 (.inr hk)
  have hF:=wg hu d.it.at_ hd.2.1
  rw[h0,hid]at hF
  obtain⟨bs,hG⟩:=WA hu (bj x) (aF u d.it.to).1 d.it.where_ hw
  obtain⟨q,i,h1,h2,h3,h4,h5,h6⟩:=Vz hu hp
  have hD:=Rw u d.it _ _ _ _ _ _ (by rw[hk];rfl) (by rw[hk];rfl) hw hF (wg hu d.it.to hd.2.2.1) hG
  rw[h2,h3,hp]at hD
  cases he:ah (Hx 0 (aF u d.it.to).2 (nC (bj x) (aF u d.it.to).1 (bj q) (Int.ofNat i) true ((pA (aF u d.it.to).1 u).any (bu (bj x))) bs (dc d.it.where_ u (aF u d.it.to).1).1 (dc d.it.where_ u (aF u d.it.to).1).2).1 (nC (bj x) (aF u d.it.to).1 (bj q) (Int.ofNat i) true ((pA (aF u d.it.to).1 u).any (bu (bj x))) bs (dc d.it.where_ u (aF u d.it.to).1).1 (dc d.it.where_ u (aF u d.it.to).1).2).2).2 0 with
  |false=>exact⟨(u,_),Te u x d _ _ _ he hD,.refl hu⟩
  | true=>
    have e0:=jZ he
    obtain⟨e1,e2,e3⟩:=Yh e0
    obtain⟨n,n1,n2,n3⟩:=QD hu h1 h4 (qn e1) e2
    rw[e0,e3,n1]at hD
    obtain⟨hr,hpm⟩:=hu.del h1 h4
    have hkx:gD q.kids i=x:=hu.uni (iH h1 (bA (ge h4) (dq _))) hx h5
    rw[hkx]at hpm
    have hnr:=hr.n
    have hnx:=dM hx
    have hn:=hu.n
    refine⟨_,Tc u x _ _ _ d _ _ n _ _ _ _ _ hD (j8 hu (bj x)) h6 (vu hr _) (yl _ x (Vb hr _)) (Ln _ x _ (by omega) (by omega)) (On _ n x _ (by omega) (wl hr) n3),Td hu ?_⟩
    have hnd:=List.nodup_append.1 (hpm.nodup_iff.1 hu.nd)
    have hlen:=hpm.length_eq
    rw[lA,←lu,←lu,←lu]at hlen
    exact⟨hr.ins hnd.2.1 (fun p hp hq=>hnd.2.2 p hq p hp rfl) (by omega) (fun y hy=>hu.w y (iH hx hy)),(Kz (f:=du _ _) (fun _=>rfl) _).trans (Kz (f:=gh i) (fun _=>rfl) u)⟩
/-- An item's doer. -/
theorem ZE{u x:TUnit}(hu:OkB u)(hx:x∈bo u)(d:PDeed)(hd:xH d.it)(hg:zR d.it)(hk0:0≤d.it.kind)(hk6:d.it.kind≤6)(h0:(aF u d.it.at_).2=0)(hid:(aF u d.it.at_).1=bj x)(hp:hJ (bj x) u=true):∃r:pB,kP (Vl d.it.kind) [eU u,eU x,aY d] (eG r)∧Bk u d r.1:=by
  have hk:d.it.kind=0∨d.it.kind=1∨d.it.kind=2∨d.it.kind=3∨d.it.kind=4∨d.it.kind=5∨d.it.kind=6:=by omega
  rcases hk with h|h|h|h|h|h|h<;>rw[h]
  · exact Vf hu x d hd hg h
  · exact XN hu d hp
  · exact XA hu hx hp d hg h
  · exact XS hu hx hp d hg h
  · exact Ya hu hp d hg h
  · exact XP hu hp d
  · exact YJ hu hx d hd hg h h0 hid hp
/-- An amendment has one outcome. -/
theorem UN {u:TUnit}(hu:OkB u)(d:PDeed)(hd:xH d.it)(hk0:0≤d.it.kind)(hk6:d.it.kind≤6):∃r:pB,kP 74 [eU u,aY d] (eG r)∧Bk u d r.1:=by
  obtain⟨b,hV,hg⟩:=VE d.it hd hk0 hk6
  have hl:=Wj d hk0 hk6
  cases b with
  |false=>exact⟨_,UO u d _ hl hV,.refl hu⟩
  | true=>
    have hg:=hg rfl
    have hF:=wg hu d.it.at_ hd.2.1
    cases he:ah (aF u d.it.at_).2 0 with
    |false=>exact⟨_,UR u d _ _ _ hl hV he hF,.refl hu⟩
    | true=>
      have e0:=jZ he
      have hh:=qn e0
      obtain⟨hx,hxi⟩:=vz hh
      rw[e0]at hF
      have hX:=vu hu (aF u d.it.at_).1
      cases hi:(ah (aF u d.it.at_).1.a u.act&&(ah (aF u d.it.at_).1.i u.item&&ah (aF u d.it.at_).1.n u.n))with
      | true=>
        cases hk:ah d.it.kind 0 with
        | true=>
          have hk:=jZ hk
          obtain⟨r,h1,h2⟩:=Vf hu (ef (aF u d.it.at_).1 u) d hd hg hk
          exact⟨r,R7 u _ d _ _ _ r hl hV hF hX hi (by rw[hk];rfl) (by rw[hk];exact h1),h2⟩
        |false=>exact⟨_,UP u _ d _ _ _ _ _ hl hV hF hX hi hk (wg hu d.it.to hd.2.2.1),.refl hu⟩
      | false=>
        have hni:fE (aF u d.it.at_).1 u=false:=by
          cases q:fE (aF u d.it.at_).1 u with
          |false=>rfl
          | true=>
            have:=(gy _ u).1 q
            rw[←this]at hi
            have e:(ah (bj u).a u.act&&(ah (bj u).i u.item&&ah (bj u).n u.n))=true:=by
              show(ah u.act u.act&&(ah u.item u.item&&ah u.n u.n))=true
              rw[bw,bw,bw];rfl
            rw[e]at hi;cases hi
        obtain⟨r,h1,h2⟩:=ZE hu hx d hd hg hk0 hk6 e0 hxi.symm (by rw[hxi];exact UQ hh hni)
        exact⟨r,US u _ d _ _ _ r hl hV hF hX hi h1,h2⟩
theorem SV{k:Int}(h:qE k=true):0≤k∧k≤6:=by
  unfold qE at h;rw[bx]at h;exact⟨gv h.1,gv h.2⟩
/-- What an amendment makes of a book: the one outcome there is. -/
structure AppOk(u:TUnit)(d:PDeed):Prop where
  b:OkB u
  i:xH d.it
  a:qE d.it.kind=true
theorem R5{u:TUnit}{d:PDeed}(h:AppOk u d):∃r:pB,kP 74 [eU u,aY d] (eG r)∧Bk u d r.1:=UN h.b d h.i (SV h.a).1 (SV h.a).2
open Classical in
noncomputable def jr(u:TUnit)(d:PDeed):pB:=if h:AppOk u d then(R5 h).choose else(u,0)
theorem LI{u:TUnit}{d:PDeed}(h:AppOk u d):kP 74 [eU u,aY d] (.tuple [eU (jr u d).1,iV (jr u d).2])∧Bk u d (jr u d).1:=by
  unfold jr;rw[dif_pos h];exact(R5 h).choose_spec
theorem rg{u:TUnit}{d:PDeed}(h:AppOk u d):kP 74 [eU u,aY d] (.tuple [eU (jr u d).1,iV (jr u d).2])∧OkB (jr u d).1:=⟨(LI h).1,(LI h).2.1⟩
theorem VA(u:TUnit)(d:PDeed)(h1:OkB u)(h2:xH d.it)(h3:qE d.it.kind=true):kP 74 [eU u,aY d] (.tuple [eU (jr u d).1,iV (jr u d).2]):=(rg ⟨h1,h2,h3⟩).1
noncomputable def tK(u:TUnit)(d:PDeed):TUnit:=bif qE d.it.kind then(jr u d).1 else u
noncomputable def Cd(u:TUnit)(d:PDeed):List PFail:=bif qE d.it.kind then(bif ah (jr u d).2 0 then[]else[⟨d.act,d.item,(jr u d).2⟩])else[]
theorem O4{u:TUnit}{d:PDeed}(h1:OkB u)(h2:xH d.it):OkB (tK u d):=by
  unfold tK
  cases h:qE d.it.kind with
  |false=>exact h1
  |true=>exact(rg ⟨h1,h2,h⟩).2
noncomputable def dg:TUnit→List PDeed→TUnit
  |u,[]=>u
  |u,d::r=>dg (tK u d) r
noncomputable def fy:TUnit→List PDeed→List PFail
  |_,[]=>[]
  |u,d::r=>Cd u d++fy (tK u d) r
theorem HB:∀{l:List PDeed}{u:TUnit},OkB u→(∀d,d∈l→xH d.it)→OkB (dg u l)
  |[],_,h,_=>h
  |d::r,u,h,hl=>HB (l:=r) (u:=tK u d) (O4 h (hl d (eu ..))) fun x hx=>hl x (eN _ hx)
theorem CE:∀(l:List PDeed)(u:TUnit),(fy u l).length≤l.length
  |[],_=>au _
  | d::r,u=>by
    have:=CE r (tK u d)
    have h:(Cd u d).length≤1:=by
      unfold Cd
      cases qE d.it.kind<;>cases ah (jr u d).2 0<;>simp
    rw[fy,lA,lC];omega
theorem XH{u:TUnit}{d:PDeed}{r:List PDeed}(h:qE d.it.kind=false):dg u (d::r)=dg u r∧fy u (d::r)=fy u r:=by
  rw[dg,fy,tK,Cd,h];exact⟨rfl,rfl⟩
theorem SG{u:TUnit}{d:PDeed}{r:List PDeed}(h:qE d.it.kind=true)(h2:ah (jr u d).2 0=true):dg u (d::r)=dg (jr u d).1 r∧fy u (d::r)=fy (jr u d).1 r:=by
  rw[dg,fy,tK,Cd,h,h2];exact⟨rfl,rfl⟩
theorem SF{u:TUnit}{d:PDeed}{r:List PDeed}(h:qE d.it.kind=true)(h2:ah (jr u d).2 0=false):dg u (d::r)=dg (jr u d).1 r∧fy u (d::r)=⟨d.act,d.item,(jr u d).2⟩::fy (jr u d).1 r:=by
  rw[dg,fy,tK,Cd,h,h2];exact⟨rfl,rfl⟩
mutual
theorem KX:∀(u:TUnit)(deep most:Int),mg u deep most≤most→Int.ofNat (nU u)≤mg u deep most
  | ⟨_,_,_,_,_,_,_,kids⟩,deep,most,h=>by
    rw[mg]at h ⊢
    cases hd:ap 20 deep with
    |true=>rw[hd]at h;simp only at h;omega
    | false=>
      rw[hd]at h
      have:=KW kids deep most 1 h
      rw[nU]
      simp only[oN]at *
      omega
theorem KW:∀(l:List TUnit)(deep most n:Int),mh l deep most n≤most→n+Int.ofNat (eW l)≤mh l deep most n
  |[],_,_,n,_=>by rw[mh,eW];exact Int.le_of_eq (Int.add_zero n)
  | k::r,deep,most,n,h=>by
    rw[mh]at h ⊢
    cases hd:ap most n with
    |true=>rw[hd]at h;have:=am hd;simp only at h;omega
    | false=>
      rw[hd]at h
      have h2:=KW r deep most _ h
      have h1:=KX k (deep+1) (most-n) (by simp only[oN]at *;omega)
      rw[eW]
      simp only[oN]at *
      omega
end
theorem Fa{l:List PWord}(h:ml l=true):l.length≤300∧∀w,w∈l→w.text.length≤100:=by
  unfold ml at h
  obtain⟨h1,h2⟩:=pv.1 h
  refine⟨by have:=gv h2;simp only[oN]at this;omega,fun w hw=>?_⟩
  have:=gv (lL.1 h1 w hw)
  simp only[oN]at this;omega
theorem H9:∀(u:TUnit),ki u=true→∀x,x∈bo u→rG x:=by
  refine TUnit.ind fun u ih h x hx=>?_
  rw[BF]at h
  simp only[bx]at h
  obtain⟨⟨⟨h0,h1⟩,h2⟩,h3⟩:=h
  rw[da]at hx
  rcases eM.1 hx with rfl|hx
  · have h0:=gv h0
    simp only[oN]at h0
    have q1:=Fa h1
    have q2:=Fa h2
    exact⟨q1.1,q2.1,by omega,fun w hw=>b0 (q1.2 w hw) (by decide),fun w hw=>b0 (q2.2 w hw) (by decide)⟩
  · obtain⟨k,hk,hx⟩:=mU hx
    exact ih k hk (lL.1 h3 k hk) x hx
theorem WN{u:TUnit}{n:Nat}(h:G3 u (.ofNat n)=true):nU u≤n∧∀x,x∈bo u→rG x:=by
  unfold G3 at h
  obtain⟨h1,h2⟩:=pv.1 h
  refine⟨?_,H9 u h2⟩
  have h3:=gv h1
  have:=KX u 0 (.ofNat n) h3
  simp only[oN]at *
  omega
theorem PH{x:PItem}(hf:m6 x)(h:mH x=true):xH x:=by
  rw[D9]at h
  unfold x9 at h
  simp only[bx]at h
  obtain⟨⟨⟨⟨⟨⟨⟨⟨⟨⟨a1,a2⟩,a3⟩,a4⟩,a5⟩,a6⟩,a7⟩,a8⟩,a9⟩,a10⟩,b1,b2,b3,b4,b5⟩:=h
  have a1:=gv a1
  have a2:=gv a2
  have a3:=gv a3
  have a4:=gv a4
  have a5:=gv a5
  have a6:=gv a6
  have a7:=gv a7
  simp only[oN]at a1 a2 a3 a4 a5 a6 a7
  have hs:∀{l:List aO},l.all xd=true→∀s,s∈l→s.length≤2^39:=fun h s hs=>by
    have:=gv (lL.1 h s hs);simp only[oN]at this;omega
  have ht:∀{l:List PStep},l.all xb=true→∀s,s∈l→s.label.length≤2^39:=fun h s hs=>by
    have:=gv (lL.1 h s hs);simp only[oN]at this;omega
  have hu:=WN (n:=30) a10
  exact⟨hf,⟨by omega,ht b3⟩,⟨by omega,ht b4⟩,⟨by omega,hs b1⟩,⟨by omega,hs b2⟩,by omega,by omega,by omega,b0 hu.1 (by decide),hu.2⟩
theorem Tk:∀(u:TUnit),nU u≤1024→(∀x,x∈bo u→x.head.length≤300∧x.words.length≤300)→jo u:=by
  refine TUnit.ind fun u ih hn hw=>?_
  have:=bd u
  obtain⟨h1,h2⟩:=hw u (dq u)
  exact oZ.2 ⟨by omega,by omega,by omega,fun k hk=>ih k hk (by have:=iq hk;omega) fun x hx=>hw x (bA hk hx)⟩
theorem FO{u:TUnit}(h:OkB u):jo u:=Tk u h.n h.w
theorem JU{u v:TUnit}{l r:List PDeed}{xs:List PFail}(h:fy u l=xs++fy v r):xs.length≤l.length:=by
  grind[CE]
theorem SZ(u:TUnit)(l:List PDeed)(hu:OkB u)(hl:l.length<2^30)(ho:∀d,d∈l→xH d.it):kP 59 [eU u,.ls (l.map aY)] (.tuple [eU (dg u l),.ls ((fy u l).map ib)]):=by
  have rr0 b' (h:((dg u l).act)=b':=by first|(rw[hj0.2.1];rfl)|(rw[hj0.2.2];rfl)|(rw[hj0.2.2.1];rfl)|(rw[hj0.2.2.2];simp only[fy,ec])|exact aX gQ _):=h;have rr1 b' (h:((dg u l).item)=b':=by first|(rw[hj0.2.1];rfl)|(rw[hj0.2.2];rfl)|(rw[hj0.2.2.1];rfl)|(rw[hj0.2.2.2];simp only[fy,ec])|exact aX gQ _):=h;have rr2 b' (h:((dg u l).n)=b':=by first|(rw[hj0.2.1];rfl)|(rw[hj0.2.2];rfl)|(rw[hj0.2.2.1];rfl)|(rw[hj0.2.2.2];simp only[fy,ec])|exact aX gQ _):=h;have rr3 b' (h:((dg u l).kind)=b':=by first|(rw[hj0.2.1];rfl)|(rw[hj0.2.2];rfl)|(rw[hj0.2.2.1];rfl)|(rw[hj0.2.2.2];simp only[fy,ec])|exact aX gQ _):=h;have rr4 b' (h:((dg u l).label)=b':=by first|(rw[hj0.2.1];rfl)|(rw[hj0.2.2];rfl)|(rw[hj0.2.2.1];rfl)|(rw[hj0.2.2.2];simp only[fy,ec])|exact aX gQ _):=h;have rr5 b' (h:(List.map aQ (dg u l).head)=b':=by first|(rw[hj0.2.1];rfl)|(rw[hj0.2.2];rfl)|(rw[hj0.2.2.1];rfl)|(rw[hj0.2.2.2];simp only[fy,ec])|exact aX gQ _):=h;have rr6 b' (h:(List.map aQ (dg u l).words)=b':=by first|(rw[hj0.2.1];rfl)|(rw[hj0.2.2];rfl)|(rw[hj0.2.2.1];rfl)|(rw[hj0.2.2.2];simp only[fy,ec])|exact aX gQ _):=h;have rr7 b' (h:(List.map aK (dg u l).kids)=b':=by first|(rw[hj0.2.1];rfl)|(rw[hj0.2.2];rfl)|(rw[hj0.2.2.1];rfl)|(rw[hj0.2.2.2];simp only[fy,ec])|exact aX gQ _):=h;have rr8 b' (h:((fy u l).map ib)=b':=by first|(rw[hj0.2.1];rfl)|(rw[hj0.2.2];rfl)|(rw[hj0.2.2.1];rfl)|(rw[hj0.2.2.2];simp only[fy,ec])|exact aX gQ _):=h;exact bH Tryz.func59<|Kl 2 5 bI<|Kl 2 12 (ln aY l)<|Mg 0<|Y8 TUnit Nat Nat (List PFail) aY l u [2,4,6,11,12,13] (fun a _ b=>([bz 0 0 0 0,bz 1 0 0 0,af,aW<|l.map aY,nV l.length,nV a],[aZ 8 false 0 [ab [iV b.act,iV b.item,iV b.n,iV b.kind,ax b.label,aW<|b.head.map aQ,aW<|b.words.map aQ,aW<|b.kids.map aK]],aZ 8 false 0 [ab [iV 0,iV 0,iV 0,iV 0,ax [],af,af,af]]])) (fun a _ b c e f=>([bz 0 0 0 0,bz 1 0 0 0,aM 2 c 0 e none,aW<|l.map aY,nV l.length,nV a],[aZ 8 false 0 [ab [iV b.act,iV b.item,iV b.n,iV b.kind,ax b.label,aW<|b.head.map aQ,aW<|b.words.map aQ,aW<|b.kids.map aK]],aZ 8 false 0 [ab [iV 0,iV 0,iV 0,iV 0,ax [],af,af,af]],aZ 3 true c<|f.map ib])) (fun a b=>OkB b∧dg u l=dg b a∧fy u l=fy b a) (fun a b _ c e=>OkB b∧c=e.length∧dg u l=dg b a∧fy u l=e++fy b a) sA (fun _ _ a _ _ _ b hj0=>Kh 0 b<|Kl 3 5 bI<|Mf<|cC<|.cons (bZ (.cons (li<|rr0 a.act)<|.cons (li<|rr1 a.item)<|.cons (li<|rr2 a.n)<|.cons (li<|rr3 a.kind)<|.cons (Le.str<|rr4 a.label)<|.cons (cW<|rr5<|a.head.map aQ)<|.cons (cW<|rr6<|a.words.map aQ)<|.cons (cW<|rr7<|a.kids.map aK) .nil)<|by kernel_rfl)<|.cons (cW<|rr8 []) .nil) (fun a _ b c _ e f g i j k _ n hj0=>have c:=ho _<|aR c j;Kt 0 k<|Mx n<|Kp 5 (JC e.it.kind)<|Kn 0 (qE e.it.kind) (fun _=>Kl 0 40 (dV a)<|K1 0 (.frz 2 [2,4,6,11,12,13]) (ce rt rt ti)<|Mf<|g b<|by grind[XH]) fun j=>Kp 1 (VA b e sA c j)<|Kc 7 (jr b e).2 0 (fun _ _=>Kl 12 40 (dV a)<|Mg 0<|M0 (.ren [0,1,4,2,3] [] [2,4,6,11,12,13])<|M1 (.frz 3 [2,4,6,11,12,13]) (jQ rt rt rt ti)<|Mf<|i (jr b e).1 0 1 [PFail.mk e.act e.item (jr b e).2]<|by exact⟨(rg ⟨hj0.1,c,by omega⟩).2,rfl,hj0.2.1.trans (SF (by omega) (by omega)).1,hj0.2.2.trans (SF (by omega) (by omega)).2⟩) fun _ _=>Kl 2 40 (dV a)<|K1 0 (.frz 2 [2,4,6,11,12,13]) (ce rt rt ti)<|Mf<|g (jr b e).1<|by exact⟨(rg ⟨hj0.1,c,by omega⟩).2,hj0.2.1.trans (SG (by omega) (by omega)).1,hj0.2.2.trans (SG (by omega) (by omega)).2⟩) (fun _ _ a b c e _ _ _ f hj0=>Kh 0 f<|Mg 3<|M2 (.fsl 2 [4] 5<|e.map ib) (ce rt rt ti) (ce (aU b) (tA ib e c (oA:(e).length=c))<|aX gQ e)<|Ml 5 (fg (e.map ib) false<|aX gQ e)<|Mf<|cC<|.cons (bZ (.cons (li<|rr0 a.act)<|.cons (li<|rr1 a.item)<|.cons (li<|rr2 a.n)<|.cons (li<|rr3 a.kind)<|.cons (Le.str<|rr4 a.label)<|.cons (cW<|rr5<|a.head.map aQ)<|.cons (cW<|rr6<|a.words.map aQ)<|.cons (cW<|rr7<|a.kids.map aK) .nil)<|by kernel_rfl)<|.cons (cW<|rr8<|e.map ib) .nil) fun a _ b c e f g _ i j _ k n o _ p hj0=>have g:=ho _<|aR g n;Kt 0 o<|Mx p<|Kp 5 (JC i.it.kind)<|Kn 0 (qE i.it.kind) (fun _=>Kl 0 40 (dV a)<|K1 0 (.frz 3 [2,4,6,11,12,13]) (jQ (tR 3 true c 3<|aX gQ f) rt rt ti)<|Mf<|k b c e f<|by grind[XH]) fun n=>Kp 1 (VA b i sA g n)<|Kc 7 (jr b i).2 0 (fun _ _=>K1 7 .app (ce (aU c) (sA:e=(f.map ib).length) (by(have z:=JU hj0.2.2.2;have z2:=hj0.2.1;refine aN (m:=2^31) ?_ ?_ ?_<;>omega):small (e+1) 24=true))<|M1 (.obj 2<|aZ 3 true (c+1)<|(f++[PFail.mk i.act i.item (jr b i).2]).map ib) (congrArg (aZ 3 true<|c+1)<|dQ (f:=ib) (l:=f) (ws:=[PFail.mk i.act i.item (jr b i).2]))<|Kl 3 40 (dV a)<|K1 0 (.frz 3 [2,4,6,11,12,13]) (jQ (tR 3 true (c+1) 3<|aX gQ<|f++[PFail.mk i.act i.item (jr b i).2]) rt rt ti)<|Mf<|k (jr b i).1 (c+1) (e+1) (f++[PFail.mk i.act i.item (jr b i).2])<|by exact⟨(rg ⟨hj0.1,g,by omega⟩).2,by simp_all,hj0.2.2.1.trans (SF (by omega) (by omega)).1,hj0.2.2.2.trans (by grind[SF])⟩) fun _ _=>Kl 2 40 (dV a)<|K1 0 (.frz 3 [2,4,6,11,12,13]) (jQ (tR 3 true c 3<|aX gQ f) rt rt ti)<|Mf<|k (jr b i).1 c e f<|by exact⟨(rg ⟨hj0.1,g,by omega⟩).2,hj0.2.1,hj0.2.2.1.trans (SG (by omega) (by omega)).1,hj0.2.2.2.trans (by grind[SG])⟩
end Go.Proofs.YtaepacpodblomaaGreatDoor
