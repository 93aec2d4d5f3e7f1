/- Functions walked: what each of them answers, for the law that a unit's authors are among its contributors: part 5. Conditions: those that each theorem names. -/
import Derived.Test.YtadodlkibeofjaaGreatDoorH4
namespace Go.Proofs.YtadodlkibeofjaaGreatDoor
open Go Go.Ev
noncomputable abbrev Cd(l:List PWord):AObj:=.row 4 true 0 (l.map aQ)
noncomputable def FP:TypeInfo:=(Tryz.prog.info? 127).getD default
theorem FO:Tryz.prog.info? 127=some FP:=by kernel_rfl
theorem y6:FP.size=4:=by kernel_rfl
theorem wC:FP.bytes=40:=by kernel_rfl
theorem WO(l:List PWord):dA 4 (l.map aQ)=true:=gi (fun w=>by cases w;rfl) l
theorem cl4(ws:List PWord)(hl:ws.length<=2^20)(a b c d:AObj):kD 67 [.ls (ws.map aQ)] (aa [a,b,c,d]) (.sl0 4 0 ws.length none) (aa [a,b,c,d,Cd ws]):=by
  by_cases hne:ws=[]
  · subst hne
    have hE:(aa [a,b,c,d]).push (Cd [])=aa [a,b,c,d,Cd []]:=by kernel_rfl
    have h:=aE.psh (o:=Cd []) (u:=.sl0 4 0 0 none) (rG [] (by omega) (aa [a,b,c,d])) Fb
    simp_all
  have hn:ws.map aQ≠[]:=fun h=>hne (List.map_eq_nil_iff.1 h)
  have hf:=WO ws
  have hsm:small (ws.map aQ).length 40=true:=by grind[ar]
  have hlen:ws.length=(ws.map aQ).length:=(b9 ..).symm
  unfold Cd
  rw[hlen]
  generalize ws.map aQ=L at hn hf hsm
  refine(aE.less (Ψ:=fun v h=>v=.slice 4 0 0 L.length none/\h=aa [a,b,c,d,.row 4 true 0 L]) ?_ fun v h ⟨h1,h2⟩=>⟨_,h1▸Le.sl0,rfl,h2⟩)
  refine aE.enter 2 (fn:=Tryz.f67) Tryz.func67 (by kernel_rfl) rfl ⟨by kernel_rfl,by kernel_rfl⟩ ?_
  refine am.seq (am.mono (EB pL jk (ev 40) (s':=⟨eZ 8 [(0,.ls L),(2,.nils)],aa [a,b,c,d]⟩) (.go 0 .fin) (by kernel_rfl)) ?_)
  rintro _ _ ⟨rfl,rfl⟩
  refine am.seq (am.seq (am.mono (yz jk (ev 40) (Ψ:=fun s=>s=⟨eZ 8 [(0,.ls L),(2,.nils),(3,.ps L false),(4,.bool false)],aa [a,b,c,d]⟩) (.go 0 (.nz 3 .abs (.go 0 .fin)))
    (W:=(L=[]->False)/\(⟨eZ 8 [(0,.ls L),(2,.nils),(3,.ps L false),(4,.bool false)],aa [a,b,c,d]⟩:St)=⟨eZ 8 [(0,.ls L),(2,.nils),(3,.ps L false),(4,.bool false)],aa [a,b,c,d]⟩) ⟨hn,rfl⟩ (by kernel_rfl)) ?_))
  rintro _ _ ⟨rfl,rfl⟩
  refine am.cond (t:=false) (by kernel_rfl) (fun h=>by grind) fun _=>am.skip ?_
  refine am.seq (am.region ?_)
  show b8 _ _ _ _ [_,_,_,_] _ _
  refine b8.one (s':=⟨eZ 8 [(0,.ls L),(2,.nils),(3,.ps L false),(4,.bool false),(5,.ps [] true)],aa [a,b,c,d]⟩) (ev 40) (by kernel_rfl) ?_
  refine b8.one (s':=⟨eZ 8 [(0,.ls L),(2,.nils),(3,.ps L false),(4,.bool false),(5,.ps [] true),(6,.ls L)],aa [a,b,c,d]⟩) (ev 40) (by kernel_rfl) ?_
  refine rS (I:=fun k:Nat=>k=0) (r:=fun _=>.slice 4 0 0 L.length none) (H:=fun _=>aa [a,b,c,d,.row 4 true 0 L]) (by kernel_rfl)
    (fun pl M a w g1 g2 g3=>xB (z:=aQ ⟨[],0,0,0⟩) (z0:=aQ ⟨[],0,0,0⟩) (xs:=L) (t:=36) (tx:=36) (e:=127) (i:=FP) y6 wC (by kernel_rfl) ⟨127,by kernel_rfl⟩ FO (by kernel_rfl) (Le.refl _) (by kernel_rfl) (by kernel_rfl) hn hf (by kernel_rfl) hsm (by omega) pl M a w g1 g2 g3) fun k _=>?_
  refine⟨eZ 8 [(0,.ls L),(2,.nils),(3,.ps L false),(4,.bool false),(5,.ps [] true),(6,.ls L),(7,.slice 4 0 0 L.length none)],by kernel_rfl,?_⟩
  refine b8.one (s':=⟨eZ 8 [(0,.ls L),(2,.slice 4 0 0 L.length none),(3,.ps L false),(4,.bool false),(5,.ps [] true),(6,.ls L),(7,.slice 4 0 0 L.length none)],aa [a,b,c,d,.row 4 true 0 L]⟩) (ev 40) (by kernel_rfl) (b8.nil (am.ret ⟨fun id h=>(by grind),.slice 4 0 0 L.length none,by kernel_rfl,by kernel_rfl,by kernel_rfl⟩))
theorem cl5(ws:List PWord)(hl:ws.length<=2^20)(a b c d e:AObj):kD 67 [.ls (ws.map aQ)] (aa [a,b,c,d,e]) (.sl0 5 0 ws.length none) (aa [a,b,c,d,e,Cd ws]):=by
  by_cases hne:ws=[]
  · subst hne
    have hE:(aa [a,b,c,d,e]).push (Cd [])=aa [a,b,c,d,e,Cd []]:=by kernel_rfl
    have h:=aE.psh (o:=Cd []) (u:=.sl0 5 0 0 none) (rG [] (by omega) (aa [a,b,c,d,e])) Fb
    simp_all
  have hn:ws.map aQ≠[]:=fun h=>hne (List.map_eq_nil_iff.1 h)
  have hf:=WO ws
  have hsm:small (ws.map aQ).length 40=true:=by grind[ar]
  have hlen:ws.length=(ws.map aQ).length:=(b9 ..).symm
  unfold Cd
  rw[hlen]
  generalize ws.map aQ=L at hn hf hsm
  refine(aE.less (Ψ:=fun v h=>v=.slice 5 0 0 L.length none/\h=aa [a,b,c,d,e,.row 4 true 0 L]) ?_ fun v h ⟨h1,h2⟩=>⟨_,h1▸Le.sl0,rfl,h2⟩)
  refine aE.enter 2 (fn:=Tryz.f67) Tryz.func67 (by kernel_rfl) rfl ⟨by kernel_rfl,by kernel_rfl⟩ ?_
  refine am.seq (am.mono (EB pL jk (ev 40) (s':=⟨eZ 8 [(0,.ls L),(2,.nils)],aa [a,b,c,d,e]⟩) (.go 0 .fin) (by kernel_rfl)) ?_)
  rintro _ _ ⟨rfl,rfl⟩
  refine am.seq (am.seq (am.mono (yz jk (ev 40) (Ψ:=fun s=>s=⟨eZ 8 [(0,.ls L),(2,.nils),(3,.ps L false),(4,.bool false)],aa [a,b,c,d,e]⟩) (.go 0 (.nz 3 .abs (.go 0 .fin)))
    (W:=(L=[]->False)/\(⟨eZ 8 [(0,.ls L),(2,.nils),(3,.ps L false),(4,.bool false)],aa [a,b,c,d,e]⟩:St)=⟨eZ 8 [(0,.ls L),(2,.nils),(3,.ps L false),(4,.bool false)],aa [a,b,c,d,e]⟩) ⟨hn,rfl⟩ (by kernel_rfl)) ?_))
  rintro _ _ ⟨rfl,rfl⟩
  refine am.cond (t:=false) (by kernel_rfl) (fun h=>by grind) fun _=>am.skip ?_
  refine am.seq (am.region ?_)
  show b8 _ _ _ _ [_,_,_,_] _ _
  refine b8.one (s':=⟨eZ 8 [(0,.ls L),(2,.nils),(3,.ps L false),(4,.bool false),(5,.ps [] true)],aa [a,b,c,d,e]⟩) (ev 40) (by kernel_rfl) ?_
  refine b8.one (s':=⟨eZ 8 [(0,.ls L),(2,.nils),(3,.ps L false),(4,.bool false),(5,.ps [] true),(6,.ls L)],aa [a,b,c,d,e]⟩) (ev 40) (by kernel_rfl) ?_
  refine rS (I:=fun k:Nat=>k=0) (r:=fun _=>.slice 5 0 0 L.length none) (H:=fun _=>aa [a,b,c,d,e,.row 4 true 0 L]) (by kernel_rfl)
    (fun pl M a w g1 g2 g3=>xB (z:=aQ ⟨[],0,0,0⟩) (z0:=aQ ⟨[],0,0,0⟩) (xs:=L) (t:=36) (tx:=36) (e:=127) (i:=FP) y6 wC (by kernel_rfl) ⟨127,by kernel_rfl⟩ FO (by kernel_rfl) (Le.refl _) (by kernel_rfl) (by kernel_rfl) hn hf (by kernel_rfl) hsm (by omega) pl M a w g1 g2 g3) fun k _=>?_
  refine⟨eZ 8 [(0,.ls L),(2,.nils),(3,.ps L false),(4,.bool false),(5,.ps [] true),(6,.ls L),(7,.slice 5 0 0 L.length none)],by kernel_rfl,?_⟩
  refine b8.one (s':=⟨eZ 8 [(0,.ls L),(2,.slice 5 0 0 L.length none),(3,.ps L false),(4,.bool false),(5,.ps [] true),(6,.ls L),(7,.slice 5 0 0 L.length none)],aa [a,b,c,d,e,.row 4 true 0 L]⟩) (ev 40) (by kernel_rfl) (b8.nil (am.ret ⟨fun id h=>(by grind),.slice 5 0 0 L.length none,by kernel_rfl,by kernel_rfl,by kernel_rfl⟩))
noncomputable abbrev EU(u:TUnit)(k:AV):AV:=.agg [iV u.act,iV u.item,iV u.n,iV u.kind,.str u.label,.sl0 3 0 u.head.length none,.sl0 4 0 u.words.length none,k]
noncomputable abbrev V9(u:TUnit)(i j:Nat)(k:AV):AObj:=.row 8 false 0 [.agg [iV u.act,iV u.item,iV u.n,iV u.kind,.str u.label,.sl0 i 0 u.head.length none,.sl0 j 0 u.words.length none,k]]
theorem Z9(u:TUnit)(hk:0<u.kids.length)(hn:nU u<=2^20)(ht:∀x,x∈aT u->x.head.length<=2^20/\x.words.length<=2^20):kC 56 [eU u] (aa [wE u,wt])
    (fun v h=>∃y:Nat×Nat×List TUnit,(y.2.1=u.kids.length/\y.2.2=u.kids)/\v=EU u (.slice 5 y.1 0 y.2.1 none)/\h=aa [wE u,wt,V9 u 3 4 (.slice 5 y.1 0 y.2.1 none),Cd u.head,Cd u.words,.row 8 true y.1 (y.2.2.map aY)]):=by
  have hkl:=bm u
  have c1:=(ht u (ch u)).1
  have c2:=(ht u (ch u)).2
  have ihk:∀k,k∈u.kids->kP 56 [eU k] (eU k):=fun k hk=>IU k (bO (oS (iC hk)) hn) (fun x hx=>⟨nF (ht x (bq hk hx)).1 (by omega),nF (ht x (bq hk hx)).2 (by omega)⟩)
  let q1:=[ak (uLx u)];let q2:=[ak [iV 0,iV 0,iV 0,iV 0,aj [],ab,ab,ab]];let q3:=aZ 8 false 0 q2;let q4:=aZ 8 false 0 q1;let q5:=List.map aQ u.head;let q6:=aZ 4 true 0 q5;exact qk Tryz.func56 fun a=>Mg 3<|M3 (.efx true (AV.sl0 4 0 u.head.length none)<|aa [aZ 8 false 0 q1,aZ 8 false 0 q2,aZ 8 false 0 q1,aZ 8 false 0 q2,aZ 4 true 0 q5]) (EM rt rt rt rt ti) (EM (aJ<|some q3) (aJ<|some q4) (aJ<|some q3) (aJ<|some q4) ti) (cl4 u.head c1 q4 q3 q4 q3)<|Mg 1<|M3 (.efx true (AV.sl0 5 0 u.words.length none)<|aa [aZ 8 false 0 q1,aZ 8 false 0 q2,aZ 8 false 0 q1,aZ 8 false 0 q2,aZ 4 true 0 q5,aZ 4 true 0<|u.words.map aQ]) (yg (tR 4 true 0 5<|aX iH u.head) rt rt rt rt ti) (yg (aJ<|some q6) (aJ<|some q3) (aJ<|some q4) (aJ<|some q3) (aJ<|some q4) ti) (cl5 u.words c2 q4 q3 q4 q3 q6)<|Kl 7 16 (ln aY u.kids)<|Mg 0<|kR Nat Nat (List TUnit) aY u.kids [1,2,3,15,16,17] (fun a _=>([bX 2 0 0 0,bX 3 0 0 0,ab,aW<|u.kids.map aY,nV u.kids.length,nV a],[aZ 8 false 0 [ak (uLx u)],aZ 8 false 0 [ak [iV 0,iV 0,iV 0,iV 0,aj [],ab,ab,ab]],aZ 8 false 0 [ak [iV u.act,iV u.item,iV u.n,iV u.kind,aj u.label,AV.sl0 4 0 u.head.length none,AV.sl0 5 0 u.words.length none,aW<|u.kids.map aY]],aZ 8 false 0 [ak [iV 0,iV 0,iV 0,iV 0,aj [],ab,ab,ab]],aZ 4 true 0<|u.head.map aQ,aZ 4 true 0<|u.words.map aQ])) (fun a _ b c d=>([bX 2 0 0 0,bX 3 0 0 0,aI 6 b 0 c none,aW<|u.kids.map aY,nV u.kids.length,nV a],[aZ 8 false 0 [ak (uLx u)],aZ 8 false 0 [ak [iV 0,iV 0,iV 0,iV 0,aj [],ab,ab,ab]],aZ 8 false 0 [ak [iV u.act,iV u.item,iV u.n,iV u.kind,aj u.label,AV.sl0 4 0 u.head.length none,AV.sl0 5 0 u.words.length none,aW<|u.kids.map aY]],aZ 8 false 0 [ak [iV 0,iV 0,iV 0,iV 0,aj [],ab,ab,ab]],aZ 4 true 0<|u.head.map aQ,aZ 4 true 0<|u.words.map aQ,aZ 8 true b<|d.map aY])) (fun a=>a=u.kids) (fun a _ b c=>b=c.length/\(0:Nat)<c.length/\c++a=u.kids/\c.length+a.length=u.kids.length) (by rfl) (fun _ _ _ _ _ a _=>Kh 0 a<|Mg 4<|Mw .abs (sA:False)) (fun a _ _ b c d _ e f g _ i _=>have i:=(i).trans<|congrArg some<|aO c;have b:=c8 (J:=fun a _=>a=u.kids) (a:=()) f b;Kt 0 g<|Mx i<|Kp 4 (ihk c gR)<|K1 1 (.obj 7<|aZ 8 true 0<|List.map aY [c]) (congrArg (aZ 8 true 0)<|UT (f:=aY) (g:=Go.Ev.eU) (ws:=[c]) aO)<|Kl 1 26 (dt a)<|Mg 0<|Mw (.ren [0,1,2,3,4,5,7,6] [4,5,7] [1,2,3,15,16,17]<|.frz 7 [1,2,3,15,16,17] .fin)<|EM (tS 4 true 0<|aX iH u.head) (tS 4 true 0<|aX iH u.words) (tS 8 true 0<|aX iZ [c]) (et8 (tR 8 true 0 7<|aX iZ [c]) (tR 4 true 0 7<|aX iH u.words) (tR 4 true 0 7<|aX iH u.head) rt rt rt rt ti)<|e 0 1 [c]<|by(refine⟨rfl,by simp,?_,?_⟩<;>(rw[<-b])<;>(first|rfl|grind))) (fun _ _ b c d _ _ _ e _=>Kh 0 e<|Mg 4<|Mw (.ren [0,1,3,4,5,6,2] [4,5,6] [2]<|.frz 6 [2] .fin)<|EM (tS 4 true 0<|aX iH u.head) (tS 4 true 0<|aX iH u.words) (tS 8 true b<|aX iZ d) (OH (tR 8 true b 6<|aX iZ d) (tR 4 true 0 6<|aX iH u.words) (tR 4 true 0 6<|aX iH u.head) rt rt rt ti)<|a (b,c,d) sA) fun a _ b c d _ e f g _ i j l _ n _=>have n:=(n).trans<|congrArg some<|aO f;have e:=c8 (J:=fun a b=>b.2.1=b.2.2.length/\(0:Nat)<b.2.2.length/\b.2.2++a=u.kids/\b.2.2.length+a.length=u.kids.length) (a:=(b,c,d)) j e;Kt 0 l<|Mx n<|Kp 4 (ihk f gR)<|K1 0 .app (cp (aJ b) (sA:c=(d.map aY).length) (by(refine ar (m:=2^21) ?_ ?_ ?_<;>omega):small (c+1) 120=true))<|M1 (.obj 6<|aZ 8 true (b+1)<|(d++[f]).map aY) (congrArg (aZ 8 true<|b+1)<|ya (f:=aY) (g:=Go.Ev.eU) (l:=d) (ws:=[f]) aO)<|Kl 1 26 (dt a)<|K1 0 (.frz 7 [1,2,3,15,16,17]) (et8 (tR 8 true (b+1) 7<|aX iZ<|d++[f]) (tR 4 true 0 7<|aX iH u.words) (tR 4 true 0 7<|aX iH u.head) rt rt rt rt ti)<|Mf<|i (b+1) (c+1) (d++[f])<|by(refine⟨by simp_all,by simp,?_,?_⟩<;>first|(rw[<-e.2.2.1];simp;done)|grind)
theorem aaa(u:TUnit)(hk:u.kids=[])(ht:∀x,x∈aT u->x.head.length<=2^20/\x.words.length<=2^20):kD 56 [eU u] (aa [wE u,wt]) (EU u .nils) (aa [wE u,wt,V9 u 3 4 .nils,Cd u.head,Cd u.words]):=by
  have c1:=(ht u (ch u)).1
  have c2:=(ht u (ch u)).2
  have hz:aB 0 (Int.ofNat u.kids.length)=false:=by rw[hk];rfl
  let q:=[ak (uLx u)];let q1:=[ak [iV 0,iV 0,iV 0,iV 0,aj [],ab,ab,ab]];let q2:=[aZ 8 false 0 q,aZ 8 false 0 q1,aZ 8 false 0 [ak [iV u.act,iV u.item,iV u.n,iV u.kind,aj u.label,AV.sl0 4 0 u.head.length none,AV.sl0 5 0 u.words.length none,aW (u.kids.map aY)]],aZ 8 false 0 q1,aZ 4 true 0 (u.head.map aQ),aZ 4 true 0 (u.words.map aQ)];let q3:=aZ 8 false 0 q1;let q4:=aZ 8 false 0 q;let q5:=[bX 2 0 0 0,bX 3 0 0 0,ab,aW (u.kids.map aY),nV u.kids.length,iV 0];let q6:=List.map aQ u.head;let q7:=aZ 4 true 0 q6;exact fS Tryz.func56 fun a=>Mg 3<|M3 (.efx true (AV.sl0 4 0 u.head.length none)<|aa [aZ 8 false 0 q,aZ 8 false 0 q1,aZ 8 false 0 q,aZ 8 false 0 q1,aZ 4 true 0 q6]) (EM rt rt rt rt ti) (EM (aJ<|some q3) (aJ<|some q4) (aJ<|some q3) (aJ<|some q4) ti) (cl4 u.head c1 q4 q3 q4 q3)<|Mg 1<|M3 (.efx true (AV.sl0 5 0 u.words.length none)<|aa [aZ 8 false 0 q,aZ 8 false 0 q1,aZ 8 false 0 q,aZ 8 false 0 q1,aZ 4 true 0 q6,aZ 4 true 0<|u.words.map aQ]) (yg (tR 4 true 0 5<|aX iH u.head) rt rt rt rt ti) (yg (aJ<|some q7) (aJ<|some q3) (aJ<|some q4) (aJ<|some q3) (aJ<|some q4) ti) (cl5 u.words c2 q4 q3 q4 q3 q7)<|Kl 7 16 (ln aY u.kids)<|Mg 0<|MO0 [1,2,3,15,16,17] (q5,q2) True 0 ti fun _ _=>Kh 0 hz<|Mg 4<|M2 (.ren [0,1,3,4,5,2] [4,5] [2]) (tS 4 true 0<|aX iH u.head) (tS 4 true 0<|aX iH u.words)<|M1 (.frz 5 [2]) (yg (tR 4 true 0 5<|aX iH u.words) (tR 4 true 0 5<|aX iH u.head) rt rt rt ti)<|Mf a
noncomputable abbrev kdO(ep:Nat)(l:List TUnit):AObj:=.row 8 true ep (l.map aY)
theorem L9(u:TUnit){k k':AV}(h:Le k k')(h2:cN k=true):Le (EU u k) (EU u k'):=aP (.cons (Le.refl _) (.cons (Le.refl _) (.cons (Le.refl _) (.cons (Le.refl _) (.cons (Le.refl _) (.cons (Le.refl _) (.cons (Le.refl _) (.cons h .nil)))))))) (by simp only[List.all_cons,List.all_nil,h2];rfl)
theorem Z8(u:TUnit)(hn:nU u<=2^20)(ht:∀x,x∈aT u->x.head.length<=2^20/\x.words.length<=2^20):kC 56 [eU u] (aa [wE u,wt])
    (fun v h=>∃ep:Nat,True/\v=EU u (.sl0 5 ep u.kids.length none)/\h=aa [wE u,wt,.dead,Cd u.head,Cd u.words,kdO ep u.kids]):=by
  rcases Nat.eq_zero_or_pos u.kids.length with hk|hk
  · have hk:=List.length_eq_zero_iff.1 hk
    refine aE.dead (i:=2) (K8 (Ψ':=fun v h=>v=EU u (.sl0 5 0 0 none)/\h=aa [wE u,wt,V9 u 3 4 .nils,Cd u.head,Cd u.words,kdO 0 u.kids]) (kdO 0 u.kids) (aaa u hk ht) fun v h' ⟨h1,h2⟩=>⟨EU u (.sl0 5 0 0 none),h1▸L9 u Le.sl0n rfl,rfl,?_⟩) (af 2) (by omega) fun v h' ⟨h1,h2⟩=>⟨0,trivial,by simp_all,?_⟩
    · rw[h2];kernel_rfl
    · rw[h2];kernel_rfl
  · refine aE.dead (i:=2) (aE.less (Ψ':=fun v h=>∃ep:Nat,v=EU u (.sl0 5 ep u.kids.length none)/\h=aa [wE u,wt,V9 u 3 4 (.slice 5 ep 0 u.kids.length none),Cd u.head,Cd u.words,kdO ep u.kids]) (Z9 u hk hn ht) fun v h' ⟨y,⟨e1,e2⟩,h1,h2⟩=>⟨EU u (.sl0 5 y.1 u.kids.length none),?_,y.1,rfl,?_⟩) (af 2) (by omega) fun v h' ⟨ep,h1,h2⟩=>⟨ep,trivial,h1,?_⟩
    · rw[h1,e1];exact L9 u Le.sl0 rfl
    · simp_all
    · rw[h2];kernel_rfl
def kI{α:Type}(f:α->α)(l:List α)(i:Nat):List α:=(l.take i).map f++l.drop i
theorem vS{α:Type}{f:α->α}{l:List α}{i:Nat}:(kI f l i).length=l.length:=by
  grind[kI]
theorem vT{α:Type}{f:α->α}{l:List α}{i:Nat}(h:l.length<=i):kI f l i=l.map f:=by
  grind[kI,List.take_of_length_le]
theorem AU{α:Type}[Inhabited α]{f:α->α}{l:List α}{i:Nat}(h:i<l.length):gD (kI f l i) i=gD l i:=by
  have e:((l.take i).map f).length=i:=by grind
  simp_all[kI,gD,oV]
theorem C5{α:Type}[Inhabited α]{f:α->α}{l:List α}{i:Nat}(h:i<l.length):(kI f l i).set i (f (gD l i))=kI f l (i+1):=by
  have e:((l.take i).map f).length=i:=by grind
  have hg:gD l i=l[i]:=by unfold gD;simp_all
  unfold kI
  rw[List.set_append_right _ _ (by omega),e,Nat.sub_self,hg,Ps h,List.set_cons_zero,Pt h,oJ,jy]
  rfl
theorem AY{l:List PWord}{i:Nat}(h:i<l.length):(kI gL l i).set i ⟨(gD (kI gL l i) i).text,0,0,0⟩=kI gL l (i+1):=by
  rw[AU h];exact C5 h
theorem QJ:∀u:TUnit,nU u<=2^20->(∀x,x∈aT u->x.head.length<=2^20/\x.words.length<=2^20)->kP 303 [eU u] (eU (cR u)):=by
  refine TUnit.ind fun u ih hn ht=>?_
  have hkl:=bm u
  have c1:=(ht u (ch u)).1
  have c2:=(ht u (ch u)).2
  have hc:=Z8 u hn ht
  have ihk:∀k,k∈u.kids->kP 303 [eU k] (eU (cR k)):=fun k hk=>ih k hk (bO (oS (iC hk)) hn) (fun x hx=>ht x (bq hk hx))
  rw[mo]
  have rr0 b' (h:(List.map aQ (TUnit.mk 0 0 0 u.kind u.label (u.head.map gL) (u.words.map gL) (u.kids.map cR)).head)=b':=by(rw[hx1.2,vT (by(simp only[oN]at *;omega))];rfl)):=h;have rr1 b' (h:(List.map aQ (TUnit.mk 0 0 0 u.kind u.label (u.head.map gL) (u.words.map gL) (u.kids.map cR)).words)=b':=by(rw[hx2.2,vT (by(simp only[oN]at *;omega))];rfl)):=h;have rr2 b' (h:(List.map aY (TUnit.mk 0 0 0 u.kind u.label (u.head.map gL) (u.words.map gL) (u.kids.map cR)).kids)=b':=by(rw[hx3.2,vT (by(simp only[oN]at *;omega))];rfl)):=h;exact bp Tryz.func303<|Mg 2<|Mq hc fun a _=>Mg 10<|M0 (.un 2)<|Mg 7<|K4 (0:Nat) u.head [1,2,4,15,16,17,22,23] (fun b c=>([bX 0 0 0 0,bX 1 0 0 0,AV.sl0 3 0 u.head.length none,j9 [AV.sl0 3 0 u.head.length none,AV.sl0 4 0 u.words.length none] true,iV 2,iV 0,nV u.head.length,nV b],[aZ 8 false 0 [ak [iV 0,iV 0,iV 0,iV u.kind,aj u.label,AV.sl0 3 0 u.head.length none,AV.sl0 4 0 u.words.length none,AV.sl0 5 a u.kids.length none]],aZ 8 false 0 [ak [iV 0,iV 0,iV 0,iV 0,aj [],ab,ab,ab]],AObj.dead,aZ 4 true 0<|c.map aQ,aZ 4 true 0<|u.words.map aQ,aZ 8 true a<|u.kids.map aY])) (fun a b=>a<=u.head.length/\b=kI gL u.head a) (fun a _=>u.head.length-a) (by exact⟨bA _,rfl⟩) fun b c hx1 d=>have hx1:b<=u.head.length/\c=kI gL u.head b:=hx1;have:c.length=u.head.length:=(by grind[vS]);Ka 0 (Int.ofNat b) (Int.ofNat u.head.length) (fun _ _=>K1 4 .rix (et (aJ 0) (sA:b<u.head.length))<|K1 0 (.rst (aQ<|gD c b)<|(c.set b<|PWord.mk (gD c b).text 0 0 0).map aQ) (cp (aJ 0) (aR aQ (sA:b<(c).length))<|kV (f:=aQ) (l:=c) (i:=b) (w:=PWord.mk (gD c b).text 0 0 0))<|Kl 0 31 (i7 b)<|Kf 0<|d (b+1) (c.set b<|PWord.mk (gD c b).text 0 0 0) (by grind[AY]) gR) fun _ _=>Mg 9<|K4 (0:Nat) u.words [1,2,4,15,16,17,22,23] (fun b d=>([bX 0 0 0 0,bX 1 0 0 0,AV.sl0 4 0 u.words.length none,j9 [AV.sl0 3 0 u.head.length none,AV.sl0 4 0 u.words.length none] true,iV 2,iV 1,nV u.words.length,nV b],[aZ 8 false 0 [ak [iV 0,iV 0,iV 0,iV u.kind,aj u.label,AV.sl0 3 0 u.head.length none,AV.sl0 4 0 u.words.length none,AV.sl0 5 a u.kids.length none]],aZ 8 false 0 [ak [iV 0,iV 0,iV 0,iV 0,aj [],ab,ab,ab]],AObj.dead,aZ 4 true 0<|c.map aQ,aZ 4 true 0<|d.map aQ,aZ 8 true a<|u.kids.map aY])) (fun a b=>a<=u.words.length/\b=kI gL u.words a) (fun a _=>u.words.length-a) (by exact⟨bA _,rfl⟩) fun b d hx2 e=>have hx2:b<=u.words.length/\d=kI gL u.words b:=hx2;have:d.length=u.words.length:=(by grind[vS]);Ka 0 (Int.ofNat b) (Int.ofNat u.words.length) (fun _ _=>K1 4 .rix (et (aJ 0) (sA:b<u.words.length))<|K1 0 (.rst (aQ<|gD d b)<|(d.set b<|PWord.mk (gD d b).text 0 0 0).map aQ) (cp (aJ 0) (aR aQ (sA:b<(d).length))<|kV (f:=aQ) (l:=d) (i:=b) (w:=PWord.mk (gD d b).text 0 0 0))<|Kl 0 31 (i7 b)<|Kf 0<|e (b+1) (d.set b<|PWord.mk (gD d b).text 0 0 0) (by grind[AY]) gR) fun _ _=>Mg 7<|K4 (0:Nat) u.kids [1,2,35,36] (fun b e=>([bX 0 0 0 0,bX 1 0 0 0,nV u.kids.length,nV b],[aZ 8 false 0 [ak [iV 0,iV 0,iV 0,iV u.kind,aj u.label,AV.sl0 3 0 u.head.length none,AV.sl0 4 0 u.words.length none,AV.sl0 5 a u.kids.length none]],aZ 8 false 0 [ak [iV 0,iV 0,iV 0,iV 0,aj [],ab,ab,ab]],AObj.dead,aZ 4 true 0<|c.map aQ,aZ 4 true 0<|d.map aQ,aZ 8 true a<|e.map aY])) (fun a b=>a<=u.kids.length/\b=kI cR u.kids a) (fun a _=>u.kids.length-a) (by exact⟨bA _,rfl⟩) fun b e hx3 f=>have hx3:b<=u.kids.length/\e=kI cR u.kids b:=hx3;have:e.length=u.kids.length:=(by grind[vS]);have g:b<u.kids.length->kP (303:FuncId) [eU (gD e b)] (eU (cR (gD e b))):=fun h=>ihk _ (by grind[AU,dZ]);Ka 0 (Int.ofNat b) (Int.ofNat u.kids.length) (fun _ _=>K1 7 .rix (et (aJ a) (sA:b<u.kids.length))<|Mr (et (aJ a)<|ri aY (g:=Go.Ev.eU) aO (sA:b<(e).length))<|Mp (g sA)<|M1 .rix (et (aJ a) (sA:b<u.kids.length))<|M3 (.rst (ak [iV (gD e b).act,iV (gD e b).item,iV (gD e b).n,iV (gD e b).kind,aj (gD e b).label,aW<|List.map aQ (gD e b).head,aW<|List.map aQ (gD e b).words,aW<|List.map aY (gD e b).kids])<|(e.set b<|cR<|gD e b).map aY) rt (g0 (tR 8 true a 6<|aX iZ e) rt) (cp (aJ a) (ri aY (g:=Go.Ev.eU) aO (sA:b<(e).length))<|EW (f:=aY) (g:=Go.Ev.eU) aO (l:=e) (i:=b) (w:=cR<|gD e b))<|Kl 0 49 (i7 b)<|Kf 0<|f (b+1) (e.set b<|cR<|gD e b) (by grind[AU,C5]) gR) fun _ _=>M2 (.fza 0 7 5 [1,2]<|e.map aY) (yg (tR 4 true 0 5<|aX iH d) (tR 4 true 0 5<|aX iH c) rt rt rt ti) (cp (aJ a) (tA aY e u.kids.length (oA:(e).length=u.kids.length))<|aX iZ e)<|M2 (.fza 0 6 4 [1,2]<|d.map aQ) (EM (tR 4 true 0 4<|aX iH c) rt rt rt ti) (cp (aJ 0) (tA aQ d u.words.length (oA:(d).length=u.words.length))<|aX iH d)<|M2 (.fza 0 5 3 [1,2]<|c.map aQ) (js rt rt rt ti) (cp (aJ 0) (tA aQ c u.head.length (oA:(c).length=u.head.length))<|aX iH c)<|Kf 1 (aP (lc<|lc<|lc<|lc<|lc<|.cons (cY<|rr0<|c.map aQ)<|.cons (cY<|rr1<|d.map aQ)<|.cons (cY<|rr2<|e.map aY) .nil)<|by kernel_rfl:Le _ (AV.agg [iV 0,iV 0,iV 0,iV u.kind,AV.str u.label,AV.ls (c.map aQ),AV.ls (d.map aQ),AV.ls (e.map aY)]))
theorem Rq:Go.Proofs.Builder.Extra Tryz.prog Tryz.ljoin_ren:=by
  repeat' (first|kernel_rfl|(intro w;kernel_rfl)|decide|constructor)
theorem U5(l:List aH)(sep:aH)(h1:l.length<=140737488355328)(h2:(Lib.join l sep).length<=140737488355328):kP 270 [.ls (l.map nw),.str sep] (.str (Lib.join l sep)):=Oa (Go.Proofs.enters_of Tryz.func270 (by kernel_rfl) rfl) (fun a b c d e f g h i j k=>Go.Proofs.Any.strings_Join Go.Proofs.Tryz.ljoin Rq a b c d e f g h i j k) (fun a b c d=>Go.Proofs.Any.strings_Join_none Go.Proofs.Tryz.ljoin Rq a b c d) l sep h1 h2
theorem ZL:Go.Proofs.Builder.Extra Tryz.prog Tryz.lrep_ren:=by
  repeat' (first|kernel_rfl|(intro w;kernel_rfl)|decide|constructor)
theorem Xr(s:aH)(c:Nat)(h1:c<=9223372036854775807)(h2:s.length*c<=140737488355328):kP 324 [.str s,nV c] (.str (Lib.repeatL s c)):=Gf (Go.Proofs.enters_of Tryz.func324 (by kernel_rfl) rfl) (fun a b d e f=>Go.Proofs.Any.strings_Repeat Go.Proofs.Tryz.lrep ZL a b d e f) s c h1 h2
theorem Qp(s:aH)(ws:List PWord)(hw:∀w,w∈ws->1<=w.text.length/\w.text.length<=24)(hb:s.length+26*ws.length<=2^40)(hn:ws.length<=2^20):kP 326 [.str s,.ls (ws.map aQ)] (.str (mz s ws)):=by
  have rr0 b' (h:(mz s ws)=b':=by first|rfl|(exact hj0.1.symm)):=h;exact bp Tryz.func326<|Kl 2 8 (ln aQ ws)<|Mg 0<|XK (0:Nat) ws s [0,7,8,9] (fun a _ b=>([aj b,aW<|ws.map aQ,nV ws.length,nV a],[])) (fun a b c=>(ws).drop a=b/\mz c b=mz s ws/\List.length c+26*b.length<=2^40) (fun _ a _=>a.length) (et rfl<|by first|rfl|(first|simp_all|(refine⟨by(rw[<-hj0.1,oH];first|rw[Fv h1]|rw[Fw h1 h2]|rw[Fk h1 h2]),?_⟩;have q:=hj0.2;simp only[lA,lC,lN]at *;omega))) fun a b c d e=>Mc b (fun a=>have b:=gH d.1 a;have hj0:=jA (J:=fun a b=>mz b a=mz s ws/\List.length b+26*a.length<=2^40) (a:=c) a d.2;Kh 0 b<|Kf 1<|Le.str<|rr0 c) fun b f g=>let i:=[aZ 4 false 0 [ak [aj b.text,iV b.act,iV b.item,iV b.at_]]];have j:=gI d.1 g;have:=aA j;have k:=gG (enc:=aQ) d.1 g;have hj0:=c8 (J:=fun a b=>mz b a=mz s ws/\List.length b+26*a.length<=2^40) (a:=c) g d.2;have:=hw b<|aN d.1 g;Kt 0 j<|Mx k<|Kv 3 (fy (s:=c) (u:=[32]) (H:=aa i) (by(first|first|assumption|omega|grind):(c).length+([32]).length<=2^62))<|K1 2 (.chr<|gD b.text 0) (zL (by first|omega|(simp only[oN,lM,lS]at *;omega)|(simp only[oN,lM,lS,lA,lR,lC,lN]at * <;>omega):0<(b.text).length))<|Kj 1 (Int.ofNat (gD b.text 0).toNat) 124 (fun j _=>Mt j<|Mt j<|Mt j<|MV j<|Kv 1 (fy (s:=c++[32]) (u:=[92]) (H:=aa i) (by(first|first|assumption|omega|grind):(c++[32]).length+([92]).length<=2^62))<|Kv 3 (fy (s:=c++[32]++[92]) (u:=b.text) (H:=aa i) (by(first|first|assumption|omega|grind):(c++[32]++[92]).length+(b.text).length<=2^62))<|Kl 1 31 (dt a)<|K1 0 (.frz 0 [0,7,8,9]) ti<|Mf<|e (a+1) f (c++[32]++[92]++b.text) (et (cZ d.1 g)<|by first|exact⟨rfl,hb⟩|(refine⟨by(rw[<-hj0.1,oH];first|rw[Fv j]|rw[Fw j h2]|rw[Fk j h2]),?_⟩;grind))<|gY g) fun j _=>Kh 0 j<|Kh 0 j<|M1 (.chr<|gD b.text 0) (zL (by first|omega|(simp only[oN,lM,lS]at *;omega)|(simp only[oN,lM,lS,lA,lR,lC,lN]at * <;>omega):0<(b.text).length))<|Mh j<|Kw 0 j<|Mb (ay (Int.ofNat (gD b.text 0).toNat) 92) (fun k=>have:=iQ k;Kv 0 (fy (s:=c++[32]) (u:=[92]) (H:=aa i) (by(first|first|assumption|omega|grind):(c++[32]).length+([92]).length<=2^62))<|Kv 3 (fy (s:=c++[32]++[92]) (u:=b.text) (H:=aa i) (by(first|first|assumption|omega|grind):(c++[32]++[92]).length+(b.text).length<=2^62))<|Kl 1 31 (dt a)<|K1 0 (.frz 0 [0,7,8,9]) ti<|Mf<|e (a+1) f (c++[32]++[92]++b.text) (et (cZ d.1 g)<|by first|exact⟨rfl,hb⟩|(refine⟨by(rw[<-hj0.1,oH];first|rw[Fv j]|grind[Fw]|rw[Fk j k]),?_⟩;grind))<|gY g) fun k=>have:=HN k;Kv 2 (fy (s:=c++[32]) (u:=b.text) (H:=aa i) (by(first|first|assumption|omega|grind):(c++[32]).length+(b.text).length<=2^62))<|Kl 1 31 (dt a)<|K1 0 (.frz 0 [0,7,8,9]) ti<|Mf<|e (a+1) f (c++[32]++b.text) (et (cZ d.1 g)<|by first|exact⟨rfl,hb⟩|(refine⟨by(rw[<-hj0.1,oH];first|rw[Fv j]|rw[Fw j k]|grind[Fk]),?_⟩;grind))<|gY g
theorem sB{u:TUnit}(h:my u):my (cR u):=by
  obtain⟨h1,h2⟩:=NB u
  refine⟨by rw[h1];exact h.1,fun x hx=>?_⟩
  obtain⟨y,hy,rfl⟩:=h2 x hx
  obtain⟨a,b,c,d,e⟩:=h.2 y hy
  rw[mo]
  refine⟨by grind[TUnit.head],by grind[TUnit.words],c,fun w hw=>?_,fun w hw=>?_⟩
  · obtain⟨v,hv,rfl⟩:=gn.1 hw;exact d v hv
  · obtain⟨v,hv,rfl⟩:=gn.1 hw;exact e v hv
theorem Cm{u:TUnit}(h:sx u):my (tT u):=by
  have e:aT (tT u)=[tT u]:=by rw[cq];exact congrArg _ eS
  refine⟨by rw[jV];exact bO (wl (congrArg (1+ ·) mc)) (by omega),fun x hx=>?_⟩
  rw[e]at hx
  rw[ig.1 hx];exact h
theorem D7(u:TUnit)(h:my u):kP 303 [eU u] (eU (cR u)):=
  QJ u (bO h.1 (by omega)) fun x hx=>⟨bO (h.2 x hx).1 (by omega),bO (h.2 x hx).2.1 (by omega)⟩
theorem RV(u:TUnit)(d:Nat)(hd:d<=2^20)(h:sx u):kP 323 [eU u,nV d] (.bool (Em u d)):=by
  have h1:=D7 (tT u) (Cm h)
  have h2:=yQ (cR (tT u)) (sB (Cm h))
  have hz:=XL d
  have rr0 b' (h:(Em u d)=b':=by first|rfl|(unfold Em;simp only[aS,ax,bS, *];done)):=h;exact bp Tryz.func323<|Kn 13 (aB 8<|Int.ofNat d) (fun a=>Kt 0 (cS a)<|Mp (aL.onArgs (.cons (aP (lc<|lc<|lc<|lc<|lc<|lc<|lc<|.cons bD .nil)<|by kernel_rfl) .nil) h1:kP 303 [ak [iV 0,iV 0,iV 0,iV u.kind,aj u.label,aW (u.head.map aQ),aW (u.words.map aQ),ab]] _)<|Mt (cS a)<|Mp h2<|MV (cS a)<|Kf 0<|cb<|rr0<|kT<|cR<|tT u) fun a=>Mh (cE a)<|Mh (cE a)<|My (cE a)<|Ky 0<|rr0 false
theorem X5(u:TUnit)(d:Nat)(hd:d<=2^20)(h:sx u)(hm:Em u d=false):kP 305 [eU u,nV d] (.str (gU u d)):=by
  have h1:=RV u d hd h
  rw[hm]at h1
  have e:gU u d=[]:=by unfold gU;simp_all
  rw[e]
  exact bp Tryz.func305<|Kp 3 h1<|Kf 2<|bw<|aj []
def Oy(u:TUnit)(d:Nat)(z18:aH):Prop:=(z18=bif ax (ay u.kind (0:Int))then Lib.repeatL [(32:UInt8),(32:UInt8)] d++dW u.kind++([(32:UInt8)]++u.label)else Lib.repeatL [(32:UInt8),(32:UInt8)] d++dW u.kind)/\List.length z18<=(40:Nat)
noncomputable def Ov(u:TUnit)(d:Nat)(z18:aH):List AV×List AObj:=([AV.ptr 0 0 0 0,AV.str z18],[AObj.row 8 false 0 [AV.agg (uLx u)]])
def Ow(u:TUnit)(z18:aH)(z27:aH):Prop:=(z27=bif aB (0:Int) (Int.ofNat u.head.length)then mz (z18++[(58:UInt8)]) u.head else z18)/\List.length z27<=(6700:Nat)
noncomputable def Oj(u:TUnit)(z18:aH)(z27:aH):List AV×List AObj:=([AV.ptr 0 0 0 0,AV.str z27],[AObj.row 8 false 0 [AV.agg (uLx u)]])
theorem X4(u:TUnit)(d:Nat)(hd:d<=2^20)(h:sx u)(hm:Em u d=true):kP 305 [eU u,nV d] (.str (gU u d)):=by
  have h1:=RV u d hd h
  obtain⟨hd8,hlb,⟨hh1,hh2⟩,hw1,hw2⟩:=L2 hm
  have hrl:=Lib.repeatL_length [32,32] d
  simp only[lC,lN]at hrl
  have h2:=Xr [32,32] d (by omega) (by grind)
  have hk:=xV u.kind
  have hkl:=Ac u.kind
  have hp1:∀s:aH,s.length<=2^14->kP 326 [.str s,.ls (u.head.map aQ)] (.str (mz s u.head)):=fun s hs=>Qp s u.head hh2 (by omega) (by omega)
  have hp2:∀s:aH,s.length<=2^14->kP 326 [.str s,.ls (u.words.map aQ)] (.str (mz s u.words)):=fun s hs=>Qp s u.words hw2 (by omega) (by omega)
  rw[hm]at h1
  have rr0 b' (h:(gU u d)=b':=by first|rfl|(unfold gU;rw[hm];simp only[ax,cond_false];rw[<-hz18.1,<-hz27.1];first|(rw[h3];rfl)|(rw[h4];rfl)|(rw[h5];rfl)|(rw[h6];rfl)|(rw[h7];rfl))):=h;let q1:=[aZ 8 false 0 [ak (uLx u)]];exact bp Tryz.func305<|Kp 3 h1<|Kp 2 h2<|Kp 1 hk<|Mv (fy (s:=Lib.repeatL [32,32] d) (u:=dW u.kind) (H:=AHeap.mk 1000000 Tr.nil) (by(first|first|assumption|((try simp only[lA,lC,lN]);omega)|(simp only[lA,lC,lN]at *;omega)):(Lib.repeatL [32,32] d).length+(dW u.kind).length<=2^62))<|Mg 0<|Mj aH [2,5] (Ov u d) (Oy u d) (fun a=>Kn 2 (ay u.kind 0) (fun _=>Kv 2 (fy (s:=[32]) (u:=u.label) (H:=aa q1) (by(first|first|assumption|((try simp only[lA,lC,lN]);omega)|(simp only[lA,lC,lN]at *;omega)):([32]).length+(u.label).length<=2^62))<|Mv (fy (s:=Lib.repeatL [32,32] d++dW u.kind) (u:=32::u.label) (H:=aa q1) (by(first|first|assumption|((try simp only[lA,lC,lN]);omega)|(simp only[lA,lC,lN]at *;omega)):(Lib.repeatL [32,32] d++dW u.kind).length+(32::u.label).length<=2^62))<|Kf 0<|a (Lib.repeatL [32,32] d++dW u.kind++32::u.label) (by(refine⟨by first|simp_all|(rw[h2];rfl)|(rw[h3];rfl)|(rw[h0];rfl),?_⟩;grind):(Lib.repeatL [(32:UInt8),(32:UInt8)] d++dW u.kind++(32:UInt8)::u.label=bif ax (ay u.kind (0:Int))then Lib.repeatL [(32:UInt8),(32:UInt8)] d++dW u.kind++([(32:UInt8)]++u.label)else Lib.repeatL [(32:UInt8),(32:UInt8)] d++dW u.kind)/\(Lib.repeatL [(32:UInt8),(32:UInt8)] d++dW u.kind++(32:UInt8)::u.label).length<=40)) fun _=>Mf<|a (Lib.repeatL [32,32] d++dW u.kind) (by(refine⟨by first|simp_all|(rw[h2];rfl)|(rw[h3];rfl)|(rw[h0];rfl),?_⟩;grind):(Lib.repeatL [(32:UInt8),(32:UInt8)] d++dW u.kind=bif ax (ay u.kind (0:Int))then Lib.repeatL [(32:UInt8),(32:UInt8)] d++dW u.kind++([(32:UInt8)]++u.label)else Lib.repeatL [(32:UInt8),(32:UInt8)] d++dW u.kind)/\(Lib.repeatL [(32:UInt8),(32:UInt8)] d++dW u.kind).length<=40)) fun a hz18=>have hz18:(a=bif ax (ay u.kind (0:Int))then Lib.repeatL [(32:UInt8),(32:UInt8)] d++dW u.kind++([(32:UInt8)]++u.label)else Lib.repeatL [(32:UInt8),(32:UInt8)] d++dW u.kind)/\List.length a<=40:=hz18;Mj aH [2,5] (Oj u a) (Ow u a) (fun b=>Kl 2 26 (ln aQ u.head)<|Kb 0 (aB 0<|Int.ofNat u.head.length) (fun h3=>Kv 0 (fy (s:=a) (u:=[58]) (H:=aa q1) (by(first|first|assumption|((try simp only[lA,lC,lN]);omega)|(simp only[lA,lC,lN]at *;omega)):(a).length+([58]).length<=2^62))<|Kp 1 (hp1 (a++[58])<|by first|assumption|((try simp only[lA,lC,lN]);omega))<|Kf 0<|b (mz (a++[58]) u.head) (by(refine⟨by first|simp_all|(rw[h2];rfl)|(rw[h4];rfl)|(rw[h5];rfl),?_⟩;first|omega|(have q:=vc (fun w hw=>(hh2 w hw).2) (a++[58]);grind)):(mz (a++[(58:UInt8)]) u.head=bif aB (0:Int) (Int.ofNat u.head.length)then mz (a++[(58:UInt8)]) u.head else a)/\List.length (mz (a++[(58:UInt8)]) u.head)<=6700)) fun h3=>Mf<|b a (by(refine⟨by first|simp_all|(rw[h2];rfl)|(rw[h4];rfl)|(rw[h5];rfl),?_⟩;first|omega|(have q:=vc (fun w hw=>(hh2 w hw).2) (a++[58]);simp only[lA,lC,lN]at q;omega)):(a=bif aB (0:Int) (Int.ofNat u.head.length)then mz (a++[(58:UInt8)]) u.head else a)/\List.length a<=6700)) fun b hz27=>have hz27:(b=bif aB (0:Int) (Int.ofNat u.head.length)then mz (a++[(58:UInt8)]) u.head else a)/\List.length b<=6700:=hz27;Kl 2 35 (ln aQ u.words)<|Kb 0 (aB 0<|Int.ofNat u.words.length) (fun h4=>Kv 0 (fy (s:=b) (u:=[32,124]) (H:=aa q1) (by(first|first|assumption|((try simp only[lA,lC,lN]);omega)|(simp only[lA,lC,lN]at *;omega)):(b).length+([32,124]).length<=2^62))<|Kp 1 (hp2 (b++[32,124])<|by first|assumption|((try simp only[lA,lC,lN]);omega))<|Kf 2<|Le.str<|rr0<|mz (b++[32,124]) u.words) fun h4=>Kf 1<|Le.str<|rr0 b
theorem L8(u:TUnit)(d:Nat)(hd:d<=2^20)(h:sx u):kP 305 [eU u,nV d] (.str (gU u d)):=by
  grind[X5,X4]
noncomputable abbrev Il(ep n:Nat):AObj:=.row 1 false 0 [.slice 2 ep 0 n none]
noncomputable abbrev FK:AObj:=.row 1 false 0 [.func (.func 304) [] [.ptr 0 0 0 0,.ptr 1 0 0 0]]
noncomputable abbrev F3(ep:Nat)(l:List aH):AObj:=.row 1 true ep (l.map nw)
def tX(u:TUnit)(d:Nat)(l:List aH)(x0:Nat×List TUnit×Nat×Nat×List aH):Prop:=(u.kids).drop x0.1=x0.2.1/\x0.2.2.2.1=x0.2.2.2.2.length/\x0.2.2.2.2++dV (d+(1:Nat)) x0.2.1=l++[gU u d]++dV (d+(1:Nat)) u.kids/\x0.2.2.2.2.length+eW x0.2.1<=2^20
noncomputable def tZ(u:TUnit)(d:Nat)(l:List aH)(x0:Nat×List TUnit×Nat×Nat×List aH):List AV×List AObj:=([nV d,AV.ptr 1 0 0 0,AV.ls (u.kids.map aY),nV u.kids.length,nV x0.1],[AObj.row 1 false 0 [AV.slice 2 x0.2.2.1 0 x0.2.2.2.1 none],AObj.row 1 false 0 [AV.func (Fn.func 304) [] [AV.ptr 0 0 0 0,AV.ptr 1 0 0 0]],AObj.row 1 true x0.2.2.1 (x0.2.2.2.2.map nw)])
theorem ZM:∀(u:TUnit)(d ep n:Nat)(l:List aH),n=l.length->l.length+nU u<=2^20->d+nU u<=2^20->(∀x,x∈aT u->sx x)->kC 304 [eU u,nV d,.ptr 0 0 0 0,.ptr 1 0 0 0] (aa [Il ep n,FK,F3 ep l])
    (fun v h=>∃y:Nat×Nat×List aH,(y.2.1=y.2.2.length/\y.2.2=l++eY d u)/\v=.tuple []/\h=aa [Il y.1 y.2.1,FK,F3 y.1 y.2.2]):=by
  refine TUnit.ind fun u ih d ep n l hn hl hd ht=>?_
  have hq:=jV u
  have hkl:=bm u
  have hf:=L8 u d (by omega) (ht u (ch u))
  have ihk:∀k,k∈u.kids->∀(d ep n:Nat)(l:List aH),n=l.length->l.length+nU k<=2^20->d+nU k<=2^20->kC 304 [eU k,nV d,.ptr 0 0 0 0,.ptr 1 0 0 0] (aa [Il ep n,FK,F3 ep l])
    (fun v h=>∃y:Nat×Nat×List aH,(y.2.1=y.2.2.length/\y.2.2=l++eY d k)/\v=.tuple []/\h=aa [Il y.1 y.2.1,FK,F3 y.1 y.2.2]):=fun k hk d ep n l a b c=>ih k hk d ep n l a b c (fun x hx=>ht x (bq hk hx))
  exact qk Tryz.func304 fun e=>Kp 3 hf<|Mg 0<|Mw (.apx ((l++[gU u d]).map nw)<|.go 3<|.le 16 (nV u.kids.length)<|.go 0<|.frz 3 [1,3,15,16,17]<|.loop (Nat×List TUnit×Nat×Nat×List aH) [1,3,15,16,17] (tZ u d l) (tX u d l) (fun e=>e.2.1.length) (0,u.kids,(ep+1,n+1,l++[gU u d])) fun e=>.cs TUnit e.2.1 (.go 0<|.ff .fin) fun f _=>.go 0<|.tt<|.elem (eU f)<|.go 6<|.le 24 (nV<|d+1)<|.frz 3 [1,3,15,16,17,21,22,24]<|.eff (Nat×Nat×List aH) (fun _=>cK []) (fun e=>aa [Il e.1 e.2.1,FK,F3 e.1 e.2.2]) (fun g=>g.2.1=g.2.2.length/\g.2.2=e.2.2.2.2++eY (d+1) f) fun _=>.go 0<|.le 26 (nV<|e.1+1)<|.go 0 .fin)<|et9 rt (g0 (tR 1 true ep 4<|aX Kk l) rt) (et (ii _ _:([aj (gU u d)]:List AV)≠[]) rt) (et (cp (aJ ep) (by first|assumption|omega|simp_all|(refine ar (m:=2^31) ?_ ?_ ?_<;>(try simp only[lM,lC,lN])<;>omega):n=(l.map nw).length) (by first|assumption|omega|(simp only[lM];omega)|(refine ar (m:=2^31) ?_ ?_ ?_<;>(try simp only[lM,lC,lN])<;>omega):small (n+([AV.str (gU u d)]).length) 16=true))<|dK (f:=nw) (l:=l) (ws:=[gU u d])) (ln aY u.kids) (js (tR 1 true (ep+1) 3<|aX Kk<|l++[gU u d]) rt rt ti) (aJ<|tZ u d l (0,u.kids,(ep+1,n+1,l++[gU u d]))) (et (rfl:List.drop 0 (u.kids)=u.kids) (by first|rfl|(first|grind|(have h1:=hj0.2.1;have h2:=hj0.2.2;rw[bi]at h2;rw[md]at h1;exact⟨hy1.1,(by rw[hy1.2,<-h1];simp),(by rw[hy1.2,lA,lJ];omega)⟩)):(n+1=(l++[gU u d]).length/\l++[gU u d]++dV (d+1) u.kids=l++[gU u d]++dV (d+1) u.kids/\(l++[gU u d]).length+eW u.kids<=2^20))) fun(f:Nat×List TUnit×Nat×Nat×List aH)(g:(tX u d l) f)=>et (fun(i:f.2.1=[])=>have j:=gH g.1 i;have:=jA (J:=fun e f=>f.2.1=f.2.2.length/\f.2.2++dV (d+1) e=l++[gU u d]++dV (d+1) u.kids/\f.2.2.length+eW e<=2^20) (a:=f.2.2) i g.2;et j<|e (f.2.2.1,f.2.2.2.1,f.2.2.2.2)<|by first|grind[xX,C7]|rfl) fun(e:TUnit)(i:List TUnit)(j:f.2.1=e::i)=>have o:=gI g.1 j;have:=aA o;have p:=(gG (enc:=aY) g.1 j).trans<|congrArg some<|aO e;have:=c8 (J:=fun e f=>f.2.1=f.2.2.length/\f.2.2++dV (d+1) e=l++[gU u d]++dV (d+1) u.kids/\f.2.2.length+eW e<=2^20) (a:=f.2.2) j g.2;have q:=aN g.1 j;have r:f.2.2.2.2.length+nU e<=2^20:=(by grind[bi]);have s:d+1+nU e<=2^20:=(by have:=iC q;omega);yg o p (i7 d) (js (tR 1 true f.2.2.1 3<|aX Kk f.2.2.2.2) rt rt ti) (ihk e q (d+1) f.2.2.1 f.2.2.2.1 f.2.2.2.2 (by first|assumption|omega|(simp only[lM];omega)|(refine ar (m:=2^31) ?_ ?_ ?_<;>(try simp only[lM,lC,lN])<;>omega)) r s) fun(o:Nat×Nat×List aH)(_:o.2.1=o.2.2.length/\o.2.2=f.2.2.2.2++eY (d+1) e)=>et (i7 f.1)<|Nx.mk (I:=tX u d l) (m:=fun e=>e.2.1.length) (S:=tZ u d l) (x:=f) (f.1+1,i,(o.1,o.2.1,o.2.2)) (et (cZ g.1 j) (by first|exact⟨by simp[hn],rfl,by simp;omega⟩|grind[bi,md,lJ]:(o.2.1=o.2.2.length/\o.2.2++dV (d+1) i=l++[gU u d]++dV (d+1) u.kids/\o.2.2.length+eW i<=2^20)))<|gY j
theorem ZN(u:TUnit)(d:Nat)(hl:nU u<=2^19)(hd:d+nU u<=2^20)(ht:∀x,x∈aT u->sx x):kC 304 [eU u,nV d,.ptr 0 0 0 0,.ptr 1 0 0 0] (aa [.row 1 false 0 [.nils],FK])
    (fun v h=>∃y:Nat×Nat×List aH,(y.2.1=y.2.2.length/\y.2.2=eY d u)/\v=.tuple []/\h=aa [Il y.1 y.2.1,FK,F3 y.1 y.2.2]):=by
  have hq:=jV u
  have hkl:=bm u
  have hf:=L8 u d (by omega) (ht u (ch u))
  have ihk:∀k,k∈u.kids->∀(d ep n:Nat)(l:List aH),n=l.length->l.length+nU k<=2^20->d+nU k<=2^20->kC 304 [eU k,nV d,.ptr 0 0 0 0,.ptr 1 0 0 0] (aa [Il ep n,FK,F3 ep l])
    (fun v h=>∃y:Nat×Nat×List aH,(y.2.1=y.2.2.length/\y.2.2=l++eY d k)/\v=.tuple []/\h=aa [Il y.1 y.2.1,FK,F3 y.1 y.2.2]):=fun k hk d ep n l a b c=>ZM k d ep n l a b c (fun x hx=>ht x (bq hk hx))
  exact qk Tryz.func304 fun e=>Kp 3 hf<|Kl 5 16 (ln aY u.kids)<|Mg 0<|M0 (.ren [0,1,3,2] [] [1,3,15,16,17])<|M1 (.frz 3 [1,3,15,16,17]) (js rt rt rt ti)<|Wh aY u.kids (0:Nat) (1:Nat) ([gU u d]:List aH) [1,3,15,16,17] (fun e _ f g i=>([nV d,bX 1 0 0 0,aW<|u.kids.map aY,nV u.kids.length,nV e],[aZ 1 false 0 [aI 2 f 0 g none],aZ 1 false 0 [bj (bx 304) [] [bX 0 0 0 0,bX 1 0 0 0]],aZ 1 true f<|i.map nw])) (fun e _ f g=>f=g.length/\g++dV (d+1) e=[gU u d]++dV (d+1) u.kids/\g.length+eW e<=2^20) (by first|rfl|(first|grind|(have h1:=hj0.2.1;have h2:=hj0.2.2;rw[bi]at h2;rw[md]at h1;exact⟨hy1.1,(by rw[hy1.2,<-h1];simp),(by rw[hy1.2,lA,lJ];omega)⟩))) (fun _ _ f g i _ _ _ j _=>Kh 0 j<|Mf<|e (f,g,i)<|by first|grind[xX,C7]|rfl) fun e _ f g i j m o p q r s _ t _=>have t:=(t).trans<|congrArg some<|aO o;have:=c8 (J:=fun e f=>f.2.1=f.2.2.length/\f.2.2++dV (d+1) e=[gU u d]++dV (d+1) u.kids/\f.2.2.length+eW e<=2^20) (a:=(f,g,i)) r m;have j:=aN j r;have m:i.length+nU o<=2^20:=(by grind[bi]);have r:d+1+nU o<=2^20:=(by have:=iC j;omega);Kt 0 s<|Mx t<|Kl 6 24 (i7 d)<|M1 (.frz 3 [1,3,15,16,17,21,22,24]) (js (tR 1 true f 3<|aX Kk i) rt rt ti)<|Mq (ihk o j (d+1) f g i (by first|assumption|omega) m r) fun f _=>Kl 0 26 (i7 e)<|Kf 0<|q f.1 f.2.1 f.2.2<|by first|exact⟨by simp[hl],rfl,by simp;omega⟩|grind[bi,md,lJ]
theorem X3(u:TUnit)(h:my u)(hv:kT (cR u)=false):kP 269 [eU u] (.ls (([]:List aH).map nw)):=by
  have h1:=D7 u h
  have h2:=yQ (cR u) (sB h)
  exact bp Tryz.func269<|Kp 2 h1<|Mp h2<|Kt 0 (cS hv)<|Kf 0 bD
theorem X1(u:TUnit)(h:my u)(hv:kT (cR u)=true):kP 269 [eU u] (.ls ((eY 0 u).map nw)):=by
  have h1:=D7 u h
  have h2:=yQ (cR u) (sB h)
  have h3:=ZN u 0 h.1 (by have:=h.1;omega) h.2
  have rr0 b' (h:((eY 0 u).map nw)=b':=by first|rfl|(rw[hy0.2])):=h;exact bp Tryz.func269<|Kp 2 h1<|Mp h2<|Kh 0 (cE hv)<|Mg 5<|M0 (.ren [1,2,0] [] [3,10,11])<|M1 (.frz 2 [3,10,11]) (cp rt rt ti)<|Mq h3 fun a hy0=>Mg 1<|M2 (.fsl 0 [] 2<|a.2.2.map nw) ti (cp (aJ a.1) (tA nw a.2.2 a.2.1 (by first|assumption|omega:(a.2.2).length=a.2.1))<|aX Kk a.2.2)<|Ml 2 (eP (a.2.2.map nw) false<|aX Kk a.2.2)<|Mf<|cY<|rr0<|a.2.2.map nw
theorem Z2(u:TUnit)(h:my u)(hv:kT (cR u)=false):kP 234 [eU u] (.tuple [.str (xM u).1,iV (xM u).2]):=by
  have h1:=X3 u h hv
  have e:xM u=([],1):=by unfold xM;simp_all
  rw[e]
  exact bp Tryz.func234<|Kp 3 h1<|Kf 6<|bw<|cK [aj [],iV 1]
theorem Z1(u:TUnit)(h:my u)(hv:kT (cR u)=true):kP 234 [eU u] (.tuple [.str (xM u).1,iV (xM u).2]):=by
  have h1:=X1 u h hv
  have hlen:=lJ 0 u
  have hq:=jV u
  have hm:=h.1
  have hjl:=Rb (sep:=[10]) (B:=2^14) (l:=eY 0 u) (fun s hs=>Aa 0 u s hs)
  rw[hlen]at hjl
  have hj2:(Lib.join (eY 0 u) [10]).length<=140737488355328:=bO hjl (bO (eD _ hm) (by grind))
  have hj3:(Lib.join (eY 0 u) [10]).length<=2^40:=bO hjl (bO (eD _ hm) (by grind))
  have hj:=U5 (eY 0 u) [10] (by omega) hj2
  have hz:ay (.ofNat (eY 0 u).length) 0=false:=by grind[Se]
  have e:xM u=(bif aB 16384 (.ofNat (Lib.join (eY 0 u) [10]++[10]).length)then([],6)else(Lib.join (eY 0 u) [10]++[10],0)):=by unfold xM;simp_all
  rw[e]
  clear e
  generalize Lib.join (eY 0 u) [10]=J at *
  cases hb:aB 16384 (.ofNat (J++[10]).length)
  · have hb2:aB 16384 (.ofNat (J++[10]).length)=false:=hb
    exact bp Tryz.func234<|Kp 3 h1<|Kl 2 9 (ln nw<|eY 0 u)<|Kh 0 hz<|Kp 0 hj<|Mv (fy (s:=J) (u:=[10]) (H:=aa [aZ 8 false 0 [ak (uLx u)]]) (by(first|first|assumption|grind|omega|(simp only[lA,lC,lN]at *;omega)):(J).length+([10]).length<=2^62))<|Kh 3 hb<|Kf 2<|bw<|cK [aj<|J++[10],iV 0]
  · have hb2:aB 16384 (.ofNat (J++[10]).length)=true:=hb
    exact bp Tryz.func234<|Kp 3 h1<|Kl 2 9 (ln nw<|eY 0 u)<|Kh 0 hz<|Kp 0 hj<|Mv (fy (s:=J) (u:=[10]) (H:=aa [aZ 8 false 0 [ak (uLx u)]]) (by(first|first|assumption|grind|omega|(simp only[lA,lC,lN]at *;omega)):(J).length+([10]).length<=2^62))<|Kt 3 hb<|Kf 1<|bw<|cK [aj [],iV 6]
theorem Ya(u:TUnit)(h:my u):kP 234 [eU u] (.tuple [.str (xM u).1,iV (xM u).2]):=by
  grind[Z2,Z1]
def YQ(u:TUnit):Bool:=Ip u&&(ax (ay u.kind 0)&&ay (xM u).2 0)
theorem X9(u:TUnit)(h:my u):kP 170 [eU u] (.bool (YQ u)):=by
  have q1:=Ya u h
  have q2:=Y4 u h
  have rr0 b' (h:(YQ u)=b':=by first|rfl|(unfold YQ;rw[h0];rfl)|(unfold YQ;rw[h0,h1];rfl)|(unfold YQ;rw[h0,h1,h2];rfl)):=h;exact bp Tryz.func170<|Kp 2 q1<|Kp 5 q2<|Kb 0 (Ip u) (fun h0=>Kt 0 h0<|Kt 0 h0<|Ku 0 h0<|Kn 0 (ay u.kind 0) (fun h1=>Kt 0 (cS h1)<|Ku 0 (cS h1)<|Kf 0<|cb<|rr0<|ay (xM u).2 0) fun h1=>Mh (cE h1)<|My (cE h1)<|Ky 0<|rr0 false) fun h0=>Mh h0<|Mh h0<|My h0<|Ky 2<|rr0 false
def rh(x:PItem):Prop:=nr x/\(x.at_.length<2^40/\∀s,s∈x.at_->s.label.length<=2^39)/\(x.to.length<2^40/\∀s,s∈x.to->s.label.length<=2^39)/\(x.old.length<2^40/\∀s,s∈x.old->s.length<=2^39)/\(x.new.length<2^40/\∀s,s∈x.new->s.length<=2^39)/\x.label.length<=2^39/\x.for_.length<=2^39/\x.start.event.length<=2^39/\my x.unit
def Ap(x:PItem):Prop:=(x.kind=0\/x.kind=6->io x.where_=true)/\(x.kind=0->YQ x.unit=true)/\(x.kind=2\/x.kind=3->qm x.old=true/\BT x.nth_=true)/\(x.kind=2\/x.kind=3\/x.kind=4->qm x.new=true)
theorem qi{l:List aH}{n:Int}(h:ql l n=true):qm l=true:=by
  simp_all[ql]
theorem Xx(x:PItem)(hx:rh x)(h0:0<=x.kind)(h6:x.kind<=6):∃b,kP 79 [eI x] (.bool b)/\(b=true->Ap x):=by
  obtain⟨k,a,t,w,n,u,o,ne,l,f,s,ac,im,d,e,bs⟩:=x
  obtain⟨hf,⟨ha,has⟩,⟨ht,hts⟩,⟨ho,hos⟩,⟨hn,hns⟩,hl,hfo,hse,hu⟩:=hx
  have hz:tV bd:=⟨by grind,by grind,by grind,trivial⟩
  have n0:(0:Nat)<2^60:=by omega
  obtain⟨f1,f2,f3,f4,f5,f6,f7⟩:=hf
  have hff:∀k w n,nr ⟨k,a,t,w,n,u,o,ne,l,f,s,ac,im,d,e,bs⟩:=fun _ _ _=>⟨f1,f2,f3,f4,f5,f6,f7⟩
  have h0:0<=k:=h0
  have h6:k<=6:=h6
  have hk:k=0\/k=1\/k=2\/k=3\/k=4\/k=5\/k=6:=by omega
  rcases hk with rfl|rfl|rfl|rfl|rfl|rfl|rfl
  · refine⟨_,o5 ⟨0,a,t,w,n,u,o,ne,l,f,s,ac,im,d,e,bs⟩ (oX ⟨0,a,t,w,n,u,o,ne,l,f,s,ac,im,d,e,bs⟩ 0) 167 168 _ _ rfl rfl (V5 _) (tK _ (hff _ _ _) (xj ⟨0,a,t,w,n,u,o,ne,l,f,s,ac,im,d,e,bs⟩ (oX ⟨0,a,t,w,n,u,o,ne,l,f,s,ac,im,d,e,bs⟩ 0)) ⟨f1,n0,n0,n0,n0,f6,trivial⟩) (UR a t w n u o ne l f s ac im d e bs (YQ u) (X9 u hu)) ha has hfo hse,fun h=>?_⟩
    simp only[bz]at h
    exact⟨fun _=>h.2.2.2.2.1,fun _=>h.2.2.2.2.2,fun q=>(by rcases q with q|q<;>cases q),fun q=>(by rcases q with q|q|q<;>cases q)⟩
  · refine⟨_,o5 ⟨1,a,t,w,n,u,o,ne,l,f,s,ac,im,d,e,bs⟩ (oX ⟨1,a,t,w,n,u,o,ne,l,f,s,ac,im,d,e,bs⟩ 1) 171 172 _ _ rfl rfl (V4 _) (tK _ (hff _ _ _) (xj ⟨1,a,t,w,n,u,o,ne,l,f,s,ac,im,d,e,bs⟩ (oX ⟨1,a,t,w,n,u,o,ne,l,f,s,ac,im,d,e,bs⟩ 1)) ⟨f1,n0,n0,n0,n0,hz,trivial⟩) (UP a t w n u o ne l f s ac im d e bs) ha has hfo hse,fun h=>?_⟩
    exact⟨fun q=>(by rcases q with q|q<;>cases q),fun q=>(by cases q),fun q=>(by rcases q with q|q<;>cases q),fun q=>(by rcases q with q|q|q<;>cases q)⟩
  · refine⟨_,o5 ⟨2,a,t,w,n,u,o,ne,l,f,s,ac,im,d,e,bs⟩ (oX ⟨2,a,t,w,n,u,o,ne,l,f,s,ac,im,d,e,bs⟩ 2) 173 174 _ _ rfl rfl (V3 _) (tK _ (hff _ _ _) (xj ⟨2,a,t,w,n,u,o,ne,l,f,s,ac,im,d,e,bs⟩ (oX ⟨2,a,t,w,n,u,o,ne,l,f,s,ac,im,d,e,bs⟩ 2)) ⟨f1,n0,f3,f4,n0,hz,trivial⟩) (UO a t w n u o ne l f s ac im d e bs ho hn hos hns) ha has hfo hse,fun h=>?_⟩
    simp only[bz]at h
    exact⟨fun q=>(by rcases q with q|q<;>cases q),fun q=>(by cases q),fun _=>⟨qi h.2.2.2.2.1,h.2.2.2.2.2.2⟩,fun _=>qi h.2.2.2.2.2.1⟩
  · refine⟨_,o5 ⟨3,a,t,w,n,u,o,ne,l,f,s,ac,im,d,e,bs⟩ (oX ⟨3,a,t,w,n,u,o,ne,l,f,s,ac,im,d,e,bs⟩ 3) 177 178 _ _ rfl rfl (V2 _) (tK _ (hff _ _ _) (xj ⟨3,a,t,w,n,u,o,ne,l,f,s,ac,im,d,e,bs⟩ (oX ⟨3,a,t,w,n,u,o,ne,l,f,s,ac,im,d,e,bs⟩ 3)) ⟨f1,n0,f3,f4,n0,hz,trivial⟩) (UN a t w n u o ne l f s ac im d e bs ho hn hos hns) ha has hfo hse,fun h=>?_⟩
    simp only[bz]at h
    exact⟨fun q=>(by rcases q with q|q<;>cases q),fun q=>(by cases q),fun _=>⟨qi h.2.2.2.2.1,h.2.2.2.2.2.2.1⟩,fun _=>qi h.2.2.2.2.2.1⟩
  · refine⟨_,o5 ⟨4,a,t,w,n,u,o,ne,l,f,s,ac,im,d,e,bs⟩ (oX ⟨4,a,t,w,n,u,o,ne,l,f,s,ac,im,d,e,bs⟩ 4) 179 180 _ _ rfl rfl (V1 _) (tK _ (hff _ _ _) (xj ⟨4,a,t,w,n,u,o,ne,l,f,s,ac,im,d,e,bs⟩ (oX ⟨4,a,t,w,n,u,o,ne,l,f,s,ac,im,d,e,bs⟩ 4)) ⟨f1,n0,n0,f4,n0,hz,trivial⟩) (UM a t w n u o ne l f s ac im d e bs hn hns) ha has hfo hse,fun h=>?_⟩
    simp only[bz]at h
    exact⟨fun q=>(by rcases q with q|q<;>cases q),fun q=>(by cases q),fun q=>(by rcases q with q|q<;>cases q),fun _=>qi h.2.2.2.2⟩
  · refine⟨_,o5 ⟨5,a,t,w,n,u,o,ne,l,f,s,ac,im,d,e,bs⟩ (oX ⟨5,a,t,w,n,u,o,ne,l,f,s,ac,im,d,e,bs⟩ 5) 181 182 _ _ rfl rfl (V0 _) (tK _ (hff _ _ _) (xj ⟨5,a,t,w,n,u,o,ne,l,f,s,ac,im,d,e,bs⟩ (oX ⟨5,a,t,w,n,u,o,ne,l,f,s,ac,im,d,e,bs⟩ 5)) ⟨f1,n0,n0,n0,n0,hz,trivial⟩) (UL a t w n u o ne l f s ac im d e bs hl) ha has hfo hse,fun h=>?_⟩
    exact⟨fun q=>(by rcases q with q|q<;>cases q),fun q=>(by cases q),fun q=>(by rcases q with q|q<;>cases q),fun q=>(by rcases q with q|q|q<;>cases q)⟩
  · refine⟨_,o5 ⟨6,a,t,w,n,u,o,ne,l,f,s,ac,im,d,e,bs⟩ (oX ⟨6,a,t,w,n,u,o,ne,l,f,s,ac,im,d,e,bs⟩ 6) 184 185 _ _ rfl rfl (VT _) (tK _ (hff _ _ _) (xj ⟨6,a,t,w,n,u,o,ne,l,f,s,ac,im,d,e,bs⟩ (oX ⟨6,a,t,w,n,u,o,ne,l,f,s,ac,im,d,e,bs⟩ 6)) ⟨f1,f2,n0,n0,n0,hz,trivial⟩) (UI a t w n u o ne l f s ac im d e bs ht hts) ha has hfo hse,fun h=>?_⟩
    simp only[bz]at h
    exact⟨fun _=>h.2.2.2.2.1,fun q=>(by cases q),fun q=>(by rcases q with q|q<;>cases q),fun q=>(by rcases q with q|q|q<;>cases q)⟩
theorem wT{u:TUnit}(h:OkB u):∀x,x∈aT u->x.head.length<2^30/\x.words.length<2^30:=fun x hx=>⟨nF (h.w x hx).1 (by omega),nF (h.w x hx).2 (by omega)⟩
theorem Ey(p:PId)(u:TUnit)(hn:nU u<=1024): -1<=qr p u/\qr p u<=2^20:=by
  cases h:jj p u with
  |false=>rw[QE h];omega
  | true=>
    obtain⟨q,i,h1,_,h3,h4,_⟩:=re u h
    have:=dD h1
    grind[bm]
theorem yb(w:Int)(u:TUnit)(p:PId)(hn:nU u<=1024): -1<=(ce w u p).1.at_/\(ce w u p).1.at_<=2^41:=by
  have hb:=Ey p u hn
  have key:∀n:Int,0<=n->n<=1-> -1<=(kr u p n).1.at_/\(kr u p n).1.at_<=2^41:=fun n h0 h1=>by
    unfold kr
    cases jj p u
    · exact⟨by show(-1:Int)<=0;omega,by show(0:Int)<=_;omega⟩
    grind
  unfold ce
  cases ay w 0
  · cases ay w 1
    · grind
    · show -1<=Int.ofNat _/\Int.ofNat _<=2^41
      have:(bG p u).kids.length<=1024:=by
        cases h:be p u with
        | true=>
          have:=dD (fu h).1
          grind[bm]
        |false=>unfold bG;rw[h];exact bA _
      grind
  simp_all
theorem qT{u:TUnit}(hu:OkB u)(p:PId):kP 24 [eU u,aK p] (.tuple [eU (bG p u),.bool (be p u)]):=SY p u (bO hu.n (by omega)) (wT hu)
theorem kz{u:TUnit}(hu:OkB u)(p:PId):kP 164 [eU u,aK p] (.tuple [aK (r9 p u),iV (qr p u),.bool (jj p u)]):=QB p u (bO hu.n (by omega))
theorem uj{u:TUnit}(hu:OkB u)(p:List PStep)(hp:p.length<2^40/\∀s,s∈p->s.label.length<=2^39):kP 75 [eU u,.ls (p.map az)] (.tuple [aK (an u p).1,iV (an u p).2]):=
  On u p (Vo u p (bO hu.n (by omega)) hp.1 hp.2) (bO hu.n (by omega))
theorem MJ{u:TUnit}(hu:OkB u)(p:PId):kP 293 [eU u,aK p] (.tuple [fj (ce 0 u p).1,iV (ce 0 u p).2]):=Rv u _ p _ (qT hu p)
theorem MW{u:TUnit}(hu:OkB u)(p:PId):kP 296 [eU u,aK p] (.tuple [fj (ce 1 u p).1,iV (ce 1 u p).2]):=Rw u _ p _ (qT hu p)
theorem MX{u:TUnit}(hu:OkB u)(p:PId):kP 298 [eU u,aK p] (.tuple [fj (ce 2 u p).1,iV (ce 2 u p).2]):=Rk u p _ _ _ (kz hu p) (by have:=Ey p u hu.n;omega)
theorem MZ{u:TUnit}(hu:OkB u)(p:PId):kP 300 [eU u,aK p] (.tuple [fj (ce 3 u p).1,iV (ce 3 u p).2]):=Rj u p _ _ _ (kz hu p) (by have:=Ey p u hu.n;omega)
theorem wB{w:Int}(h:io w=true):w=0\/w=1\/w=2\/w=3:=by
  unfold io at h
  rw[bz]at h
  have h1:=ge h.1
  have h2:=ge h.2
  omega
theorem Ud{u:TUnit}(hu:OkB u)(p:List PStep)(hp:p.length<2^40/\∀s,s∈p->s.label.length<=2^39)(w:Int)(hw:io w=true):kP 215 [eU u,.ls (p.map az),iV w]
    (.tuple [aK (CE (an u p).2 (ce w u (an u p).1).1 (ce w u (an u p).1).2).1.id,iV (CE (an u p).2 (ce w u (an u p).1).1 (ce w u (an u p).1).2).1.at_,iV (CE (an u p).2 (ce w u (an u p).1).1 (ce w u (an u p).1).2).2]):=by
  rcases wB hw with rfl|rfl|rfl|rfl
  · exact rb 0 _ rfl rfl u p _ _ _ _ (uj hu p hp) (MJ hu _)
  · exact rb 1 _ rfl rfl u p _ _ _ _ (uj hu p hp) (MW hu _)
  · exact rb 2 _ rfl rfl u p _ _ _ _ (uj hu p hp) (MX hu _)
  · exact rb 3 _ rfl rfl u p _ _ _ _ (uj hu p hp) (MZ hu _)
theorem Yj{u:TUnit}(hu:OkB u)(p q:PId)(w:Int)(hw:io w=true):∃bs,kP 217 [eU u,aK p,aK q,iV w]
    (.tuple [fj (np p q (r9 p u) (qr p u) (jj p u) ((mn q u).any (bK p)) bs (ce w u q).1 (ce w u q).2).1,iV (np p q (r9 p u) (qr p u) (jj p u) ((mn q u).any (bK p)) bs (ce w u q).1 (ce w u q).2).2]):=by
  have hb:=Ey p u hu.n
  have hb: -1<=qr p u/\qr p u<=2^40:=by omega
  have hn:nU u<=2^20:=bO hu.n (by omega)
  have hal:(mn q u).length<2^40:=by
    grind[ma,mn]
  have hC:=ym (mn q u) p hal
  rcases wB hw with rfl|rfl|rfl|rfl
  · exact⟨_,Ha 0 _ rfl rfl rfl u p q _ _ _ _ _ _ _ hb (yb 0 u q hu.n) (kz hu p) (IC q u hn) hC (MJ hu q)⟩
  · exact⟨_,Ha 1 _ rfl rfl rfl u p q _ _ _ _ _ _ _ hb (yb 1 u q hu.n) (kz hu p) (IC q u hn) hC (MW hu q)⟩
  · exact⟨_,RR u p q _ _ _ _ _ _ _ hb (yb 2 u q hu.n) (kz hu p) (IC q u hn) hC (MX hu q)⟩
  · exact⟨_,RP u p q _ _ _ _ _ _ _ hb (yb 3 u q hu.n) (kz hu p) (IC q u hn) hC (MZ hu q)⟩
theorem Hp{B:Nat}:∀{l:List TUnit},(∀x,x∈l->(bJ x).length<=B)->(l.flatMap bJ).length<=B*l.length
  |[],_=>bA _
  | x::r,h=>by
    have h1:=h x eR
    have h2:=Hp (l:=r) fun y hy=>h y (eC _ hy)
    rw[CW,lA,lC,Nat.mul_succ];omega
theorem F1{u:TUnit}(h:my u):(nh u).length<=2^29:=by
  rw[Ta]
  have h1:∀x,x∈aT u->(bJ x).length<=600:=fun x hx=>by
    obtain⟨a,b,_⟩:=h.2 x hx
    unfold bJ;rw[lA];omega
  have h2:=Hp h1
  have h3:(aT u).length=nU u:=by rw[kj];unfold cD;rw[lM]
  rw[h3]at h2
  have:=h.1
  omega
theorem Zn{e:Int}{sp:PSpot}{e2:Int}(h:(CE e sp e2).2=0):e=0/\e2=0/\(CE e sp e2).1=sp:=by
  unfold CE at h ⊢
  cases h1:ay e 0 with
  |false=>rw[h1]at h;rw[show e=0 from h]at h1;cases h1
  | true=>
    rw[h1]at h
    cases h2:ay e2 0 with
    |false=>rw[h2]at h;rw[show e2=0 from h]at h2;cases h2
    |true=>exact⟨iQ h1,iQ h2,rfl⟩
theorem VX{u u2:TUnit}{te:Int}{full cf:Bool}:(Od u te full cf u2).1=u\/(full=false/\cf=false/\Od u te full cf u2=(u2,0)):=by
  unfold Od;cases ay te 0<;>cases full<;>cases cf<;>first|exact .inl rfl|exact .inr ⟨rfl,rfl,rfl⟩
noncomputable def ni(u:TUnit)(d:PDeed):List PId:=bif ay d.it.kind 0 then cD (cV d.act d.item d.it.unit 0 0)else bif ay d.it.kind 1 then cD (bG (an u d.it.at_).1 u)else[(an u d.it.at_).1]
noncomputable def nC(u:TUnit)(d:PDeed)(e:Int):List PId:=bif ay e 0 then ni u d else[]
def Bk(u:TUnit)(d:PDeed)(r:oM):Prop:=OkB r.1/\Un (nC u d r.2) u r.1/\Wn (Tl d.act d.item) u r.1
theorem Bk.no{u:TUnit}(hu:OkB u){d:PDeed}{r:oM}(h:r.1=u):Bk u d r:=by unfold Bk;rw[h];exact⟨hu,.refl,.refl⟩
theorem Bk.refl{u:TUnit}(hu:OkB u){d:PDeed}{e:Int}:Bk u d (u,e):=.no hu rfl
theorem TR{u z:TUnit}(h:my u)(hz:z∈aT u){w:PWord}(hw:w∈bJ z):w.text.length<=2^39:=(fK.1 hw).elim ((h.2 z hz).2.2.2.1 w) ((h.2 z hz).2.2.2.2 w)
theorem WM{u:TUnit}(hu:OkB u)(f:TUnit)(d:PDeed)(hd:rh d.it)(hg:Ap d.it)(hk:d.it.kind=0):∃r:oM,kP 107 [eU u,eU f,aU d] (eL r)/\Bk u d r:=by
  have hw:=hg.1 (.inl hk)
  have hD:=So u d.it _ _ _ (by rw[hk];rfl) (Ud hu d.it.at_ hd.2.1 d.it.where_ hw)
  cases he:ay (CE (an u d.it.at_).2 (ce d.it.where_ u (an u d.it.at_).1).1 (ce d.it.where_ u (an u d.it.at_).1).2).2 0 with
  |false=>exact⟨(u,_),VJ u f d _ _ _ he hD,.refl hu⟩
  | true=>
    have e0:=iQ he
    obtain⟨e1,e2,e3⟩:=Zn e0
    obtain⟨n,n1,n2,n3⟩:=G2 hu (nN e1) e2
    rw[e0,e3,n1]at hD
    have ht:=hd.2.2.2.2.2.2.2.2
    have hS:=F8 d.act d.item d.it.unit (bO ht.1 (by decide)) (F1 ht) (fun x hx=>⟨bO (ht.2 x hx).1 (by decide),bO (ht.2 x hx).2.1 (by decide)⟩)
    have hsn:=zz d.act d.item d.it.unit 0 0
    have hsi:=ry d.act d.item d.it.unit 0 0
    have hsw:=La d.act d.item 300 d.it.unit 0 0 (fun x hx=>⟨(ht.2 x hx).1,(ht.2 x hx).2.1⟩)
    have hXw:=fun y hy w hw=>N7 (a:=d.act) (i:=d.item) (n:=0) (m:=0) (fun z hz w hw=>TR ht hz hw) (u:=u) y hy w hw
    have hA:ni u d=cD (cV d.act d.item d.it.unit 0 0):=by unfold ni;rw[hk];rfl
    generalize cV d.act d.item d.it.unit 0 0=X at *
    have hn:=hu.n
    have hm:=ht.1
    have hX:nU X<=2^19:=by omega
    have hkp:(bG (ce d.it.where_ u (an u d.it.at_).1).1.id u).kids.length<2^40:=by
      cases h:be (ce d.it.where_ u (an u d.it.at_).1).1.id u with
      |true=>have:=dD (fu h).1;have:=bm (bG (ce d.it.where_ u (an u d.it.at_).1).1.id u);omega
      |false=>unfold bG;rw[h];exact nF (bA 0) (by decide)
    have hiu:(cD u).length<2^40:=by rw[<-kj];omega
    have hix:(cD X).length<2^40:=by rw[<-kj];omega
    refine⟨_,U8 u f _ X _ d _ n (nU u) (nU X) _ _ _ _ (cD u) (cD X) (by omega) (by omega) hD (qT hu _) hS (zZ _ X hkp) (NX u X _ (by omega) (by omega)) (E6 u (by omega)) (E6 X (by omega)) (Hz u (by omega)) (Hz X (by omega)) (cfX (cD X) (cD u) hiu hix) (PH _ n X u (by omega) (wT hu) n3),?_⟩
    rcases VX (u:=u) (u2:=bL (ce d.it.where_ u (an u d.it.at_).1).1.id (dQ n X) u) (te:=zX (bG (ce d.it.where_ u (an u d.it.at_).1).1.id u) X) (full:=ax (aB (Int.ofNat (bG (ce d.it.where_ u (an u d.it.at_).1).1.id u).kids.length) 64)||(SC u (ce d.it.where_ u (an u d.it.at_).1).1.id X||aB 1024 (Int.ofNat (nU u+nU X)))) (cf:=(cD X).any fun i=>(cD u).any (bK i))with q|⟨q1,q2,q3⟩
    · exact .no hu q
    · rw[q3]
      rw[Cx,Cx]at q1
      have q4:=aF q1.2.2
      simp only[oN]at q4
      refine⟨hu.ins (by rw[hsi];exact Qq _ _ _ _) (fun p hp hq=>?_) (by omega) hsw,(by show Un (ni u d) _ _;rw[hA];exact Xw),XU hXw⟩
      rw[List.any_eq_false]at q2
      have:=q2 p hp
      exact this (qx.2 ⟨p,hq,iG p⟩)
theorem WB{u:TUnit}(hu:OkB u){p:PId}(hp:jj p u=true):∃q i,q∈aT u/\r9 p u=au q/\qr p u=Int.ofNat i/\i<q.kids.length/\au (gD q.kids i)=p/\kP 157 [eU u,aK p] (eU (bL (au q) (dg i) u)):=by
  obtain⟨q,i,h1,h2,h3,h4,h5⟩:=re u hp
  have hP:=kz hu p
  rw[h2,h3,hp]at hP
  exact⟨q,i,h1,h2,h3,h4,h5,yS u _ p _ i hP (PL (au q) i u (bO hu.n (by decide)) (wT hu) fun v hv hid=>by rw[hu.uni hv h1 ((fC _ v).1 hid)];exact h4)⟩
theorem Zf{u x:TUnit}(hu:OkB u)(hx:x∈aT u)(d:PDeed)(hp:jj (au x) u=true)(hA:ni u d=cD x):∃r:oM,kP 108 [eU u,eU x,aU d] (eL r)/\Bk u d r:=by
  obtain⟨q,i,h1,h2,h3,h4,h5,h6⟩:=WB hu hp
  exact⟨_,Ux u x _ d h6,(hu.del h1 h4).1,(by show Un (ni u d) _ _;rw[hA,<-hu.uni (cn h1 (bq (dZ h4) (ch _))) hx h5];exact Xv hu h1 h4),yR⟩
theorem Ez(l:List PWord):(sM l).length<=256:=by
  unfold sM
  cases h:aB 256 (Int.ofNat l.length)with
  |true=>exact bA _
  |false=>have:=aF h;simp only[oN]at this;show l.length<=256;omega
theorem Qg(a b:Int)(w:List PWord)(old new:List aH)(n:Int):(zi a b w old new n).1.length<=256:=by
  unfold zi
  cases ay (Int.ofNat old.length) 0
  · cases ay (Int.ofNat (m7 (sT (bC w) old) n).length) 0
    · exact Ez _
    · exact bA _
  · exact bA _
theorem VQ(a b:Int)(w:List PWord)(part new:List aH)(n:Int):(Ai a b w part new n).1.length<=256:=by
  unfold Ai
  cases(ay (Int.ofNat new.length) 0||(ay (Int.ofNat part.length) 0&&ax (ay n 0)))
  · cases ay (Int.ofNat part.length) 0
    · cases ay (Int.ofNat (m7 (sT (bC w) part) n).length) 0
      · exact Ez _
      · exact bA _
    · exact Ez _
  · exact bA _
theorem uW{l:List aH}(h:qm l=true):l.length<=256:=by
  unfold qm at h
  rw[bz]at h
  have:=ge h.1
  simp only[oN]at this
  omega
theorem LS{n:Int}(h:BT n=true):0<=n/\n<=256:=by
  unfold BT at h
  rw[bz]at h
  exact⟨ge h.1,ge h.2⟩
theorem CN{u:TUnit}(hu:OkB u)(q:PId){l:List PWord}(hl:l.length<=300):OkB (bL q (lx l) u):=hu.keep (fun _=>⟨rfl,rfl⟩) fun v hv=>⟨(hu.w v hv).1,hl⟩
theorem Q4{u:TUnit}(hu:OkB u)(q:PId){l:List PWord}(hl:l.length<=300):OkB (bL q (wW l) u):=hu.keep (fun _=>⟨rfl,rfl⟩) fun v hv=>⟨hl,(hu.w v hv).2⟩
theorem OW{u:TUnit}(hu:OkB u)(q:PId)(s:aH):OkB (bL q (nM s) u):=hu.keep (fun _=>⟨rfl,rfl⟩) fun v hv=>hu.w v hv
theorem LW{u u2:TUnit}{d:PDeed}{e:Int}(h:OkB u)(h2:Bk u d (u2,0)):Bk u d (FE u e u2):=by
  have h:∀e,Bk u d (u,e):=fun _=>.refl h
  unfold FE;cases ay e 0;exact h _;exact h2
theorem Zz{u x:TUnit}(hu:OkB u)(hx:x∈aT u)(d:PDeed)(hd:rh d.it)(hA:ni u d=[au x])(hg:Ap d.it)(hk:d.it.kind=2):∃r:oM,kP 109 [eU u,eU x,aU d] (eL r)/\Bk u d r:=by
  obtain⟨h1,h2⟩:=hg.2.2.1 (.inl hk)
  have h3:=uW h1
  have h4:=uW (hg.2.2.2 (.inl hk))
  obtain⟨h5,h6⟩:=LS h2
  have h7:=(hu.w x hx).2
  have hR:=Uz d.act d.item x.words d.it.old d.it.new d.it.nth_ (by omega) (by omega) (by omega) h5 (by omega) (ky h5)
  exact⟨_,Tu u x _ d _ _ hR (PD (au x) _ u (bO hu.n (by decide)) (wT hu)),LW hu ⟨CN hu _ (bO (Qg ..) (by decide)),(by show Un (ni u d) _ _;rw[hA];exact DT fun _=>⟨rfl,rfl⟩),FG hu hx fun w h=>(Qf h).imp id (Jo hd.2.2.2.2.1.2)⟩⟩
theorem Zl{u x:TUnit}(hu:OkB u)(hx:x∈aT u)(d:PDeed)(hd:rh d.it)(hA:ni u d=[au x])(hg:Ap d.it)(hk:d.it.kind=3):∃r:oM,kP 110 [eU u,eU x,aU d] (eL r)/\Bk u d r:=by
  obtain⟨h1,h2⟩:=hg.2.2.1 (.inr hk)
  have h3:=uW h1
  have h4:=uW (hg.2.2.2 (.inr (.inl hk)))
  obtain⟨h5,h6⟩:=LS h2
  have h7:=(hu.w x hx).2
  have hR:=ZO d.act d.item x.words d.it.old d.it.new d.it.nth_ (by omega) (by omega) (by omega) h5 (by omega)
  exact⟨_,Uy u x _ d _ _ hR (PF (au x) _ u (bO hu.n (by decide)) (wT hu)),LW hu ⟨CN hu _ (bO (VQ ..) (by decide)),(by show Un (ni u d) _ _;rw[hA];exact DT fun _=>⟨rfl,rfl⟩),FG hu hx fun w h=>(U9 h).imp id (Jo hd.2.2.2.2.1.2)⟩⟩
theorem ZT{u x:TUnit}(hu:OkB u)(d:PDeed)(hd:rh d.it)(hA:ni u d=[au x])(hg:Ap d.it)(hk:d.it.kind=4):∃r:oM,kP 111 [eU u,eU x,aU d] (eL r)/\Bk u d r:=by
  have h4:=uW (hg.2.2.2 (.inr (.inr hk)))
  have hM:=yy d.it.new d.act d.item 0 (by omega) (by decide)
  exact⟨_,Va u x _ d _ hM (PI (au x) _ u (bO hu.n (by decide)) (wT hu)),Q4 hu _ (by rw[gJ];omega),(by show Un (ni u d) _ _;rw[hA];exact DT fun _=>⟨rfl,rfl⟩),TC fun w h=>Jo hd.2.2.2.2.1.2 (qG h)⟩
theorem WH{u:TUnit}(hu:OkB u)(p:PId):(bG p u).kids.length<2^40:=by
  have hn:=hu.n
  cases h:be p u with
  |true=>have:=dD (fu h).1;have:=bm (bG p u);omega
  |false=>unfold bG;rw[h];exact nF (bA 0) (by decide)
theorem Zh{u x:TUnit}(hu:OkB u)(d:PDeed)(hA:ni u d=[au x]):∃r:oM,kP 112 [eU u,eU x,aU d] (eL r)/\Bk u d r:=by
  refine⟨_,Uk u x _ _ d _ _ _ _ _ (kz hu (au x)) (qT hu _) (zZ _ _ (WH hu _)) (PE (au x) d u (bO hu.n (by decide)) (wT hu)),?_⟩
  unfold Uw
  cases ay (zX (bG (r9 (au x) u) u) (nM d.it.label x)) 10
  · exact⟨OW hu _ _,(by show Un (ni u d) _ _;rw[hA];exact DT fun _=>⟨rfl,rfl⟩),PC⟩
  · exact .refl hu
theorem UB{u u2:TUnit}{d:PDeed}{te:Int}{full:Bool}(h:OkB u)(h2:Bk u d (u2,0)):Bk u d (RJ u te full u2):=by
  have h:∀e,Bk u d (u,e):=fun _=>.refl h
  unfold RJ;cases ay te 0<;>cases full<;>first|exact h _|exact h2
theorem Z6{e2 e3:Int}{sp:PSpot}(h:(IQ 0 e2 sp e3).2=0):e2=0/\e3=0/\(IQ 0 e2 sp e3).1=sp:=by
  unfold IQ at h ⊢
  rw[show ay 0 0=true from rfl]at h ⊢
  simp only[cond_true]at h ⊢
  cases h1:ay e2 0 with
  |false=>rw[h1]at h;rw[show e2=0 from h]at h1;cases h1
  | true=>
    rw[h1]at h
    cases h2:ay e3 0 with
    |false=>rw[h2]at h;rw[show e3=0 from h]at h2;cases h2
    |true=>exact⟨iQ h1,iQ h2,rfl⟩
theorem ZF{u x:TUnit}(hu:OkB u)(hx:x∈aT u)(d:PDeed)(hd:rh d.it)(hg:Ap d.it)(hk:d.it.kind=6)(h0:(an u d.it.at_).2=0)(hid:(an u d.it.at_).1=au x)(hp:jj (au x) u=true):∃r:oM,kP 113 [eU u,eU x,aU d] (eL r)/\Bk u d r:=by
  have hw:=hg.1 (.inr hk)
  have hF:=uj hu d.it.at_ hd.2.1
  rw[h0,hid]at hF
  obtain⟨bs,hG⟩:=Yj hu (au x) (an u d.it.to).1 d.it.where_ hw
  obtain⟨q,i,h1,h2,h3,h4,h5,h6⟩:=WB hu hp
  have hD:=Sn u d.it _ _ _ _ _ _ (by rw[hk];rfl) (by rw[hk];rfl) hw hF (uj hu d.it.to hd.2.2.1) hG
  rw[h2,h3,hp]at hD
  cases he:ay (IQ 0 (an u d.it.to).2 (np (au x) (an u d.it.to).1 (au q) (Int.ofNat i) true ((mn (an u d.it.to).1 u).any (bK (au x))) bs (ce d.it.where_ u (an u d.it.to).1).1 (ce d.it.where_ u (an u d.it.to).1).2).1 (np (au x) (an u d.it.to).1 (au q) (Int.ofNat i) true ((mn (an u d.it.to).1 u).any (bK (au x))) bs (ce d.it.where_ u (an u d.it.to).1).1 (ce d.it.where_ u (an u d.it.to).1).2).2).2 0 with
  |false=>exact⟨(u,_),UC u x d _ _ _ he hD,.refl hu⟩
  | true=>
    have e0:=iQ he
    obtain⟨e1,e2,e3⟩:=Z6 e0
    obtain⟨n,n1,n2,n3⟩:=RO hu h1 h4 (nN e1) e2
    rw[e0,e3,n1]at hD
    obtain⟨hr,hpm⟩:=hu.del h1 h4
    have hkx:gD q.kids i=x:=hu.uni (cn h1 (bq (dZ h4) (ch _))) hx h5
    rw[hkx]at hpm
    have hnr:=hr.n
    have hnx:=dD hx
    have hn:=hu.n
    refine⟨_,UA u x _ _ _ d _ _ n _ _ _ _ _ hD (kz hu (au x)) h6 (qT hr _) (zZ _ x (WH hr _)) (NX _ x _ (by omega) (by omega)) (PG _ n x _ (by omega) (wT hr) n3),UB hu ?_⟩
    have hnd:=yO.1 (hpm.nodup_iff.1 hu.nd)
    have hlen:=hpm.length_eq
    rw[lA,<-kj,<-kj,<-kj]at hlen
    exact⟨hr.ins hnd.2.1 (fun p hp hq=>hnd.2.2 p hq p hp rfl) (by omega) (fun y hy=>hu.w y (cn hx hy)),(by
      have e2:=e2
      have z:=RN hu h1 h4 (nN e1) (by rw[hkx];exact e2)
      rw[hkx]at z
      have y:=Xk (A:=ni u d) (j:=n) hu h1 h4 z
      rw[hkx]at y
      exact y),XY hx⟩
theorem abo{u x:TUnit}(hu:OkB u)(hx:x∈aT u)(d:PDeed)(hd:rh d.it)(hg:Ap d.it)(hk0:0<=d.it.kind)(hk6:d.it.kind<=6)(h0:(an u d.it.at_).2=0)(hid:(an u d.it.at_).1=au x)(hp:jj (au x) u=true):∃r:oM,kP (W6 d.it.kind) [eU u,eU x,aU d] (eL r)/\Bk u d r:=by
  have hk:d.it.kind=0\/d.it.kind=1\/d.it.kind=2\/d.it.kind=3\/d.it.kind=4\/d.it.kind=5\/d.it.kind=6:=by omega
  rcases hk with h|h|h|h|h|h|h<;>rw[h]
  · exact WM hu x d hd hg h
  · exact Zf hu hx d hp (by unfold ni;rw[h,hid,hu.uni (fu (mY hx)).1 hx (fu (mY hx)).2];rfl)
  · exact Zz hu hx d hd (by unfold ni;rw[h,hid];rfl) hg h
  · exact Zl hu hx d hd (by unfold ni;rw[h,hid];rfl) hg h
  · exact ZT hu d hd (by unfold ni;rw[h,hid];rfl) hg h
  · exact Zh hu d (by unfold ni;rw[h,hid];rfl)
  · exact ZF hu hx d hd hg h h0 hid hp
theorem WW {u:TUnit}(hu:OkB u)(d:PDeed)(hd:rh d.it)(hk0:0<=d.it.kind)(hk6:d.it.kind<=6):∃r:oM,kP 47 [eU u,aU d] (eL r)/\Bk u d r:=by
  obtain⟨b,hV,hg⟩:=Xx d.it hd hk0 hk6
  have hl:=X0 d hk0 hk6
  cases b with
  |false=>exact⟨_,WJ u d _ hl hV,.refl hu⟩
  | true=>
    have hg:=hg rfl
    have hF:=uj hu d.it.at_ hd.2.1
    cases he:ay (an u d.it.at_).2 0 with
    |false=>exact⟨_,WV u d _ _ _ hl hV he hF,.refl hu⟩
    | true=>
      have e0:=iQ he
      have hh:=nN e0
      obtain⟨hx,hxi⟩:=fu hh
      rw[e0]at hF
      have hX:=qT hu (an u d.it.at_).1
      cases hi:(ay (an u d.it.at_).1.a u.act&&(ay (an u d.it.at_).1.i u.item&&ay (an u d.it.at_).1.n u.n))with
      | true=>
        cases hk:ay d.it.kind 0 with
        | true=>
          have hk:=iQ hk
          obtain⟨r,h1,h2⟩:=WM hu (bG (an u d.it.at_).1 u) d hd hg hk
          exact⟨r,TX u _ d _ _ _ r hl hV hF hX hi (by rw[hk];rfl) (by rw[hk];exact h1),h2⟩
        |false=>exact⟨_,WK u _ d _ _ _ _ _ hl hV hF hX hi hk (uj hu d.it.to hd.2.2.1),.refl hu⟩
      | false=>
        have hni:fI (an u d.it.at_).1 u=false:=by
          cases q:fI (an u d.it.at_).1 u with
          |false=>rfl
          | true=>
            have:=(fC _ u).1 q
            rw[<-this]at hi
            have e:(ay (au u).a u.act&&(ay (au u).i u.item&&ay (au u).n u.n))=true:=by
              show(ay u.act u.act&&(ay u.item u.item&&ay u.n u.n))=true
              rw[bQ,bQ,bQ];rfl
            rw[e]at hi;cases hi
        obtain⟨r,h1,h2⟩:=abo hu hx d hd hg hk0 hk6 e0 hxi.symm (by rw[hxi];exact Vc hh hni)
        exact⟨r,WY u _ d _ _ _ r hl hV hF hX hi h1,h2⟩
theorem Tk{k:Int}(h:mX k=true):0<=k/\k<=6:=by
  unfold mX at h;rw[bz]at h;exact⟨ge h.1,ge h.2⟩
structure AppOk(u:TUnit)(d:PDeed):Prop where
  b:OkB u
  i:rh d.it
  a:mX d.it.kind=true
theorem TQ{u:TUnit}{d:PDeed}(h:AppOk u d):∃r:oM,kP 47 [eU u,aU d] (eL r)/\Bk u d r:=WW h.b d h.i (Tk h.a).1 (Tk h.a).2
open Classical in
noncomputable def di(u:TUnit)(d:PDeed):oM:=if h:AppOk u d then(TQ h).choose else(u,0)
theorem yo{u:TUnit}{d:PDeed}(h:AppOk u d):kP 47 [eU u,aU d] (.tuple [eU (di u d).1,iV (di u d).2])/\Bk u d (di u d):=by
  unfold di;rw[dif_pos h];exact(TQ h).choose_spec
theorem ll{u:TUnit}{d:PDeed}(h:AppOk u d):kP 47 [eU u,aU d] (.tuple [eU (di u d).1,iV (di u d).2])/\OkB (di u d).1:=⟨(yo h).1,(yo h).2.1⟩
theorem Bh(u:TUnit)(d:PDeed)(h1:OkB u)(h2:rh d.it)(h3:mX d.it.kind=true):kP 47 [eU u,aU d] (.tuple [eU (di u d).1,iV (di u d).2]):=(ll ⟨h1,h2,h3⟩).1
noncomputable def jM(u:TUnit)(d:PDeed):TUnit:=bif mX d.it.kind then(di u d).1 else u
noncomputable def ud(u:TUnit)(d:PDeed):List PFail:=bif mX d.it.kind then(bif ay (di u d).2 0 then[]else[⟨d.act,d.item,(di u d).2⟩])else[]
theorem QY{u:TUnit}{d:PDeed}(h1:OkB u)(h2:rh d.it):OkB (jM u d):=by
  unfold jM
  cases h:mX d.it.kind with
  |false=>exact h1
  |true=>exact(ll ⟨h1,h2,h⟩).2
theorem Y9{u:TUnit}{d:PDeed}(h1:OkB u)(h2:rh d.it)(h3:mX d.it.kind=true):Un (nC u d (di u d).2) u (di u d).1:=(yo ⟨h1,h2,h3⟩).2.2.1
theorem Y8{u:TUnit}{d:PDeed}(h1:OkB u)(h2:rh d.it)(h3:mX d.it.kind=true):Wn (Tl d.act d.item) u (di u d).1:=(yo ⟨h1,h2,h3⟩).2.2.2
noncomputable def bR:TUnit->List PDeed->TUnit
  |u,[]=>u
  |u,d::r=>bR (jM u d) r
noncomputable def eJ:TUnit->List PDeed->List PFail
  |_,[]=>[]
  |u,d::r=>ud u d++eJ (jM u d) r
theorem Ba:∀{l:List PDeed}{u:TUnit},OkB u->(∀d,d∈l->rh d.it)->OkB (bR u l)
  |[],_,h,_=>h
  |d::r,u,h,hl=>Ba (l:=r) (u:=jM u d) (QY h (hl d (eR ..))) fun x hx=>hl x (eC _ hx)
theorem wY:∀(l:List PDeed)(u:TUnit),(eJ u l).length<=l.length
  |[],_=>af _
  | d::r,u=>by
    have:=wY r (jM u d)
    have h:(ud u d).length<=1:=by
      unfold ud
      cases mX d.it.kind<;>cases ay (di u d).2 0<;>simp
    rw[eJ,lA,lC];omega
theorem Za{u:TUnit}{d:PDeed}{r:List PDeed}(h:mX d.it.kind=false):bR u (d::r)=bR u r/\eJ u (d::r)=eJ u r:=by
  rw[bR,eJ,jM,ud,h];exact⟨rfl,rfl⟩
theorem T3{u:TUnit}{d:PDeed}{r:List PDeed}(h:mX d.it.kind=true)(h2:ay (di u d).2 0=true):bR u (d::r)=bR (di u d).1 r/\eJ u (d::r)=eJ (di u d).1 r:=by
  rw[bR,eJ,jM,ud,h,h2];exact⟨rfl,rfl⟩
theorem T2{u:TUnit}{d:PDeed}{r:List PDeed}(h:mX d.it.kind=true)(h2:ay (di u d).2 0=false):bR u (d::r)=bR (di u d).1 r/\eJ u (d::r)=⟨d.act,d.item,(di u d).2⟩::eJ (di u d).1 r:=by
  rw[bR,eJ,jM,ud,h,h2];exact⟨rfl,rfl⟩
mutual
theorem Lh:∀(u:TUnit)(deep most:Int),mN u deep most<=most->Int.ofNat (nU u)<=mN u deep most
  | ⟨_,_,_,_,_,_,_,kids⟩,deep,most,h=>by
    rw[mN]at h ⊢
    cases hd:aB 20 deep with
    |true=>rw[hd]at h;simp only at h;omega
    | false=>
      rw[hd]at h
      have:=Li kids deep most 1 h
      rw[nU]
      simp only[oN]at *
      omega
theorem Li:∀(l:List TUnit)(deep most n:Int),mO l deep most n<=most->n+Int.ofNat (eW l)<=mO l deep most n
  |[],_,_,n,_=>by rw[mO,eW];exact Int.le_of_eq (Int.add_zero n)
  | k::r,deep,most,n,h=>by
    rw[mO]at h ⊢
    cases hd:aB most n with
    |true=>rw[hd]at h;have:=aA hd;simp only at h;omega
    | false=>
      rw[hd]at h
      have h2:=Li r deep most _ h
      have h1:=Lh k (deep+1) (most-n) (by simp only[oN]at *;omega)
      rw[eW]
      simp only[oN]at *
      omega
end
theorem GY{l:List PWord}(h:mP l=true):l.length<=300/\∀w,w∈l->w.text.length<=100:=by
  unfold mP at h
  obtain⟨h1,h2⟩:=oK.1 h
  refine⟨by have:=ge h2;simp only[oN]at this;omega,fun w hw=>?_⟩
  have:=ge (mw.1 h1 w hw)
  simp only[oN]at this;omega
theorem I5:∀(u:TUnit),kS u=true->∀x,x∈aT u->sx x:=by
  refine TUnit.ind fun u ih h x hx=>?_
  rw[Cb]at h
  simp only[bz]at h
  obtain⟨⟨⟨h0,h1⟩,h2⟩,h3⟩:=h
  rw[cq]at hx
  rcases dO.1 hx with rfl|hx
  · have h0:=ge h0
    simp only[oN]at h0
    have q1:=GY h1
    have q2:=GY h2
    exact⟨q1.1,q2.1,by omega,fun w hw=>bO (q1.2 w hw) (by decide),fun w hw=>bO (q2.2 w hw) (by decide)⟩
  · obtain⟨k,hk,hx⟩:=jQ hx
    exact ih k hk (mw.1 h3 k hk) x hx
theorem Yh{u:TUnit}{n:Nat}(h:HF u (.ofNat n)=true):nU u<=n/\∀x,x∈aT u->sx x:=by
  unfold HF at h
  obtain⟨h1,h2⟩:=oK.1 h
  refine⟨?_,I5 u h2⟩
  have h3:=ge h1
  have:=Lh u 0 (.ofNat n) h3
  simp only[oN]at *
  omega
theorem Q3{x:PItem}(hf:nr x)(h:nK x=true):rh x:=by
  rw[EI]at h
  unfold ye at h
  simp only[bz]at h
  obtain⟨⟨⟨⟨⟨⟨⟨⟨⟨⟨a1,a2⟩,a3⟩,a4⟩,a5⟩,a6⟩,a7⟩,a8⟩,a9⟩,a10⟩,b1,b2,b3,b4,b5⟩:=h
  have a1:=ge a1
  have a2:=ge a2
  have a3:=ge a3
  have a4:=ge a4
  have a5:=ge a5
  have a6:=ge a6
  have a7:=ge a7
  simp only[oN]at a1 a2 a3 a4 a5 a6 a7
  have hs:∀{l:List aH},l.all xI=true->∀s,s∈l->s.length<=2^39:=fun h s hs=>by
    have:=ge (mw.1 h s hs);simp only[oN]at this;omega
  have ht:∀{l:List PStep},l.all xH=true->∀s,s∈l->s.label.length<=2^39:=fun h s hs=>by
    have:=ge (mw.1 h s hs);simp only[oN]at this;omega
  have hu:=Yh (n:=30) a10
  exact⟨hf,⟨by omega,ht b3⟩,⟨by omega,ht b4⟩,⟨by omega,hs b1⟩,⟨by omega,hs b2⟩,by omega,by omega,by omega,bO hu.1 (by decide),hu.2⟩
theorem J9{u v:TUnit}{l r:List PDeed}{xs:List PFail}(h:eJ u l=xs++eJ v r):xs.length<=l.length:=by
  grind[wY]
theorem TV(u:TUnit)(l:List PDeed)(hu:OkB u)(hl:l.length<2^30)(ho:∀d,d∈l->rh d.it):kP 70 [eU u,.ls (l.map aU)] (.tuple [eU (bR u l),.ls ((eJ u l).map dE)]):=by
  have rr0 b' (h:((bR u l).act)=b':=by first|(rw[hj0.2.1];rfl)|(rw[hj0.2.2];rfl)|(rw[hj0.2.2.1];rfl)|(rw[hj0.2.2.2];simp only[eJ,ef])|exact aX gz _):=h;have rr1 b' (h:((bR u l).item)=b':=by first|(rw[hj0.2.1];rfl)|(rw[hj0.2.2];rfl)|(rw[hj0.2.2.1];rfl)|(rw[hj0.2.2.2];simp only[eJ,ef])|exact aX gz _):=h;have rr2 b' (h:((bR u l).n)=b':=by first|(rw[hj0.2.1];rfl)|(rw[hj0.2.2];rfl)|(rw[hj0.2.2.1];rfl)|(rw[hj0.2.2.2];simp only[eJ,ef])|exact aX gz _):=h;have rr3 b' (h:((bR u l).kind)=b':=by first|(rw[hj0.2.1];rfl)|(rw[hj0.2.2];rfl)|(rw[hj0.2.2.1];rfl)|(rw[hj0.2.2.2];simp only[eJ,ef])|exact aX gz _):=h;have rr4 b' (h:((bR u l).label)=b':=by first|(rw[hj0.2.1];rfl)|(rw[hj0.2.2];rfl)|(rw[hj0.2.2.1];rfl)|(rw[hj0.2.2.2];simp only[eJ,ef])|exact aX gz _):=h;have rr5 b' (h:(List.map aQ (bR u l).head)=b':=by first|(rw[hj0.2.1];rfl)|(rw[hj0.2.2];rfl)|(rw[hj0.2.2.1];rfl)|(rw[hj0.2.2.2];simp only[eJ,ef])|exact aX gz _):=h;have rr6 b' (h:(List.map aQ (bR u l).words)=b':=by first|(rw[hj0.2.1];rfl)|(rw[hj0.2.2];rfl)|(rw[hj0.2.2.1];rfl)|(rw[hj0.2.2.2];simp only[eJ,ef])|exact aX gz _):=h;have rr7 b' (h:(List.map aY (bR u l).kids)=b':=by first|(rw[hj0.2.1];rfl)|(rw[hj0.2.2];rfl)|(rw[hj0.2.2.1];rfl)|(rw[hj0.2.2.2];simp only[eJ,ef])|exact aX gz _):=h;have rr8 b' (h:((eJ u l).map dE)=b':=by first|(rw[hj0.2.1];rfl)|(rw[hj0.2.2];rfl)|(rw[hj0.2.2.1];rfl)|(rw[hj0.2.2.2];simp only[eJ,ef])|exact aX gz _):=h;exact bp Tryz.func70<|Kl 2 5 bD<|Kl 2 12 (ln aU l)<|Mg 0<|XJ TUnit Nat Nat (List PFail) aU l u [2,4,6,11,12,13] (fun a _ b=>([bX 0 0 0 0,bX 1 0 0 0,ab,aW<|l.map aU,nV l.length,nV a],[aZ 8 false 0 [ak (uLx b)],aZ 8 false 0 [ak [iV 0,iV 0,iV 0,iV 0,aj [],ab,ab,ab]]])) (fun a _ b c e f=>([bX 0 0 0 0,bX 1 0 0 0,aI 2 c 0 e none,aW<|l.map aU,nV l.length,nV a],[aZ 8 false 0 [ak (uLx b)],aZ 8 false 0 [ak [iV 0,iV 0,iV 0,iV 0,aj [],ab,ab,ab]],aZ 3 true c<|f.map dE])) (fun a b=>OkB b/\bR u l=bR b a/\eJ u l=eJ b a) (fun a b _ c e=>OkB b/\c=e.length/\bR u l=bR b a/\eJ u l=e++eJ b a) sA (fun _ _ a _ _ _ b hj0=>Kh 0 b<|Kl 3 5 bD<|Mf<|cL<|.cons (aP (.cons (li<|rr0 a.act)<|.cons (li<|rr1 a.item)<|.cons (li<|rr2 a.n)<|.cons (li<|rr3 a.kind)<|.cons (Le.str<|rr4 a.label)<|.cons (cY<|rr5<|a.head.map aQ)<|.cons (cY<|rr6<|a.words.map aQ)<|.cons (cY<|rr7<|a.kids.map aY) .nil)<|by kernel_rfl)<|.cons (cY<|rr8 []) .nil) (fun a _ b c _ e f g i j k _ n hj0=>have c:=ho _<|aN c j;Kt 0 k<|Mx n<|Kp 5 (KS e.it.kind)<|Kn 0 (mX e.it.kind) (fun _=>Kl 0 40 (dt a)<|K1 0 (.frz 2 [2,4,6,11,12,13]) (cp rt rt ti)<|Mf<|g b<|by grind[Za]) fun j=>Kp 1 (Bh b e sA c j)<|Kc 7 (di b e).2 0 (fun _ _=>Kl 12 40 (dt a)<|Mg 0<|M0 (.ren [0,1,4,2,3] [] [2,4,6,11,12,13])<|M1 (.frz 3 [2,4,6,11,12,13]) (js rt rt rt ti)<|Mf<|i (di b e).1 0 1 [PFail.mk e.act e.item (di b e).2]<|by exact⟨(ll ⟨hj0.1,c,by omega⟩).2,rfl,hj0.2.1.trans (T2 (by omega) (by omega)).1,hj0.2.2.trans (T2 (by omega) (by omega)).2⟩) fun _ _=>Kl 2 40 (dt a)<|K1 0 (.frz 2 [2,4,6,11,12,13]) (cp rt rt ti)<|Mf<|g (di b e).1<|by exact⟨(ll ⟨hj0.1,c,by omega⟩).2,hj0.2.1.trans (T3 (by omega) (by omega)).1,hj0.2.2.trans (T3 (by omega) (by omega)).2⟩) (fun _ _ a b c e _ _ _ f hj0=>Kh 0 f<|Mg 3<|M2 (.fsl 2 [4] 5<|e.map dE) (cp rt rt ti) (cp (aJ b) (tA dE e c (oA:(e).length=c))<|aX gz e)<|Ml 5 (eP (e.map dE) false<|aX gz e)<|Mf<|cL<|.cons (aP (.cons (li<|rr0 a.act)<|.cons (li<|rr1 a.item)<|.cons (li<|rr2 a.n)<|.cons (li<|rr3 a.kind)<|.cons (Le.str<|rr4 a.label)<|.cons (cY<|rr5<|a.head.map aQ)<|.cons (cY<|rr6<|a.words.map aQ)<|.cons (cY<|rr7<|a.kids.map aY) .nil)<|by kernel_rfl)<|.cons (cY<|rr8<|e.map dE) .nil) fun a _ b c e f g _ i j _ k n o _ p hj0=>have g:=ho _<|aN g n;Kt 0 o<|Mx p<|Kp 5 (KS i.it.kind)<|Kn 0 (mX i.it.kind) (fun _=>Kl 0 40 (dt a)<|K1 0 (.frz 3 [2,4,6,11,12,13]) (js (tR 3 true c 3<|aX gz f) rt rt ti)<|Mf<|k b c e f<|by grind[Za]) fun n=>Kp 1 (Bh b i sA g n)<|Kc 7 (di b i).2 0 (fun _ _=>K1 7 .app (cp (aJ c) (sA:e=(f.map dE).length) (by(have z:=J9 hj0.2.2.2;have z2:=hj0.2.1;refine ar (m:=2^31) ?_ ?_ ?_<;>omega):small (e+1) 24=true))<|M1 (.obj 2<|aZ 3 true (c+1)<|(f++[PFail.mk i.act i.item (di b i).2]).map dE) (congrArg (aZ 3 true<|c+1)<|dK (f:=dE) (l:=f) (ws:=[PFail.mk i.act i.item (di b i).2]))<|Kl 3 40 (dt a)<|K1 0 (.frz 3 [2,4,6,11,12,13]) (js (tR 3 true (c+1) 3<|aX gz<|f++[PFail.mk i.act i.item (di b i).2]) rt rt ti)<|Mf<|k (di b i).1 (c+1) (e+1) (f++[PFail.mk i.act i.item (di b i).2])<|by exact⟨(ll ⟨hj0.1,g,by omega⟩).2,by simp_all,hj0.2.2.1.trans (T2 (by omega) (by omega)).1,hj0.2.2.2.trans (by grind[T2])⟩) fun _ _=>Kl 2 40 (dt a)<|K1 0 (.frz 3 [2,4,6,11,12,13]) (js (tR 3 true c 3<|aX gz f) rt rt ti)<|Mf<|k (di b i).1 c e f<|by exact⟨(ll ⟨hj0.1,g,by omega⟩).2,hj0.2.1,hj0.2.2.1.trans (T3 (by omega) (by omega)).1,hj0.2.2.2.trans (by grind[T3])⟩
end Go.Proofs.YtadodlkibeofjaaGreatDoor
