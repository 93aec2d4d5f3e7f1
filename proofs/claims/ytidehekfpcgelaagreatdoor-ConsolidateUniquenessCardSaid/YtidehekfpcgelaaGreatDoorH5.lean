/- Functions walked: what each of them answers, for the law of uniqueness: part 5. Conditions: those that each theorem names. -/
import Derived.Test.YtidehekfpcgelaaGreatDoorH4
namespace Go.Proofs.YtidehekfpcgelaaGreatDoor
open Go Go.Ev
noncomputable abbrev Cj(l:List PWord):AObj:=.row 4 true 0 (l.map aQ)
noncomputable def FO:TypeInfo:=(Tryz.prog.info? 90).getD default
theorem FN:Tryz.prog.info? 90=some FO:=by kernel_rfl
theorem yO:FO.size=4:=by kernel_rfl
theorem wI:FO.bytes=40:=by kernel_rfl
theorem W0(l:List PWord):dF 4 (l.map aQ)=true:=fT (fun w=>by cases w;rfl) l
/-- A copy of words: a row of its own. -/
theorem cl4(ws:List PWord)(hl:ws.length≤2^20)(a b c d:AObj):kD 183 [.ls (ws.map aQ)] (aa [a,b,c,d]) (.sl0 4 0 ws.length none) (aa [a,b,c,d,Cj ws]):=by
  by_cases hne:ws=[]
  · subst hne
    have hE:(aa [a,b,c,d]).push (Cj [])=aa [a,b,c,d,Cj []]:=by kernel_rfl
    have h:=aI.psh (o:=Cj []) (u:=.sl0 4 0 0 none) (sW [] (by omega) (aa [a,b,c,d])) Fa
    simp_all
  have hn:ws.map aQ≠[]:=fun h=>hne (List.map_eq_nil_iff.1 h)
  have hf:=W0 ws
  have hsm:small (ws.map aQ).length 40=true:=by grind[au]
  have hlen:ws.length=(ws.map aQ).length:=(cK ..).symm
  unfold Cj
  rw[hlen]
  generalize ws.map aQ=L at hn hf hsm
  refine(aI.less (Ψ:=fun v h=>v=.slice 4 0 0 L.length none∧h=aa [a,b,c,d,.row 4 true 0 L]) ?_ fun v h ⟨h1,h2⟩=>⟨_,h1▸Le.sl0,rfl,h2⟩)
  refine aI.enter 2 (fn:=Tryz.f183) Tryz.func183 (by kernel_rfl) rfl ⟨by kernel_rfl,by kernel_rfl⟩ ?_
  refine ap.seq (ap.mono (EE qU jY (ev 40) (s':=⟨ee 8 [(0,.ls L),(2,.nils)],aa [a,b,c,d]⟩) (.go 0 .fin) (by kernel_rfl)) ?_)
  rintro _ _ ⟨rfl,rfl⟩
  refine ap.seq (ap.seq (ap.mono (ya jY (ev 40) (Ψ:=fun s=>s=⟨ee 8 [(0,.ls L),(2,.nils),(3,.ps L false),(4,.bool false)],aa [a,b,c,d]⟩) (.go 0 (.nz 3 .abs (.go 0 .fin)))
    (W:=(L=[]→False)∧(⟨ee 8 [(0,.ls L),(2,.nils),(3,.ps L false),(4,.bool false)],aa [a,b,c,d]⟩:St)=⟨ee 8 [(0,.ls L),(2,.nils),(3,.ps L false),(4,.bool false)],aa [a,b,c,d]⟩) ⟨hn,rfl⟩ (by kernel_rfl)) ?_))
  rintro _ _ ⟨rfl,rfl⟩
  refine ap.cond (t:=false) (by kernel_rfl) (fun h=>by grind) fun _=>ap.skip ?_
  refine ap.seq (ap.region ?_)
  show ce _ _ _ _ [_,_,_,_] _ _
  refine ce.one (s':=⟨ee 8 [(0,.ls L),(2,.nils),(3,.ps L false),(4,.bool false),(5,.ps [] true)],aa [a,b,c,d]⟩) (ev 40) (by kernel_rfl) ?_
  refine ce.one (s':=⟨ee 8 [(0,.ls L),(2,.nils),(3,.ps L false),(4,.bool false),(5,.ps [] true),(6,.ls L)],aa [a,b,c,d]⟩) (ev 40) (by kernel_rfl) ?_
  refine sk (I:=fun k:Nat=>k=0) (r:=fun _=>.slice 4 0 0 L.length none) (H:=fun _=>aa [a,b,c,d,.row 4 true 0 L]) (by kernel_rfl)
    (fun pl M a w g1 g2 g3=>xD (z:=aQ ⟨[],0,0,0⟩) (z0:=aQ ⟨[],0,0,0⟩) (xs:=L) (t:=28) (tx:=28) (e:=90) (i:=FO) yO wI (by kernel_rfl) ⟨90,by kernel_rfl⟩ FN (by kernel_rfl) (Le.refl _) (by kernel_rfl) (by kernel_rfl) hn hf (by kernel_rfl) hsm (by omega) pl M a w g1 g2 g3) fun k _=>?_
  refine⟨ee 8 [(0,.ls L),(2,.nils),(3,.ps L false),(4,.bool false),(5,.ps [] true),(6,.ls L),(7,.slice 4 0 0 L.length none)],by kernel_rfl,?_⟩
  refine ce.one (s':=⟨ee 8 [(0,.ls L),(2,.slice 4 0 0 L.length none),(3,.ps L false),(4,.bool false),(5,.ps [] true),(6,.ls L),(7,.slice 4 0 0 L.length none)],aa [a,b,c,d,.row 4 true 0 L]⟩) (ev 40) (by kernel_rfl) (ce.nil (ap.ret ⟨fun id h=>(by grind),.slice 4 0 0 L.length none,by kernel_rfl,by kernel_rfl,by kernel_rfl⟩))
theorem cl5(ws:List PWord)(hl:ws.length≤2^20)(a b c d e:AObj):kD 183 [.ls (ws.map aQ)] (aa [a,b,c,d,e]) (.sl0 5 0 ws.length none) (aa [a,b,c,d,e,Cj ws]):=by
  by_cases hne:ws=[]
  · subst hne
    have hE:(aa [a,b,c,d,e]).push (Cj [])=aa [a,b,c,d,e,Cj []]:=by kernel_rfl
    have h:=aI.psh (o:=Cj []) (u:=.sl0 5 0 0 none) (sW [] (by omega) (aa [a,b,c,d,e])) Fa
    simp_all
  have hn:ws.map aQ≠[]:=fun h=>hne (List.map_eq_nil_iff.1 h)
  have hf:=W0 ws
  have hsm:small (ws.map aQ).length 40=true:=by grind[au]
  have hlen:ws.length=(ws.map aQ).length:=(cK ..).symm
  unfold Cj
  rw[hlen]
  generalize ws.map aQ=L at hn hf hsm
  refine(aI.less (Ψ:=fun v h=>v=.slice 5 0 0 L.length none∧h=aa [a,b,c,d,e,.row 4 true 0 L]) ?_ fun v h ⟨h1,h2⟩=>⟨_,h1▸Le.sl0,rfl,h2⟩)
  refine aI.enter 2 (fn:=Tryz.f183) Tryz.func183 (by kernel_rfl) rfl ⟨by kernel_rfl,by kernel_rfl⟩ ?_
  refine ap.seq (ap.mono (EE qU jY (ev 40) (s':=⟨ee 8 [(0,.ls L),(2,.nils)],aa [a,b,c,d,e]⟩) (.go 0 .fin) (by kernel_rfl)) ?_)
  rintro _ _ ⟨rfl,rfl⟩
  refine ap.seq (ap.seq (ap.mono (ya jY (ev 40) (Ψ:=fun s=>s=⟨ee 8 [(0,.ls L),(2,.nils),(3,.ps L false),(4,.bool false)],aa [a,b,c,d,e]⟩) (.go 0 (.nz 3 .abs (.go 0 .fin)))
    (W:=(L=[]→False)∧(⟨ee 8 [(0,.ls L),(2,.nils),(3,.ps L false),(4,.bool false)],aa [a,b,c,d,e]⟩:St)=⟨ee 8 [(0,.ls L),(2,.nils),(3,.ps L false),(4,.bool false)],aa [a,b,c,d,e]⟩) ⟨hn,rfl⟩ (by kernel_rfl)) ?_))
  rintro _ _ ⟨rfl,rfl⟩
  refine ap.cond (t:=false) (by kernel_rfl) (fun h=>by grind) fun _=>ap.skip ?_
  refine ap.seq (ap.region ?_)
  show ce _ _ _ _ [_,_,_,_] _ _
  refine ce.one (s':=⟨ee 8 [(0,.ls L),(2,.nils),(3,.ps L false),(4,.bool false),(5,.ps [] true)],aa [a,b,c,d,e]⟩) (ev 40) (by kernel_rfl) ?_
  refine ce.one (s':=⟨ee 8 [(0,.ls L),(2,.nils),(3,.ps L false),(4,.bool false),(5,.ps [] true),(6,.ls L)],aa [a,b,c,d,e]⟩) (ev 40) (by kernel_rfl) ?_
  refine sk (I:=fun k:Nat=>k=0) (r:=fun _=>.slice 5 0 0 L.length none) (H:=fun _=>aa [a,b,c,d,e,.row 4 true 0 L]) (by kernel_rfl)
    (fun pl M a w g1 g2 g3=>xD (z:=aQ ⟨[],0,0,0⟩) (z0:=aQ ⟨[],0,0,0⟩) (xs:=L) (t:=28) (tx:=28) (e:=90) (i:=FO) yO wI (by kernel_rfl) ⟨90,by kernel_rfl⟩ FN (by kernel_rfl) (Le.refl _) (by kernel_rfl) (by kernel_rfl) hn hf (by kernel_rfl) hsm (by omega) pl M a w g1 g2 g3) fun k _=>?_
  refine⟨ee 8 [(0,.ls L),(2,.nils),(3,.ps L false),(4,.bool false),(5,.ps [] true),(6,.ls L),(7,.slice 5 0 0 L.length none)],by kernel_rfl,?_⟩
  refine ce.one (s':=⟨ee 8 [(0,.ls L),(2,.slice 5 0 0 L.length none),(3,.ps L false),(4,.bool false),(5,.ps [] true),(6,.ls L),(7,.slice 5 0 0 L.length none)],aa [a,b,c,d,e,.row 4 true 0 L]⟩) (ev 40) (by kernel_rfl) (ce.nil (ap.ret ⟨fun id h=>(by grind),.slice 5 0 0 L.length none,by kernel_rfl,by kernel_rfl,by kernel_rfl⟩))
noncomputable abbrev EK(u:TUnit)(k:AV):AV:=.agg [iV u.act,iV u.item,iV u.n,iV u.kind,.str u.label,.sl0 3 0 u.head.length none,.sl0 4 0 u.words.length none,k]
noncomputable abbrev Wj(u:TUnit)(i j:Nat)(k:AV):AObj:=.row 8 false 0 [.agg [iV u.act,iV u.item,iV u.n,iV u.kind,.str u.label,.sl0 i 0 u.head.length none,.sl0 j 0 u.words.length none,k]]
theorem aal(u:TUnit)(hk:0<u.kids.length)(hn:nU u≤2^20)(ht:∀x,x∈bW u→x.head.length≤2^20∧x.words.length≤2^20):kC 87 [eU u] (aa [wM u,wF])
    (fun v h=>∃y:Nat×Nat×List TUnit,(y.2.1=u.kids.length∧y.2.2=u.kids)∧v=EK u (.slice 5 y.1 0 y.2.1 none)∧h=aa [wM u,wF,Wj u 3 4 (.slice 5 y.1 0 y.2.1 none),Cj u.head,Cj u.words,.row 8 true y.1 (y.2.2.map aY)]):=by
  have hkl:=bz u
  have c1:=(ht u (bq u)).1
  have c2:=(ht u (bq u)).2
  have ihk:∀k,k∈u.kids→kP 87 [eU k] (eU k):=fun k hk=>H8 k (bL (mj (gI hk)) hn) (fun x hx=>⟨qQ (ht x (bX hk hx)).1 (by omega),qQ (ht x (bX hk hx)).2 (by omega)⟩)
  let q1:=[aw [iV u.act,iV u.item,iV u.n,iV u.kind,aj u.label,aW (u.head.map aQ),aW (u.words.map aQ),aW (u.kids.map aY)]];let q2:=[aw [iV 0,iV 0,iV 0,iV 0,aj [],ab,ab,ab]];let q3:=aZ 8 false 0 q2;let q4:=aZ 8 false 0 q1;let q5:=List.map aQ u.head;let q6:=aZ 4 true 0 q5;exact qB Tryz.func87 fun a=>Mg 3<|M3 (.efx true (AV.sl0 4 0 u.head.length none)<|aa [aZ 8 false 0 q1,aZ 8 false 0 q2,aZ 8 false 0 q1,aZ 8 false 0 q2,aZ 4 true 0 q5]) (It rt rt rt rt ti) (It (aK<|some q3) (aK<|some q4) (aK<|some q3) (aK<|some q4) ti) (cl4 u.head c1 q4 q3 q4 q3)<|Mg 1<|M3 (.efx true (AV.sl0 5 0 u.words.length none)<|aa [aZ 8 false 0 q1,aZ 8 false 0 q2,aZ 8 false 0 q1,aZ 8 false 0 q2,aZ 4 true 0 q5,aZ 4 true 0<|u.words.map aQ]) (yo (tR 4 true 0 5<|aX iS u.head) rt rt rt rt ti) (yo (aK<|some q6) (aK<|some q3) (aK<|some q4) (aK<|some q3) (aK<|some q4) ti) (cl5 u.words c2 q4 q3 q4 q3 q6)<|Kl 7 16 (ln aY u.kids)<|Mg 0<|kZ Nat Nat (List TUnit) aY u.kids [1,2,3,15,16,17] (fun a _=>([bK 2 0 0 0,bK 3 0 0 0,ab,aW<|u.kids.map aY,nV u.kids.length,nV a],[aZ 8 false 0 [aw [iV u.act,iV u.item,iV u.n,iV u.kind,aj u.label,aW<|u.head.map aQ,aW<|u.words.map aQ,aW<|u.kids.map aY]],aZ 8 false 0 [aw [iV 0,iV 0,iV 0,iV 0,aj [],ab,ab,ab]],aZ 8 false 0 [aw [iV u.act,iV u.item,iV u.n,iV u.kind,aj u.label,AV.sl0 4 0 u.head.length none,AV.sl0 5 0 u.words.length none,aW<|u.kids.map aY]],aZ 8 false 0 [aw [iV 0,iV 0,iV 0,iV 0,aj [],ab,ab,ab]],aZ 4 true 0<|u.head.map aQ,aZ 4 true 0<|u.words.map aQ])) (fun a _ b c d=>([bK 2 0 0 0,bK 3 0 0 0,aN 6 b 0 c none,aW<|u.kids.map aY,nV u.kids.length,nV a],[aZ 8 false 0 [aw [iV u.act,iV u.item,iV u.n,iV u.kind,aj u.label,aW<|u.head.map aQ,aW<|u.words.map aQ,aW<|u.kids.map aY]],aZ 8 false 0 [aw [iV 0,iV 0,iV 0,iV 0,aj [],ab,ab,ab]],aZ 8 false 0 [aw [iV u.act,iV u.item,iV u.n,iV u.kind,aj u.label,AV.sl0 4 0 u.head.length none,AV.sl0 5 0 u.words.length none,aW<|u.kids.map aY]],aZ 8 false 0 [aw [iV 0,iV 0,iV 0,iV 0,aj [],ab,ab,ab]],aZ 4 true 0<|u.head.map aQ,aZ 4 true 0<|u.words.map aQ,aZ 8 true b<|d.map aY])) (fun a=>a=u.kids) (fun a _ b c=>b=c.length∧(0:Nat)<c.length∧c++a=u.kids∧c.length+a.length=u.kids.length) (by rfl) (fun _ _ _ _ _ a _=>Kh 0 a<|Mg 4<|Mw .abs (sA:False)) (fun a _ _ b c d _ e f g _ i _=>have i:=(i).trans<|congrArg some<|aD c;have b:=cX (J:=fun a _=>a=u.kids) (a:=()) f b;Kt 0 g<|Mx i<|Kp 4 (ihk c gR)<|K1 1 (.obj 7<|aZ 8 true 0<|List.map aY [c]) (congrArg (aZ 8 true 0)<|VX (f:=aY) (g:=Go.Ev.eU) (ws:=[c]) aD)<|Kl 1 26 (dm a)<|Mg 0<|Mw (.ren [0,1,2,3,4,5,7,6] [4,5,7] [1,2,3,15,16,17]<|.frz 7 [1,2,3,15,16,17] .fin)<|It (tS 4 true 0<|aX iS u.head) (tS 4 true 0<|aX iS u.words) (tS 8 true 0<|aX ic [c]) (et8 (tR 8 true 0 7<|aX ic [c]) (tR 4 true 0 7<|aX iS u.words) (tR 4 true 0 7<|aX iS u.head) rt rt rt rt ti)<|e 0 1 [c]<|by(refine⟨rfl,by simp,?_,?_⟩<;>(rw[←b])<;>(first|rfl|grind))) (fun _ _ b c d _ _ _ e _=>Kh 0 e<|Mg 4<|Mw (.ren [0,1,3,4,5,6,2] [4,5,6] [2]<|.frz 6 [2] .fin)<|It (tS 4 true 0<|aX iS u.head) (tS 4 true 0<|aX iS u.words) (tS 8 true b<|aX ic d) (Oi (tR 8 true b 6<|aX ic d) (tR 4 true 0 6<|aX iS u.words) (tR 4 true 0 6<|aX iS u.head) rt rt rt ti)<|a (b,c,d) sA) fun a _ b c d _ e f g _ i j l _ n _=>have n:=(n).trans<|congrArg some<|aD f;have e:=cX (J:=fun a b=>b.2.1=b.2.2.length∧(0:Nat)<b.2.2.length∧b.2.2++a=u.kids∧b.2.2.length+a.length=u.kids.length) (a:=(b,c,d)) j e;Kt 0 l<|Mx n<|Kp 4 (ihk f gR)<|K1 0 .app (ct (aK b) (sA:c=(d.map aY).length) (by(refine au (m:=2^21) ?_ ?_ ?_<;>omega):small (c+1) 120=true))<|M1 (.obj 6<|aZ 8 true (b+1)<|(d++[f]).map aY) (congrArg (aZ 8 true<|b+1)<|yg (f:=aY) (g:=Go.Ev.eU) (l:=d) (ws:=[f]) aD)<|Kl 1 26 (dm a)<|K1 0 (.frz 7 [1,2,3,15,16,17]) (et8 (tR 8 true (b+1) 7<|aX ic<|d++[f]) (tR 4 true 0 7<|aX iS u.words) (tR 4 true 0 7<|aX iS u.head) rt rt rt rt ti)<|Mf<|i (b+1) (c+1) (d++[f])<|by(refine⟨by simp_all,by simp,?_,?_⟩<;>first|(rw[←e.2.2.1];simp;done)|grind)
theorem aam(u:TUnit)(hk:u.kids=[])(ht:∀x,x∈bW u→x.head.length≤2^20∧x.words.length≤2^20):kD 87 [eU u] (aa [wM u,wF]) (EK u .nils) (aa [wM u,wF,Wj u 3 4 .nils,Cj u.head,Cj u.words]):=by
  have c1:=(ht u (bq u)).1
  have c2:=(ht u (bq u)).2
  have hz:ao 0 (Int.ofNat u.kids.length)=false:=by rw[hk];rfl
  let q:=[aw [iV u.act,iV u.item,iV u.n,iV u.kind,aj u.label,aW (u.head.map aQ),aW (u.words.map aQ),aW (u.kids.map aY)]];let q1:=[aw [iV 0,iV 0,iV 0,iV 0,aj [],ab,ab,ab]];let q2:=[aZ 8 false 0 q,aZ 8 false 0 q1,aZ 8 false 0 [aw [iV u.act,iV u.item,iV u.n,iV u.kind,aj u.label,AV.sl0 4 0 u.head.length none,AV.sl0 5 0 u.words.length none,aW (u.kids.map aY)]],aZ 8 false 0 q1,aZ 4 true 0 (u.head.map aQ),aZ 4 true 0 (u.words.map aQ)];let q3:=aZ 8 false 0 q1;let q4:=aZ 8 false 0 q;let q5:=[bK 2 0 0 0,bK 3 0 0 0,ab,aW (u.kids.map aY),nV u.kids.length,iV 0];let q6:=List.map aQ u.head;let q7:=aZ 4 true 0 q6;exact gg Tryz.func87 fun a=>Mg 3<|M3 (.efx true (AV.sl0 4 0 u.head.length none)<|aa [aZ 8 false 0 q,aZ 8 false 0 q1,aZ 8 false 0 q,aZ 8 false 0 q1,aZ 4 true 0 q6]) (It rt rt rt rt ti) (It (aK<|some q3) (aK<|some q4) (aK<|some q3) (aK<|some q4) ti) (cl4 u.head c1 q4 q3 q4 q3)<|Mg 1<|M3 (.efx true (AV.sl0 5 0 u.words.length none)<|aa [aZ 8 false 0 q,aZ 8 false 0 q1,aZ 8 false 0 q,aZ 8 false 0 q1,aZ 4 true 0 q6,aZ 4 true 0<|u.words.map aQ]) (yo (tR 4 true 0 5<|aX iS u.head) rt rt rt rt ti) (yo (aK<|some q7) (aK<|some q3) (aK<|some q4) (aK<|some q3) (aK<|some q4) ti) (cl5 u.words c2 q4 q3 q4 q3 q7)<|Kl 7 16 (ln aY u.kids)<|Mg 0<|MO0 [1,2,3,15,16,17] (q5,q2) True 0 ti fun _ _=>Kh 0 hz<|Mg 4<|M2 (.ren [0,1,3,4,5,2] [4,5] [2]) (tS 4 true 0<|aX iS u.head) (tS 4 true 0<|aX iS u.words)<|M1 (.frz 5 [2]) (yo (tR 4 true 0 5<|aX iS u.words) (tR 4 true 0 5<|aX iS u.head) rt rt rt ti)<|Mf a
noncomputable abbrev kdO(ep:Nat)(l:List TUnit):AObj:=.row 8 true ep (l.map aY)
theorem LI(u:TUnit){k k':AV}(h:Le k k')(h2:cO k=true):Le (EK u k) (EK u k'):=aR (.cons (Le.refl _) (.cons (Le.refl _) (.cons (Le.refl _) (.cons (Le.refl _) (.cons (Le.refl _) (.cons (Le.refl _) (.cons (Le.refl _) (.cons h .nil)))))))) (by simp only[qn,List.all_nil,h2];rfl)
theorem aak(u:TUnit)(hn:nU u≤2^20)(ht:∀x,x∈bW u→x.head.length≤2^20∧x.words.length≤2^20):kC 87 [eU u] (aa [wM u,wF])
    (fun v h=>∃ep:Nat,True∧v=EK u (.sl0 5 ep u.kids.length none)∧h=aa [wM u,wF,.dead,Cj u.head,Cj u.words,kdO ep u.kids]):=by
  rcases Nat.eq_zero_or_pos u.kids.length with hk|hk
  · have hk:=List.length_eq_zero_iff.1 hk
    refine aI.dead (i:=2) (KA (Ψ':=fun v h=>v=EK u (.sl0 5 0 0 none)∧h=aa [wM u,wF,Wj u 3 4 .nils,Cj u.head,Cj u.words,kdO 0 u.kids]) (kdO 0 u.kids) (aam u hk ht) fun v h' ⟨h1,h2⟩=>⟨EK u (.sl0 5 0 0 none),h1▸LI u Le.sl0n rfl,rfl,?_⟩) (an 2) (by omega) fun v h' ⟨h1,h2⟩=>⟨0,trivial,by simp_all,?_⟩
    · rw[h2];kernel_rfl
    · rw[h2];kernel_rfl
  · refine aI.dead (i:=2) (aI.less (Ψ':=fun v h=>∃ep:Nat,v=EK u (.sl0 5 ep u.kids.length none)∧h=aa [wM u,wF,Wj u 3 4 (.slice 5 ep 0 u.kids.length none),Cj u.head,Cj u.words,kdO ep u.kids]) (aal u hk hn ht) fun v h' ⟨y,⟨e1,e2⟩,h1,h2⟩=>⟨EK u (.sl0 5 y.1 u.kids.length none),?_,y.1,rfl,?_⟩) (an 2) (by omega) fun v h' ⟨ep,h1,h2⟩=>⟨ep,trivial,h1,?_⟩
    · rw[h1,e1];exact LI u Le.sl0 rfl
    · simp_all
    · rw[h2];kernel_rfl
/-- The first 'i' elements changed by 'f'. -/
def kS{α:Type}(f:α→α)(l:List α)(i:Nat):List α:=(l.take i).map f++l.drop i
theorem wZ{α:Type}{f:α→α}{l:List α}{i:Nat}:(kS f l i).length=l.length:=by
  grind[kS]
theorem wX{α:Type}{f:α→α}{l:List α}{i:Nat}(h:l.length≤i):kS f l i=l.map f:=by
  grind[kS,List.take_of_length_le]
theorem AX{α:Type}[Inhabited α]{f:α→α}{l:List α}{i:Nat}(h:i<l.length):gD (kS f l i) i=gD l i:=by
  have e:((l.take i).map f).length=i:=by grind
  simp_all[kS,gD,qV]
theorem C0{α:Type}[Inhabited α]{f:α→α}{l:List α}{i:Nat}(h:i<l.length):(kS f l i).set i (f (gD l i))=kS f l (i+1):=by
  have e:((l.take i).map f).length=i:=by grind
  have hg:gD l i=l[i]:=by unfold gD;simp_all
  unfold kS
  rw[List.set_append_right _ _ (by omega),e,Nat.sub_self,hg,Pq h,List.set_cons_zero,KG h,m0,ia]
  rfl
theorem AZ{l:List PWord}{i:Nat}(h:i<l.length):(kS iW l i).set i ⟨(gD (kS iW l i) i).text,0,0,0⟩=kS iW l (i+1):=by
  rw[AX h];exact C0 h
theorem PF:∀u:TUnit,nU u≤2^20→(∀x,x∈bW u→x.head.length≤2^20∧x.words.length≤2^20)→kP 342 [eU u] (eU (cN u)):=by
  refine TUnit.ind fun u ih hn ht=>?_
  have hkl:=bz u
  have c1:=(ht u (bq u)).1
  have c2:=(ht u (bq u)).2
  have hc:=aak u hn ht
  have ihk:∀k,k∈u.kids→kP 342 [eU k] (eU (cN k)):=fun k hk=>ih k hk (bL (mj (gI hk)) hn) (fun x hx=>ht x (bX hk hx))
  rw[mG]
  have rr0 b' (h:(List.map aQ (TUnit.mk 0 0 0 u.kind u.label (u.head.map iW) (u.words.map iW) (u.kids.map cN)).head)=b':=by(rw[hx1.2,wX (by(simp only[oN]at *;omega))];rfl)):=h;have rr1 b' (h:(List.map aQ (TUnit.mk 0 0 0 u.kind u.label (u.head.map iW) (u.words.map iW) (u.kids.map cN)).words)=b':=by(rw[hx2.2,wX (by(simp only[oN]at *;omega))];rfl)):=h;have rr2 b' (h:(List.map aY (TUnit.mk 0 0 0 u.kind u.label (u.head.map iW) (u.words.map iW) (u.kids.map cN)).kids)=b':=by(rw[hx3.2,wX (by(simp only[oN]at *;omega))];rfl)):=h;exact bF Tryz.func342<|Mg 2<|Mq hc fun a _=>Mg 10<|M0 (.un 2)<|Mg 7<|NQ (0:Nat) u.head [1,2,4,15,16,17,22,23] (fun b c=>([bK 0 0 0 0,bK 1 0 0 0,AV.sl0 3 0 u.head.length none,kM [AV.sl0 3 0 u.head.length none,AV.sl0 4 0 u.words.length none] true,iV 2,iV 0,nV u.head.length,nV b],[aZ 8 false 0 [aw [iV 0,iV 0,iV 0,iV u.kind,aj u.label,AV.sl0 3 0 u.head.length none,AV.sl0 4 0 u.words.length none,AV.sl0 5 a u.kids.length none]],aZ 8 false 0 [aw [iV 0,iV 0,iV 0,iV 0,aj [],ab,ab,ab]],AObj.dead,aZ 4 true 0<|c.map aQ,aZ 4 true 0<|u.words.map aQ,aZ 8 true a<|u.kids.map aY])) (fun a b=>a≤u.head.length∧b=kS iW u.head a) (fun a _=>u.head.length-a) (by exact⟨bP _,rfl⟩) fun b c hx1 d=>have hx1:b≤u.head.length∧c=kS iW u.head b:=hx1;have:c.length=u.head.length:=(by grind[wZ]);Ka 0 (Int.ofNat b) (Int.ofNat u.head.length) (fun _ _=>K1 4 .rix (et (aK 0) (sA:b<u.head.length))<|K1 0 (.rst (aQ<|gD c b)<|(c.set b<|PWord.mk (gD c b).text 0 0 0).map aQ) (ct (aK 0) (bJ aQ (sA:b<(c).length))<|kx (f:=aQ) (l:=c) (i:=b) (w:=PWord.mk (gD c b).text 0 0 0))<|Kl 0 31 (ji b)<|Kf 0<|d (b+1) (c.set b<|PWord.mk (gD c b).text 0 0 0) (by grind[AZ]) gR) fun _ _=>Mg 9<|NQ (0:Nat) u.words [1,2,4,15,16,17,22,23] (fun b d=>([bK 0 0 0 0,bK 1 0 0 0,AV.sl0 4 0 u.words.length none,kM [AV.sl0 3 0 u.head.length none,AV.sl0 4 0 u.words.length none] true,iV 2,iV 1,nV u.words.length,nV b],[aZ 8 false 0 [aw [iV 0,iV 0,iV 0,iV u.kind,aj u.label,AV.sl0 3 0 u.head.length none,AV.sl0 4 0 u.words.length none,AV.sl0 5 a u.kids.length none]],aZ 8 false 0 [aw [iV 0,iV 0,iV 0,iV 0,aj [],ab,ab,ab]],AObj.dead,aZ 4 true 0<|c.map aQ,aZ 4 true 0<|d.map aQ,aZ 8 true a<|u.kids.map aY])) (fun a b=>a≤u.words.length∧b=kS iW u.words a) (fun a _=>u.words.length-a) (by exact⟨bP _,rfl⟩) fun b d hx2 e=>have hx2:b≤u.words.length∧d=kS iW u.words b:=hx2;have:d.length=u.words.length:=(by grind[wZ]);Ka 0 (Int.ofNat b) (Int.ofNat u.words.length) (fun _ _=>K1 4 .rix (et (aK 0) (sA:b<u.words.length))<|K1 0 (.rst (aQ<|gD d b)<|(d.set b<|PWord.mk (gD d b).text 0 0 0).map aQ) (ct (aK 0) (bJ aQ (sA:b<(d).length))<|kx (f:=aQ) (l:=d) (i:=b) (w:=PWord.mk (gD d b).text 0 0 0))<|Kl 0 31 (ji b)<|Kf 0<|e (b+1) (d.set b<|PWord.mk (gD d b).text 0 0 0) (by grind[AZ]) gR) fun _ _=>Mg 7<|NQ (0:Nat) u.kids [1,2,35,36] (fun b e=>([bK 0 0 0 0,bK 1 0 0 0,nV u.kids.length,nV b],[aZ 8 false 0 [aw [iV 0,iV 0,iV 0,iV u.kind,aj u.label,AV.sl0 3 0 u.head.length none,AV.sl0 4 0 u.words.length none,AV.sl0 5 a u.kids.length none]],aZ 8 false 0 [aw [iV 0,iV 0,iV 0,iV 0,aj [],ab,ab,ab]],AObj.dead,aZ 4 true 0<|c.map aQ,aZ 4 true 0<|d.map aQ,aZ 8 true a<|e.map aY])) (fun a b=>a≤u.kids.length∧b=kS cN u.kids a) (fun a _=>u.kids.length-a) (by exact⟨bP _,rfl⟩) fun b e hx3 f=>have hx3:b≤u.kids.length∧e=kS cN u.kids b:=hx3;have:e.length=u.kids.length:=(by grind[wZ]);have g:b<u.kids.length→kP (342:FuncId) [eU (gD e b)] (eU (cN (gD e b))):=fun h=>ihk _ (by grind[AX,fp]);Ka 0 (Int.ofNat b) (Int.ofNat u.kids.length) (fun _ _=>K1 7 .rix (et (aK a) (sA:b<u.kids.length))<|Mr (et (aK a)<|rN aY (g:=Go.Ev.eU) aD (sA:b<(e).length))<|Mp (g sA)<|M1 .rix (et (aK a) (sA:b<u.kids.length))<|M3 (.rst (aw [iV (gD e b).act,iV (gD e b).item,iV (gD e b).n,iV (gD e b).kind,aj (gD e b).label,aW<|List.map aQ (gD e b).head,aW<|List.map aQ (gD e b).words,aW<|List.map aY (gD e b).kids])<|(e.set b<|cN<|gD e b).map aY) rt (iG (tR 8 true a 6<|aX ic e) rt) (ct (aK a) (rN aY (g:=Go.Ev.eU) aD (sA:b<(e).length))<|D8 (f:=aY) (g:=Go.Ev.eU) aD (l:=e) (i:=b) (w:=cN<|gD e b))<|Kl 0 49 (ji b)<|Kf 0<|f (b+1) (e.set b<|cN<|gD e b) (by grind[AX,C0]) gR) fun _ _=>M2 (.fza 0 7 5 [1,2]<|e.map aY) (yo (tR 4 true 0 5<|aX iS d) (tR 4 true 0 5<|aX iS c) rt rt rt ti) (ct (aK a) (tA aY e u.kids.length (oA:(e).length=u.kids.length))<|aX ic e)<|M2 (.fza 0 6 4 [1,2]<|d.map aQ) (It (tR 4 true 0 4<|aX iS c) rt rt rt ti) (ct (aK 0) (tA aQ d u.words.length (oA:(d).length=u.words.length))<|aX iS d)<|M2 (.fza 0 5 3 [1,2]<|c.map aQ) (kL rt rt rt ti) (ct (aK 0) (tA aQ c u.head.length (oA:(c).length=u.head.length))<|aX iS c)<|Kf 1 (aR (lc<|lc<|lc<|lc<|lc<|.cons (cJ<|rr0<|c.map aQ)<|.cons (cJ<|rr1<|d.map aQ)<|.cons (cJ<|rr2<|e.map aY) .nil)<|by kernel_rfl:Le _ (AV.agg [iV 0,iV 0,iV 0,iV u.kind,AV.str u.label,AV.ls (c.map aQ),AV.ls (d.map aQ),AV.ls (e.map aY)]))
theorem RJ:Go.Proofs.Builder.Extra Tryz.prog Tryz.ljoin_ren:=by
  repeat' (first|kernel_rfl|(intro w;kernel_rfl)|decide|constructor)
theorem Vq(l:List aE)(sep:aE)(h1:l.length≤140737488355328)(h2:(Lib.join l sep).length≤140737488355328):kP 299 [.ls (l.map nr),.str sep] (.str (Lib.join l sep)):=OK (Go.Proofs.enters_of Tryz.func299 (by kernel_rfl) rfl) (fun a b c d e f g h i j k=>Go.Proofs.Any.strings_Join Go.Proofs.Tryz.ljoin RJ a b c d e f g h i j k) (fun a b c d=>Go.Proofs.Any.strings_Join_none Go.Proofs.Tryz.ljoin RJ a b c d) l sep h1 h2
theorem Z4:Go.Proofs.Builder.Extra Tryz.prog Tryz.lrep_ren:=by
  repeat' (first|kernel_rfl|(intro w;kernel_rfl)|decide|constructor)
theorem Xu(s:aE)(c:Nat)(h1:c≤9223372036854775807)(h2:s.length*c≤140737488355328):kP 368 [.str s,nV c] (.str (Lib.repeatL s c)):=Gy (Go.Proofs.enters_of Tryz.func368 (by kernel_rfl) rfl) (fun a b d e f=>Go.Proofs.Any.strings_Repeat Go.Proofs.Tryz.lrep Z4 a b d e f) s c h1 h2
theorem Qv(s:aE)(ws:List PWord)(hw:∀w,w∈ws→1≤w.text.length∧w.text.length≤24)(hb:s.length+26*ws.length≤2^40)(hn:ws.length≤2^20):kP 370 [.str s,.ls (ws.map aQ)] (.str (mf s ws)):=by
  have rr0 b' (h:(mf s ws)=b':=by first|rfl|(exact hj0.1.symm)):=h;exact bF Tryz.func370<|Kl 2 8 (ln aQ ws)<|Mg 0<|XV (0:Nat) ws s [0,7,8,9] (fun a _ b=>([aj b,aW<|ws.map aQ,nV ws.length,nV a],[])) (fun a b c=>(ws).drop a=b∧mf c b=mf s ws∧List.length c+26*b.length≤2^40) (fun _ a _=>a.length) (et rfl<|by first|rfl|(first|simp_all|(refine⟨by(rw[←hj0.1,o5];first|rw[Fv h1]|rw[Fw h1 h2]|rw[Fk h1 h2]),?_⟩;have q:=hj0.2;simp only[lA,lC,lN]at *;omega))) fun a b c d e=>Mc b (fun a=>have b:=fg d.1 a;have hj0:=iX (J:=fun a b=>mf b a=mf s ws∧List.length b+26*a.length≤2^40) (a:=c) a d.2;Kh 0 b<|Kf 1<|Le.str<|rr0 c) fun b f g=>let i:=[aZ 4 false 0 [aw [aj b.text,iV b.act,iV b.item,iV b.at_]]];have j:=fR d.1 g;have:=ae j;have k:=fe (enc:=aQ) d.1 g;have hj0:=cX (J:=fun a b=>mf b a=mf s ws∧List.length b+26*a.length≤2^40) (a:=c) g d.2;have:=hw b<|aG d.1 g;Kt 0 j<|Mx k<|Kv 3 (jq (s:=c) (u:=[32]) (H:=aa i) (by(first|first|assumption|omega|grind):(c).length+([32]).length≤2^62))<|K1 2 (.chr<|gD b.text 0) (mc (by first|omega|(simp only[oN,lM,lS]at *;omega)|(simp only[oN,lM,lS,lA,lR,lC,lN]at * <;>omega):0<(b.text).length))<|Kj 1 (Int.ofNat (gD b.text 0).toNat) 124 (fun j _=>Mt j<|Mt j<|Mt j<|MV j<|Kv 1 (jq (s:=c++[32]) (u:=[92]) (H:=aa i) (by(first|first|assumption|omega|grind):(c++[32]).length+([92]).length≤2^62))<|Kv 3 (jq (s:=c++[32]++[92]) (u:=b.text) (H:=aa i) (by(first|first|assumption|omega|grind):(c++[32]++[92]).length+(b.text).length≤2^62))<|Kl 1 31 (dm a)<|K1 0 (.frz 0 [0,7,8,9]) ti<|Mf<|e (a+1) f (c++[32]++[92]++b.text) (et (bh d.1 g)<|by first|exact⟨rfl,hb⟩|(refine⟨by(rw[←hj0.1,o5];first|rw[Fv j]|rw[Fw j h2]|rw[Fk j h2]),?_⟩;grind))<|eA g) fun j _=>Kh 0 j<|Kh 0 j<|M1 (.chr<|gD b.text 0) (mc (by first|omega|(simp only[oN,lM,lS]at *;omega)|(simp only[oN,lM,lS,lA,lR,lC,lN]at * <;>omega):0<(b.text).length))<|Mh j<|Kw 0 j<|Mb (ak (Int.ofNat (gD b.text 0).toNat) 92) (fun k=>have:=iI k;Kv 0 (jq (s:=c++[32]) (u:=[92]) (H:=aa i) (by(first|first|assumption|omega|grind):(c++[32]).length+([92]).length≤2^62))<|Kv 3 (jq (s:=c++[32]++[92]) (u:=b.text) (H:=aa i) (by(first|first|assumption|omega|grind):(c++[32]++[92]).length+(b.text).length≤2^62))<|Kl 1 31 (dm a)<|K1 0 (.frz 0 [0,7,8,9]) ti<|Mf<|e (a+1) f (c++[32]++[92]++b.text) (et (bh d.1 g)<|by first|exact⟨rfl,hb⟩|(refine⟨by(rw[←hj0.1,o5];first|rw[Fv j]|grind[Fw]|rw[Fk j k]),?_⟩;grind))<|eA g) fun k=>have:=AH k;Kv 2 (jq (s:=c++[32]) (u:=b.text) (H:=aa i) (by(first|first|assumption|omega|grind):(c++[32]).length+(b.text).length≤2^62))<|Kl 1 31 (dm a)<|K1 0 (.frz 0 [0,7,8,9]) ti<|Mf<|e (a+1) f (c++[32]++b.text) (et (bh d.1 g)<|by first|exact⟨rfl,hb⟩|(refine⟨by(rw[←hj0.1,o5];first|rw[Fv j]|rw[Fw j k]|grind[Fk]),?_⟩;grind))<|eA g
theorem sL{u:TUnit}(h:m8 u):m8 (cN u):=by
  obtain⟨h1,h2⟩:=Nb u
  refine⟨by rw[h1];exact h.1,fun x hx=>?_⟩
  obtain⟨y,hy,rfl⟩:=h2 x hx
  obtain⟨a,b,c,d,e⟩:=h.2 y hy
  rw[mG]
  refine⟨by grind[TUnit.head],by grind[TUnit.words],c,fun w hw=>?_,fun w hw=>?_⟩
  · obtain⟨v,hv,rfl⟩:=fE.1 hw;exact d v hv
  · obtain⟨v,hv,rfl⟩:=fE.1 hw;exact e v hv
theorem Cc{u:TUnit}(h:oa u):m8 (uJ u):=by
  have e:bW (uJ u)=[uJ u]:=by rw[co];exact congrArg _ fZ
  refine⟨by rw[jv];exact bL (wA (congrArg (1+ ·) mr)) (by omega),fun x hx=>?_⟩
  rw[e]at hx
  rw[qo.1 hx];exact h
theorem DR(u:TUnit)(h:m8 u):kP 342 [eU u] (eU (cN u)):=
  PF u (bL h.1 (by omega)) fun x hx=>⟨bL (h.2 x hx).1 (by omega),bL (h.2 x hx).2.1 (by omega)⟩
theorem Q8(u:TUnit)(d:Nat)(hd:d≤2^20)(h:oa u):kP 367 [eU u,nV d] (.bool (Ei u d)):=by
  have h1:=DR (uJ u) (Cc h)
  have h2:=yJ (cN (uJ u)) (sL (Cc h))
  have hz:=XP d
  have rr0 b' (h:(Ei u d)=b':=by first|rfl|(unfold Ei;simp only[aS,az,bS, *];done)):=h;exact bF Tryz.func367<|Kn 13 (ao 8<|Int.ofNat d) (fun a=>Kt 0 (cA a)<|Mp (bQ.onArgs (.cons (aR (lc<|lc<|lc<|lc<|lc<|lc<|lc<|.cons bM .nil)<|by kernel_rfl) .nil) h1:kP 342 [aw [iV 0,iV 0,iV 0,iV u.kind,aj u.label,aW (u.head.map aQ),aW (u.words.map aQ),ab]] _)<|Mt (cA a)<|Mp h2<|MV (cA a)<|Kf 0<|bT<|rr0<|kV<|cN<|uJ u) fun a=>Mh (cw a)<|Mh (cw a)<|My (cw a)<|Ky 0<|rr0 false
theorem YZ(u:TUnit)(d:Nat)(hd:d≤2^20)(h:oa u)(hm:Ei u d=false):kP 344 [eU u,nV d] (.str (gy u d)):=by
  have h1:=Q8 u d hd h
  rw[hm]at h1
  have e:gy u d=[]:=by unfold gy;simp_all
  rw[e]
  exact bF Tryz.func344<|Kp 3 h1<|Kf 2<|bu<|aj []
def OW(u:TUnit)(d:Nat)(z18:aE):Prop:=(z18=bif az (ak u.kind (0:Int))then Lib.repeatL [(32:UInt8),(32:UInt8)] d++dW u.kind++([(32:UInt8)]++u.label)else Lib.repeatL [(32:UInt8),(32:UInt8)] d++dW u.kind)∧List.length z18≤(40:Nat)
noncomputable def OX(u:TUnit)(d:Nat)(z18:aE):List AV×List AObj:=([AV.ptr 0 0 0 0,AV.str z18],[AObj.row 8 false 0 [AV.agg [iV u.act,iV u.item,iV u.n,iV u.kind,AV.str u.label,AV.ls (u.head.map aQ),AV.ls (u.words.map aQ),AV.ls (u.kids.map aY)]]])
def OZ(u:TUnit)(z18:aE)(z27:aE):Prop:=(z27=bif ao (0:Int) (Int.ofNat u.head.length)then mf (z18++[(58:UInt8)]) u.head else z18)∧List.length z27≤(6700:Nat)
noncomputable def OQ(u:TUnit)(z18:aE)(z27:aE):List AV×List AObj:=([AV.ptr 0 0 0 0,AV.str z27],[AObj.row 8 false 0 [AV.agg [iV u.act,iV u.item,iV u.n,iV u.kind,AV.str u.label,AV.ls (u.head.map aQ),AV.ls (u.words.map aQ),AV.ls (u.kids.map aY)]]])
theorem YQ(u:TUnit)(d:Nat)(hd:d≤2^20)(h:oa u)(hm:Ei u d=true):kP 344 [eU u,nV d] (.str (gy u d)):=by
  have h1:=Q8 u d hd h
  obtain⟨hd8,hlb,⟨hh1,hh2⟩,hw1,hw2⟩:=Lu hm
  have hrl:=Lib.repeatL_length [32,32] d
  simp only[lC,lN]at hrl
  have h2:=Xu [32,32] d (by omega) (by grind)
  have hk:=xj u.kind
  have hkl:=Ab u.kind
  have hp1:∀s:aE,s.length≤2^14→kP 370 [.str s,.ls (u.head.map aQ)] (.str (mf s u.head)):=fun s hs=>Qv s u.head hh2 (by omega) (by omega)
  have hp2:∀s:aE,s.length≤2^14→kP 370 [.str s,.ls (u.words.map aQ)] (.str (mf s u.words)):=fun s hs=>Qv s u.words hw2 (by omega) (by omega)
  rw[hm]at h1
  have rr0 b' (h:(gy u d)=b':=by first|rfl|(unfold gy;rw[hm];simp only[az,cond_false];rw[←hz18.1,←hz27.1];first|(rw[h3];rfl)|(rw[h4];rfl)|(rw[h5];rfl)|(rw[h6];rfl)|(rw[h7];rfl))):=h;let q1:=[aZ 8 false 0 [aw [iV u.act,iV u.item,iV u.n,iV u.kind,aj u.label,aW (u.head.map aQ),aW (u.words.map aQ),aW (u.kids.map aY)]]];exact bF Tryz.func344<|Kp 3 h1<|Kp 2 h2<|Kp 1 hk<|Mv (jq (s:=Lib.repeatL [32,32] d) (u:=dW u.kind) (H:=AHeap.mk 1000000 Tr.nil) (by(first|first|assumption|((try simp only[lA,lC,lN]);omega)|(simp only[lA,lC,lN]at *;omega)):(Lib.repeatL [32,32] d).length+(dW u.kind).length≤2^62))<|Mg 0<|Mj aE [2,5] (OX u d) (OW u d) (fun a=>Kn 2 (ak u.kind 0) (fun _=>Kv 2 (jq (s:=[32]) (u:=u.label) (H:=aa q1) (by(first|first|assumption|((try simp only[lA,lC,lN]);omega)|(simp only[lA,lC,lN]at *;omega)):([32]).length+(u.label).length≤2^62))<|Mv (jq (s:=Lib.repeatL [32,32] d++dW u.kind) (u:=32::u.label) (H:=aa q1) (by(first|first|assumption|((try simp only[lA,lC,lN]);omega)|(simp only[lA,lC,lN]at *;omega)):(Lib.repeatL [32,32] d++dW u.kind).length+(32::u.label).length≤2^62))<|Kf 0<|a (Lib.repeatL [32,32] d++dW u.kind++32::u.label) (by(refine⟨by first|simp_all|(rw[h2];rfl)|(rw[h3];rfl)|(rw[h0];rfl),?_⟩;grind):(Lib.repeatL [(32:UInt8),(32:UInt8)] d++dW u.kind++(32:UInt8)::u.label=bif az (ak u.kind (0:Int))then Lib.repeatL [(32:UInt8),(32:UInt8)] d++dW u.kind++([(32:UInt8)]++u.label)else Lib.repeatL [(32:UInt8),(32:UInt8)] d++dW u.kind)∧(Lib.repeatL [(32:UInt8),(32:UInt8)] d++dW u.kind++(32:UInt8)::u.label).length≤40)) fun _=>Mf<|a (Lib.repeatL [32,32] d++dW u.kind) (by(refine⟨by first|simp_all|(rw[h2];rfl)|(rw[h3];rfl)|(rw[h0];rfl),?_⟩;grind):(Lib.repeatL [(32:UInt8),(32:UInt8)] d++dW u.kind=bif az (ak u.kind (0:Int))then Lib.repeatL [(32:UInt8),(32:UInt8)] d++dW u.kind++([(32:UInt8)]++u.label)else Lib.repeatL [(32:UInt8),(32:UInt8)] d++dW u.kind)∧(Lib.repeatL [(32:UInt8),(32:UInt8)] d++dW u.kind).length≤40)) fun a hz18=>have hz18:(a=bif az (ak u.kind (0:Int))then Lib.repeatL [(32:UInt8),(32:UInt8)] d++dW u.kind++([(32:UInt8)]++u.label)else Lib.repeatL [(32:UInt8),(32:UInt8)] d++dW u.kind)∧List.length a≤40:=hz18;Mj aE [2,5] (OQ u a) (OZ u a) (fun b=>Kl 2 26 (ln aQ u.head)<|Kb 0 (ao 0<|Int.ofNat u.head.length) (fun h3=>Kv 0 (jq (s:=a) (u:=[58]) (H:=aa q1) (by(first|first|assumption|((try simp only[lA,lC,lN]);omega)|(simp only[lA,lC,lN]at *;omega)):(a).length+([58]).length≤2^62))<|Kp 1 (hp1 (a++[58])<|by first|assumption|((try simp only[lA,lC,lN]);omega))<|Kf 0<|b (mf (a++[58]) u.head) (by(refine⟨by first|simp_all|(rw[h2];rfl)|(rw[h4];rfl)|(rw[h5];rfl),?_⟩;first|omega|(have q:=vf (fun w hw=>(hh2 w hw).2) (a++[58]);grind)):(mf (a++[(58:UInt8)]) u.head=bif ao (0:Int) (Int.ofNat u.head.length)then mf (a++[(58:UInt8)]) u.head else a)∧List.length (mf (a++[(58:UInt8)]) u.head)≤6700)) fun h3=>Mf<|b a (by(refine⟨by first|simp_all|(rw[h2];rfl)|(rw[h4];rfl)|(rw[h5];rfl),?_⟩;first|omega|(have q:=vf (fun w hw=>(hh2 w hw).2) (a++[58]);simp only[lA,lC,lN]at q;omega)):(a=bif ao (0:Int) (Int.ofNat u.head.length)then mf (a++[(58:UInt8)]) u.head else a)∧List.length a≤6700)) fun b hz27=>have hz27:(b=bif ao (0:Int) (Int.ofNat u.head.length)then mf (a++[(58:UInt8)]) u.head else a)∧List.length b≤6700:=hz27;Kl 2 35 (ln aQ u.words)<|Kb 0 (ao 0<|Int.ofNat u.words.length) (fun h4=>Kv 0 (jq (s:=b) (u:=[32,124]) (H:=aa q1) (by(first|first|assumption|((try simp only[lA,lC,lN]);omega)|(simp only[lA,lC,lN]at *;omega)):(b).length+([32,124]).length≤2^62))<|Kp 1 (hp2 (b++[32,124])<|by first|assumption|((try simp only[lA,lC,lN]);omega))<|Kf 2<|Le.str<|rr0<|mf (b++[32,124]) u.words) fun h4=>Kf 1<|Le.str<|rr0 b
theorem LH(u:TUnit)(d:Nat)(hd:d≤2^20)(h:oa u):kP 344 [eU u,nV d] (.str (gy u d)):=by
  grind[YZ,YQ]
noncomputable abbrev Iz(ep n:Nat):AObj:=.row 1 false 0 [.slice 2 ep 0 n none]
noncomputable abbrev FX:AObj:=.row 1 false 0 [.func (.func 343) [] [.ptr 0 0 0 0,.ptr 1 0 0 0]]
noncomputable abbrev F2(ep:Nat)(l:List aE):AObj:=.row 1 true ep (l.map nr)
def tY(u:TUnit)(d:Nat)(l:List aE)(x0:Nat×List TUnit×Nat×Nat×List aE):Prop:=(u.kids).drop x0.1=x0.2.1∧x0.2.2.2.1=x0.2.2.2.2.length∧x0.2.2.2.2++dV (d+(1:Nat)) x0.2.1=l++[gy u d]++dV (d+(1:Nat)) u.kids∧x0.2.2.2.2.length+ef x0.2.1≤2^20
noncomputable def tV(u:TUnit)(d:Nat)(l:List aE)(x0:Nat×List TUnit×Nat×Nat×List aE):List AV×List AObj:=([nV d,AV.ptr 1 0 0 0,AV.ls (u.kids.map aY),nV u.kids.length,nV x0.1],[AObj.row 1 false 0 [AV.slice 2 x0.2.2.1 0 x0.2.2.2.1 none],AObj.row 1 false 0 [AV.func (Fn.func 343) [] [AV.ptr 0 0 0 0,AV.ptr 1 0 0 0]],AObj.row 1 true x0.2.2.1 (x0.2.2.2.2.map nr)])
theorem Z5:∀(u:TUnit)(d ep n:Nat)(l:List aE),n=l.length→l.length+nU u≤2^20→d+nU u≤2^20→(∀x,x∈bW u→oa x)→kC 343 [eU u,nV d,.ptr 0 0 0 0,.ptr 1 0 0 0] (aa [Iz ep n,FX,F2 ep l])
    (fun v h=>∃y:Nat×Nat×List aE,(y.2.1=y.2.2.length∧y.2.2=l++eg d u)∧v=.tuple []∧h=aa [Iz y.1 y.2.1,FX,F2 y.1 y.2.2]):=by
  refine TUnit.ind fun u ih d ep n l hn hl hd ht=>?_
  have hq:=jv u
  have hkl:=bz u
  have hf:=LH u d (by omega) (ht u (bq u))
  have ihk:∀k,k∈u.kids→∀(d ep n:Nat)(l:List aE),n=l.length→l.length+nU k≤2^20→d+nU k≤2^20→kC 343 [eU k,nV d,.ptr 0 0 0 0,.ptr 1 0 0 0] (aa [Iz ep n,FX,F2 ep l])
    (fun v h=>∃y:Nat×Nat×List aE,(y.2.1=y.2.2.length∧y.2.2=l++eg d k)∧v=.tuple []∧h=aa [Iz y.1 y.2.1,FX,F2 y.1 y.2.2]):=fun k hk d ep n l a b c=>ih k hk d ep n l a b c (fun x hx=>ht x (bX hk hx))
  exact qB Tryz.func343 fun e=>Kp 3 hf<|Mg 0<|Mw (.apx ((l++[gy u d]).map nr)<|.go 3<|.le 16 (nV u.kids.length)<|.go 0<|.frz 3 [1,3,15,16,17]<|.loop (Nat×List TUnit×Nat×Nat×List aE) [1,3,15,16,17] (tV u d l) (tY u d l) (fun e=>e.2.1.length) (0,u.kids,(ep+1,n+1,l++[gy u d])) fun e=>.cs TUnit e.2.1 (.go 0<|.ff .fin) fun f _=>.go 0<|.tt<|.elem (eU f)<|.go 6<|.le 24 (nV<|d+1)<|.frz 3 [1,3,15,16,17,21,22,24]<|.eff (Nat×Nat×List aE) (fun _=>cn []) (fun e=>aa [Iz e.1 e.2.1,FX,F2 e.1 e.2.2]) (fun g=>g.2.1=g.2.2.length∧g.2.2=e.2.2.2.2++eg (d+1) f) fun _=>.go 0<|.le 26 (nV<|e.1+1)<|.go 0 .fin)<|et9 rt (iG (tR 1 true ep 4<|aX J3 l) rt) (et (jd _ _:([aj (gy u d)]:List AV)≠[]) rt) (et (ct (aK ep) (by first|assumption|omega|simp_all|(refine au (m:=2^31) ?_ ?_ ?_<;>(try simp only[lM,lC,lN])<;>omega):n=(l.map nr).length) (by first|assumption|omega|(simp only[lM];omega)|(refine au (m:=2^31) ?_ ?_ ?_<;>(try simp only[lM,lC,lN])<;>omega):small (n+([AV.str (gy u d)]).length) 16=true))<|cp (f:=nr) (l:=l) (ws:=[gy u d])) (ln aY u.kids) (kL (tR 1 true (ep+1) 3<|aX J3<|l++[gy u d]) rt rt ti) (aK<|tV u d l (0,u.kids,(ep+1,n+1,l++[gy u d]))) (et (rfl:List.drop 0 (u.kids)=u.kids) (by first|rfl|(first|grind|(have h1:=hj0.2.1;have h2:=hj0.2.2;rw[bi]at h2;rw[mA]at h1;exact⟨hy1.1,(by rw[hy1.2,←h1];simp),(by rw[hy1.2,lA,lz];omega)⟩)):(n+1=(l++[gy u d]).length∧l++[gy u d]++dV (d+1) u.kids=l++[gy u d]++dV (d+1) u.kids∧(l++[gy u d]).length+ef u.kids≤2^20))) fun(f:Nat×List TUnit×Nat×Nat×List aE)(g:(tY u d l) f)=>et (fun(i:f.2.1=[])=>have j:=fg g.1 i;have:=iX (J:=fun e f=>f.2.1=f.2.2.length∧f.2.2++dV (d+1) e=l++[gy u d]++dV (d+1) u.kids∧f.2.2.length+ef e≤2^20) (a:=f.2.2) i g.2;et j<|e (f.2.2.1,f.2.2.2.1,f.2.2.2.2)<|by first|grind[xU,C2]|rfl) fun(e:TUnit)(i:List TUnit)(j:f.2.1=e::i)=>have o:=fR g.1 j;have:=ae o;have p:=(fe (enc:=aY) g.1 j).trans<|congrArg some<|aD e;have:=cX (J:=fun e f=>f.2.1=f.2.2.length∧f.2.2++dV (d+1) e=l++[gy u d]++dV (d+1) u.kids∧f.2.2.length+ef e≤2^20) (a:=f.2.2) j g.2;have q:=aG g.1 j;have r:f.2.2.2.2.length+nU e≤2^20:=(by grind[bi]);have s:d+1+nU e≤2^20:=(by have:=gI q;omega);yo o p (ji d) (kL (tR 1 true f.2.2.1 3<|aX J3 f.2.2.2.2) rt rt ti) (ihk e q (d+1) f.2.2.1 f.2.2.2.1 f.2.2.2.2 (by first|assumption|omega|(simp only[lM];omega)|(refine au (m:=2^31) ?_ ?_ ?_<;>(try simp only[lM,lC,lN])<;>omega)) r s) fun(o:Nat×Nat×List aE)(_:o.2.1=o.2.2.length∧o.2.2=f.2.2.2.2++eg (d+1) e)=>et (ji f.1)<|Nx.mk (I:=tY u d l) (m:=fun e=>e.2.1.length) (S:=tV u d l) (x:=f) (f.1+1,i,(o.1,o.2.1,o.2.2)) (et (bh g.1 j) (by first|exact⟨by simp[hn],rfl,by simp;omega⟩|grind[bi,mA,lz]:(o.2.1=o.2.2.length∧o.2.2++dV (d+1) i=l++[gy u d]++dV (d+1) u.kids∧o.2.2.length+ef i≤2^20)))<|eA j
theorem Z6(u:TUnit)(d:Nat)(hl:nU u≤2^19)(hd:d+nU u≤2^20)(ht:∀x,x∈bW u→oa x):kC 343 [eU u,nV d,.ptr 0 0 0 0,.ptr 1 0 0 0] (aa [.row 1 false 0 [.nils],FX])
    (fun v h=>∃y:Nat×Nat×List aE,(y.2.1=y.2.2.length∧y.2.2=eg d u)∧v=.tuple []∧h=aa [Iz y.1 y.2.1,FX,F2 y.1 y.2.2]):=by
  have hq:=jv u
  have hkl:=bz u
  have hf:=LH u d (by omega) (ht u (bq u))
  have ihk:∀k,k∈u.kids→∀(d ep n:Nat)(l:List aE),n=l.length→l.length+nU k≤2^20→d+nU k≤2^20→kC 343 [eU k,nV d,.ptr 0 0 0 0,.ptr 1 0 0 0] (aa [Iz ep n,FX,F2 ep l])
    (fun v h=>∃y:Nat×Nat×List aE,(y.2.1=y.2.2.length∧y.2.2=l++eg d k)∧v=.tuple []∧h=aa [Iz y.1 y.2.1,FX,F2 y.1 y.2.2]):=fun k hk d ep n l a b c=>Z5 k d ep n l a b c (fun x hx=>ht x (bX hk hx))
  exact qB Tryz.func343 fun e=>Kp 3 hf<|Kl 5 16 (ln aY u.kids)<|Mg 0<|M0 (.ren [0,1,3,2] [] [1,3,15,16,17])<|M1 (.frz 3 [1,3,15,16,17]) (kL rt rt rt ti)<|PV aY u.kids (0:Nat) (1:Nat) ([gy u d]:List aE) [1,3,15,16,17] (fun e _ f g i=>([nV d,bK 1 0 0 0,aW<|u.kids.map aY,nV u.kids.length,nV e],[aZ 1 false 0 [aN 2 f 0 g none],aZ 1 false 0 [bv (bw 343) [] [bK 0 0 0 0,bK 1 0 0 0]],aZ 1 true f<|i.map nr])) (fun e _ f g=>f=g.length∧g++dV (d+1) e=[gy u d]++dV (d+1) u.kids∧g.length+ef e≤2^20) (by first|rfl|(first|grind|(have h1:=hj0.2.1;have h2:=hj0.2.2;rw[bi]at h2;rw[mA]at h1;exact⟨hy1.1,(by rw[hy1.2,←h1];simp),(by rw[hy1.2,lA,lz];omega)⟩))) (fun _ _ f g i _ _ _ j _=>Kh 0 j<|Mf<|e (f,g,i)<|by first|grind[xU,C2]|rfl) fun e _ f g i j m o p q r s _ t _=>have t:=(t).trans<|congrArg some<|aD o;have:=cX (J:=fun e f=>f.2.1=f.2.2.length∧f.2.2++dV (d+1) e=[gy u d]++dV (d+1) u.kids∧f.2.2.length+ef e≤2^20) (a:=(f,g,i)) r m;have j:=aG j r;have m:i.length+nU o≤2^20:=(by grind[bi]);have r:d+1+nU o≤2^20:=(by have:=gI j;omega);Kt 0 s<|Mx t<|Kl 6 24 (ji d)<|M1 (.frz 3 [1,3,15,16,17,21,22,24]) (kL (tR 1 true f 3<|aX J3 i) rt rt ti)<|Mq (ihk o j (d+1) f g i (by first|assumption|omega) m r) fun f _=>Kl 0 26 (ji e)<|Kf 0<|q f.1 f.2.1 f.2.2<|by first|exact⟨by simp[hl],rfl,by simp;omega⟩|grind[bi,mA,lz]
theorem X9(u:TUnit)(h:m8 u)(hv:kV (cN u)=false):kP 298 [eU u] (.ls (([]:List aE).map nr)):=by
  have h1:=DR u h
  have h2:=yJ (cN u) (sL h)
  exact bF Tryz.func298<|Kp 2 h1<|Mp h2<|Kt 0 (cA hv)<|Kf 0 bM
theorem X8(u:TUnit)(h:m8 u)(hv:kV (cN u)=true):kP 298 [eU u] (.ls ((eg 0 u).map nr)):=by
  have h1:=DR u h
  have h2:=yJ (cN u) (sL h)
  have h3:=Z6 u 0 h.1 (by have:=h.1;omega) h.2
  have rr0 b' (h:((eg 0 u).map nr)=b':=by first|rfl|(rw[hy0.2])):=h;exact bF Tryz.func298<|Kp 2 h1<|Mp h2<|Kh 0 (cw hv)<|Mg 5<|M0 (.ren [1,2,0] [] [3,10,11])<|M1 (.frz 2 [3,10,11]) (ct rt rt ti)<|Mq h3 fun a hy0=>Mg 1<|M2 (.fsl 0 [] 2<|a.2.2.map nr) ti (ct (aK a.1) (tA nr a.2.2 a.2.1 (by first|assumption|omega:(a.2.2).length=a.2.1))<|aX J3 a.2.2)<|Ml 2 (fG (a.2.2.map nr) false<|aX J3 a.2.2)<|Mf<|cJ<|rr0<|a.2.2.map nr
theorem aae(u:TUnit)(h:m8 u)(hv:kV (cN u)=false):kP 243 [eU u] (.tuple [.str (xS u).1,iV (xS u).2]):=by
  have h1:=X9 u h hv
  have e:xS u=([],1):=by unfold xS;simp_all
  rw[e]
  exact bF Tryz.func243<|Kp 3 h1<|Kf 6<|bu<|cn [aj [],iV 1]
theorem aad(u:TUnit)(h:m8 u)(hv:kV (cN u)=true):kP 243 [eU u] (.tuple [.str (xS u).1,iV (xS u).2]):=by
  have h1:=X8 u h hv
  have hlen:=lz 0 u
  have hq:=jv u
  have hm:=h.1
  have hjl:=Rv (sep:=[10]) (B:=2^14) (l:=eg 0 u) (fun s hs=>Ak 0 u s hs)
  rw[hlen]at hjl
  have hj2:(Lib.join (eg 0 u) [10]).length≤140737488355328:=bL hjl (bL (eH _ hm) (by grind))
  have hj3:(Lib.join (eg 0 u) [10]).length≤2^40:=bL hjl (bL (eH _ hm) (by grind))
  have hj:=Vq (eg 0 u) [10] (by omega) hj2
  have hz:ak (.ofNat (eg 0 u).length) 0=false:=by grind[Sf]
  have e:xS u=(bif ao 16384 (.ofNat (Lib.join (eg 0 u) [10]++[10]).length)then([],6)else(Lib.join (eg 0 u) [10]++[10],0)):=by unfold xS;simp_all
  rw[e]
  clear e
  generalize Lib.join (eg 0 u) [10]=J at *
  cases hb:ao 16384 (.ofNat (J++[10]).length)
  · have hb2:ao 16384 (.ofNat (J++[10]).length)=false:=hb
    exact bF Tryz.func243<|Kp 3 h1<|Kl 2 9 (ln nr<|eg 0 u)<|Kh 0 hz<|Kp 0 hj<|Mv (jq (s:=J) (u:=[10]) (H:=aa [aZ 8 false 0 [aw [iV u.act,iV u.item,iV u.n,iV u.kind,aj u.label,aW<|u.head.map aQ,aW<|u.words.map aQ,aW<|u.kids.map aY]]]) (by(first|first|assumption|grind|omega|(simp only[lA,lC,lN]at *;omega)):(J).length+([10]).length≤2^62))<|Kh 3 hb<|Kf 2<|bu<|cn [aj<|J++[10],iV 0]
  · have hb2:ao 16384 (.ofNat (J++[10]).length)=true:=hb
    exact bF Tryz.func243<|Kp 3 h1<|Kl 2 9 (ln nr<|eg 0 u)<|Kh 0 hz<|Kp 0 hj<|Mv (jq (s:=J) (u:=[10]) (H:=aa [aZ 8 false 0 [aw [iV u.act,iV u.item,iV u.n,iV u.kind,aj u.label,aW<|u.head.map aQ,aW<|u.words.map aQ,aW<|u.kids.map aY]]]) (by(first|first|assumption|grind|omega|(simp only[lA,lC,lN]at *;omega)):(J).length+([10]).length≤2^62))<|Kt 3 hb<|Kf 1<|bu<|cn [aj [],iV 6]
theorem Ye(u:TUnit)(h:m8 u):kP 243 [eU u] (.tuple [.str (xS u).1,iV (xS u).2]):=by
  grind[aae,aad]
def WR(u:TUnit):Bool:=Dp u&&(az (ak u.kind 0)&&ak (xS u).2 0)
theorem YK(u:TUnit)(h:m8 u):kP 154 [eU u] (.bool (WR u)):=by
  have q1:=Ye u h
  have q2:=Y5 u h
  have rr0 b' (h:(WR u)=b':=by first|rfl|(unfold WR;rw[h0];rfl)|(unfold WR;rw[h0,h1];rfl)|(unfold WR;rw[h0,h1,h2];rfl)):=h;exact bF Tryz.func154<|Kp 2 q1<|Kp 5 q2<|Kb 0 (Dp u) (fun h0=>Kt 0 h0<|Kt 0 h0<|Ku 0 h0<|Kn 0 (ak u.kind 0) (fun h1=>Kt 0 (cA h1)<|Ku 0 (cA h1)<|Kf 0<|bT<|rr0<|ak (xS u).2 0) fun h1=>Mh (cw h1)<|My (cw h1)<|Ky 0<|rr0 false) fun h0=>Mh h0<|Mh h0<|My h0<|Ky 2<|rr0 false
/-- What an item must be, so that the walks can count. -/
def vR(x:PItem):Prop:=nL x∧(x.at_.length<2^40∧∀s,s∈x.at_→s.label.length≤2^39)∧(x.to.length<2^40∧∀s,s∈x.to→s.label.length≤2^39)∧(x.old.length<2^40∧∀s,s∈x.old→s.length≤2^39)∧(x.new.length<2^40∧∀s,s∈x.new→s.length≤2^39)∧x.label.length≤2^39∧x.for_.length≤2^39∧x.start.event.length≤2^39∧m8 x.unit
/-- What a valid item is known to be. -/
def xb(x:PItem):Prop:=(x.kind=0∨x.kind=6→iM x.where_=true)∧((x.kind=0→WR x.unit=true)∧(x.kind=5→fS x.label=true))∧(x.kind=2∨x.kind=3→kX x.old=true∧BL x.nth_=true)∧(x.kind=2∨x.kind=3∨x.kind=4→kX x.new=true)
theorem qN{l:List aE}{n:Int}(h:qO l n=true):kX l=true:=by
  unfold qO at h;rw[aO]at h;exact h.1
theorem Xq(x:PItem)(hx:vR x)(h0:0≤x.kind)(h6:x.kind≤6):∃b,kP 46 [eI x] (.bool b)∧(b=true→xb x):=by
  obtain⟨k,a,t,w,n,u,o,ne,l,f,s,ac,im,d,e,bs⟩:=x
  obtain⟨hf,⟨ha,has⟩,⟨ht,hts⟩,⟨ho,hos⟩,⟨hn,hns⟩,hl,hfo,hse,hu⟩:=hx
  have hz:tw be:=⟨by decide,by decide,by decide,trivial⟩
  have n0:(0:Nat)<2^60:=by decide
  obtain⟨f1,f2,f3,f4,f5,f6,f7⟩:=hf
  have hff:∀k w n,nL ⟨k,a,t,w,n,u,o,ne,l,f,s,ac,im,d,e,bs⟩:=fun _ _ _=>⟨f1,f2,f3,f4,f5,f6,f7⟩
  have h0:0≤k:=h0
  have h6:k≤6:=h6
  have hk:k=0∨k=1∨k=2∨k=3∨k=4∨k=5∨k=6:=by omega
  rcases hk with rfl|rfl|rfl|rfl|rfl|rfl|rfl
  · refine⟨_,pY ⟨0,a,t,w,n,u,o,ne,l,f,s,ac,im,d,e,bs⟩ (oz ⟨0,a,t,w,n,u,o,ne,l,f,s,ac,im,d,e,bs⟩ 0) 151 152 _ _ rfl rfl (WU _) (tk _ (hff _ _ _) (xd ⟨0,a,t,w,n,u,o,ne,l,f,s,ac,im,d,e,bs⟩ (oz ⟨0,a,t,w,n,u,o,ne,l,f,s,ac,im,d,e,bs⟩ 0)) ⟨f1,n0,n0,n0,n0,f6,trivial⟩) (VQ a t w n u o ne l f s ac im d e bs (WR u) (YK u hu)) ha has hfo hse,fun h=>?_⟩
    simp only[aO]at h
    exact⟨fun _=>h.2.2.2.2.1,⟨fun _=>h.2.2.2.2.2,fun q=>(by cases q)⟩,fun q=>(by rcases q with q|q<;>cases q),fun q=>(by rcases q with q|q|q<;>cases q)⟩
  · refine⟨_,pY ⟨1,a,t,w,n,u,o,ne,l,f,s,ac,im,d,e,bs⟩ (oz ⟨1,a,t,w,n,u,o,ne,l,f,s,ac,im,d,e,bs⟩ 1) 155 156 _ _ rfl rfl (WY _) (tk _ (hff _ _ _) (xd ⟨1,a,t,w,n,u,o,ne,l,f,s,ac,im,d,e,bs⟩ (oz ⟨1,a,t,w,n,u,o,ne,l,f,s,ac,im,d,e,bs⟩ 1)) ⟨f1,n0,n0,n0,n0,hz,trivial⟩) (U9 a t w n u o ne l f s ac im d e bs) ha has hfo hse,fun h=>?_⟩
    exact⟨fun q=>(by rcases q with q|q<;>cases q),⟨fun q=>(by cases q),fun q=>(by cases q)⟩,fun q=>(by rcases q with q|q<;>cases q),fun q=>(by rcases q with q|q|q<;>cases q)⟩
  · refine⟨_,pY ⟨2,a,t,w,n,u,o,ne,l,f,s,ac,im,d,e,bs⟩ (oz ⟨2,a,t,w,n,u,o,ne,l,f,s,ac,im,d,e,bs⟩ 2) 157 158 _ _ rfl rfl (WV _) (tk _ (hff _ _ _) (xd ⟨2,a,t,w,n,u,o,ne,l,f,s,ac,im,d,e,bs⟩ (oz ⟨2,a,t,w,n,u,o,ne,l,f,s,ac,im,d,e,bs⟩ 2)) ⟨f1,n0,f3,f4,n0,hz,trivial⟩) (U8 a t w n u o ne l f s ac im d e bs ho hn hos hns) ha has hfo hse,fun h=>?_⟩
    simp only[aO]at h
    exact⟨fun q=>(by rcases q with q|q<;>cases q),⟨fun q=>(by cases q),fun q=>(by cases q)⟩,fun _=>⟨qN h.2.2.2.2.1,h.2.2.2.2.2.2⟩,fun _=>qN h.2.2.2.2.2.1⟩
  · refine⟨_,pY ⟨3,a,t,w,n,u,o,ne,l,f,s,ac,im,d,e,bs⟩ (oz ⟨3,a,t,w,n,u,o,ne,l,f,s,ac,im,d,e,bs⟩ 3) 161 162 _ _ rfl rfl (WK _) (tk _ (hff _ _ _) (xd ⟨3,a,t,w,n,u,o,ne,l,f,s,ac,im,d,e,bs⟩ (oz ⟨3,a,t,w,n,u,o,ne,l,f,s,ac,im,d,e,bs⟩ 3)) ⟨f1,n0,f3,f4,n0,hz,trivial⟩) (U7 a t w n u o ne l f s ac im d e bs ho hn hos hns) ha has hfo hse,fun h=>?_⟩
    simp only[aO]at h
    exact⟨fun q=>(by rcases q with q|q<;>cases q),⟨fun q=>(by cases q),fun q=>(by cases q)⟩,fun _=>⟨qN h.2.2.2.2.1,h.2.2.2.2.2.2.1⟩,fun _=>qN h.2.2.2.2.2.1⟩
  · refine⟨_,pY ⟨4,a,t,w,n,u,o,ne,l,f,s,ac,im,d,e,bs⟩ (oz ⟨4,a,t,w,n,u,o,ne,l,f,s,ac,im,d,e,bs⟩ 4) 163 164 _ _ rfl rfl (WJ _) (tk _ (hff _ _ _) (xd ⟨4,a,t,w,n,u,o,ne,l,f,s,ac,im,d,e,bs⟩ (oz ⟨4,a,t,w,n,u,o,ne,l,f,s,ac,im,d,e,bs⟩ 4)) ⟨f1,n0,n0,f4,n0,hz,trivial⟩) (U6 a t w n u o ne l f s ac im d e bs hn hns) ha has hfo hse,fun h=>?_⟩
    simp only[aO]at h
    exact⟨fun q=>(by rcases q with q|q<;>cases q),⟨fun q=>(by cases q),fun q=>(by cases q)⟩,fun q=>(by rcases q with q|q<;>cases q),fun _=>qN h.2.2.2.2⟩
  · refine⟨_,pY ⟨5,a,t,w,n,u,o,ne,l,f,s,ac,im,d,e,bs⟩ (oz ⟨5,a,t,w,n,u,o,ne,l,f,s,ac,im,d,e,bs⟩ 5) 165 166 _ _ rfl rfl (WW _) (tk _ (hff _ _ _) (xd ⟨5,a,t,w,n,u,o,ne,l,f,s,ac,im,d,e,bs⟩ (oz ⟨5,a,t,w,n,u,o,ne,l,f,s,ac,im,d,e,bs⟩ 5)) ⟨f1,n0,n0,n0,n0,hz,trivial⟩) (U5 a t w n u o ne l f s ac im d e bs hl) ha has hfo hse,fun h=>?_⟩
    simp only[aO]at h
    exact⟨fun q=>(by rcases q with q|q<;>cases q),⟨fun q=>(by cases q),fun _=>h.2.2.2.2⟩,fun q=>(by rcases q with q|q<;>cases q),fun q=>(by rcases q with q|q|q<;>cases q)⟩
  · refine⟨_,pY ⟨6,a,t,w,n,u,o,ne,l,f,s,ac,im,d,e,bs⟩ (oz ⟨6,a,t,w,n,u,o,ne,l,f,s,ac,im,d,e,bs⟩ 6) 168 169 _ _ rfl rfl (WX _) (tk _ (hff _ _ _) (xd ⟨6,a,t,w,n,u,o,ne,l,f,s,ac,im,d,e,bs⟩ (oz ⟨6,a,t,w,n,u,o,ne,l,f,s,ac,im,d,e,bs⟩ 6)) ⟨f1,f2,n0,n0,n0,hz,trivial⟩) (U4 a t w n u o ne l f s ac im d e bs ht hts) ha has hfo hse,fun h=>?_⟩
    simp only[aO]at h
    exact⟨fun _=>h.2.2.2.2.1,⟨fun q=>(by cases q),fun q=>(by cases q)⟩,fun q=>(by rcases q with q|q<;>cases q),fun q=>(by rcases q with q|q|q<;>cases q)⟩
theorem xK{u:TUnit}(h:OkB u):∀x,x∈bW u→x.head.length<2^30∧x.words.length<2^30:=fun x hx=>⟨qQ (h.w x hx).1 (by omega),qQ (h.w x hx).2 (by omega)⟩
theorem Ej(p:PId)(u:TUnit)(hn:nU u≤1024): -1≤rZ p u∧rZ p u≤2^20:=by
  cases h:gP p u with
  |false=>rw[Qh h];omega
  | true=>
    obtain⟨q,i,h1,_,h3,h4,_⟩:=om u h
    have:=eJ h1
    grind[bz]
theorem yh(w:Int)(u:TUnit)(p:PId)(hn:nU u≤1024): -1≤(dY w u p).1.at_∧(dY w u p).1.at_≤2^41:=by
  have hb:=Ej p u hn
  have key:∀n:Int,0≤n→n≤1→ -1≤(n9 u p n).1.at_∧(n9 u p n).1.at_≤2^41:=fun n h0 h1=>by
    unfold n9
    cases gP p u
    · exact⟨by show(-1:Int)≤0;omega,by show(0:Int)≤_;omega⟩
    grind
  unfold dY
  cases ak w 0
  · cases ak w 1
    · grind
    · show -1≤Int.ofNat _∧Int.ofNat _≤2^41
      have:(dZ p u).kids.length≤1024:=by
        cases h:b7 p u with
        | true=>
          have:=eJ (py h).1
          grind[bz]
        |false=>unfold dZ;rw[h];exact bP _
      grind
  simp_all
theorem wz{u:TUnit}(hu:OkB u)(p:PId):kP 48 [eU u,aJ p] (.tuple [eU (dZ p u),.bool (b7 p u)]):=SU p u (bL hu.n (by omega)) (xK hu)
theorem ke{u:TUnit}(hu:OkB u)(p:PId):kP 148 [eU u,aJ p] (.tuple [aJ (rQ p u),iV (rZ p u),.bool (gP p u)]):=Qe p u (bL hu.n (by omega))
theorem xJ{u:TUnit}(hu:OkB u)(p:List PStep)(hp:p.length<2^40∧∀s,s∈p→s.label.length≤2^39):kP 47 [eU u,.ls (p.map ax)] (.tuple [aJ (aC u p).1,iV (aC u p).2]):=
  Oy u p (VG u p (bL hu.n (by omega)) hp.1 hp.2) (bL hu.n (by omega))
theorem LO{u:TUnit}(hu:OkB u)(p:PId):kP 332 [eU u,aJ p] (.tuple [fu (dY 0 u p).1,iV (dY 0 u p).2]):=Rz u _ p _ (wz hu p)
theorem LN{u:TUnit}(hu:OkB u)(p:PId):kP 335 [eU u,aJ p] (.tuple [fu (dY 1 u p).1,iV (dY 1 u p).2]):=Rq u _ p _ (wz hu p)
theorem LM{u:TUnit}(hu:OkB u)(p:PId):kP 337 [eU u,aJ p] (.tuple [fu (dY 2 u p).1,iV (dY 2 u p).2]):=RU u p _ _ _ (ke hu p) (by have:=Ej p u hu.n;omega)
theorem LL{u:TUnit}(hu:OkB u)(p:PId):kP 339 [eU u,aJ p] (.tuple [fu (dY 3 u p).1,iV (dY 3 u p).2]):=RY u p _ _ _ (ke hu p) (by have:=Ej p u hu.n;omega)
theorem wH{w:Int}(h:iM w=true):w=0∨w=1∨w=2∨w=3:=by
  unfold iM at h
  rw[aO]at h
  have h1:=gL h.1
  have h2:=gL h.2
  omega
/-- Where a unit is inserted. -/
theorem Up{u:TUnit}(hu:OkB u)(p:List PStep)(hp:p.length<2^40∧∀s,s∈p→s.label.length≤2^39)(w:Int)(hw:iM w=true):kP 219 [eU u,.ls (p.map ax),iV w]
    (.tuple [aJ (Ct (aC u p).2 (dY w u (aC u p).1).1 (dY w u (aC u p).1).2).1.id,iV (Ct (aC u p).2 (dY w u (aC u p).1).1 (dY w u (aC u p).1).2).1.at_,iV (Ct (aC u p).2 (dY w u (aC u p).1).1 (dY w u (aC u p).1).2).2]):=by
  rcases wH hw with rfl|rfl|rfl|rfl
  · exact rG 0 _ rfl rfl u p _ _ _ _ (xJ hu p hp) (LO hu _)
  · exact rG 1 _ rfl rfl u p _ _ _ _ (xJ hu p hp) (LN hu _)
  · exact rG 2 _ rfl rfl u p _ _ _ _ (xJ hu p hp) (LM hu _)
  · exact rG 3 _ rfl rfl u p _ _ _ _ (xJ hu p hp) (LL hu _)
theorem Yy{u:TUnit}(hu:OkB u)(p q:PId)(w:Int)(hw:iM w=true):∃bs,kP 221 [eU u,aJ p,aJ q,iV w]
    (.tuple [fu (oq p q (rQ p u) (rZ p u) (gP p u) ((qc q u).any (aT p)) bs (dY w u q).1 (dY w u q).2).1,iV (oq p q (rQ p u) (rZ p u) (gP p u) ((qc q u).any (aT p)) bs (dY w u q).1 (dY w u q).2).2]):=by
  have hb:=Ej p u hu.n
  have hb: -1≤rZ p u∧rZ p u≤2^40:=by omega
  have hn:nU u≤2^20:=bL hu.n (by omega)
  have hal:(qc q u).length<2^40:=by
    grind[mh,qc]
  have hC:=MI (qc q u) p hal
  rcases wH hw with rfl|rfl|rfl|rfl
  · exact⟨_,Hj 0 _ rfl rfl rfl u p q _ _ _ _ _ _ _ hb (yh 0 u q hu.n) (ke hu p) (Ib q u hn) hC (LO hu q)⟩
  · exact⟨_,Hj 1 _ rfl rfl rfl u p q _ _ _ _ _ _ _ hb (yh 1 u q hu.n) (ke hu p) (Ib q u hn) hC (LN hu q)⟩
  · exact⟨_,RP u p q _ _ _ _ _ _ _ hb (yh 2 u q hu.n) (ke hu p) (Ib q u hn) hC (LM hu q)⟩
  · exact⟨_,RO u p q _ _ _ _ _ _ _ hb (yh 3 u q hu.n) (ke hu p) (Ib q u hn) hC (LL hu q)⟩
theorem Ar{B:Nat}:∀{l:List TUnit},(∀x,x∈l→(fc x).length≤B)→(l.flatMap fc).length≤B*l.length
  |[],_=>bP _
  | x::r,h=>by
    have h1:=h x eG
    have h2:=Ar (l:=r) fun y hy=>h y (eQ _ hy)
    rw[B9,lA,lC,Nat.mul_succ];omega
theorem PB{u:TUnit}(h:m8 u):(dM u).length≤2^29:=by
  rw[Bc]
  have h1:∀x,x∈bW u→(fc x).length≤600:=fun x hx=>by
    obtain⟨a,b,_⟩:=h.2 x hx
    unfold fc;rw[lA];omega
  have h2:=Ar h1
  have h3:(bW u).length=nU u:=by rw[jE];unfold cR;rw[lM]
  rw[h3]at h2
  have:=h.1
  omega
theorem ZE{e:Int}{sp:PSpot}{e2:Int}(h:(Ct e sp e2).2=0):e=0∧e2=0∧(Ct e sp e2).1=sp:=by
  unfold Ct at h ⊢
  cases h1:ak e 0 with
  |false=>rw[h1]at h;rw[show e=0 from h]at h1;cases h1
  | true=>
    rw[h1]at h
    cases h2:ak e2 0 with
    |false=>rw[h2]at h;rw[show e2=0 from h]at h2;cases h2
    |true=>exact⟨iI h1,iI h2,rfl⟩
theorem Vv{u u2:TUnit}{te:Int}{full cf:Bool}:(OY u te full cf u2).1=u∨(ak te 0=true∧full=false∧cf=false∧(OY u te full cf u2).1=u2):=by
  unfold OY;cases ak te 0<;>cases full<;>cases cf<;>first|exact .inl rfl|exact .inr ⟨rfl,rfl,rfl,rfl⟩
/-- What an outcome is known to be. -/
def Bk(u:TUnit)(d:PDeed)(v:TUnit):Prop:=OkB v∧Tl u d.act d.item d.it.kind v∧Tm u d.act d.item v
theorem Bk.refl{u:TUnit}(hu:OkB u){d:PDeed}:Bk u d u:=⟨hu,.refl ..,.refl⟩
/-- An insertion has an outcome. -/
theorem WT{u:TUnit}(hu:OkB u)(f:TUnit)(d:PDeed)(hd:vR d.it)(hg:xb d.it)(hk:d.it.kind=0):∃r:qf,kP 73 [eU u,eU f,aU d] (eS r)∧Bk u d r.1:=by
  have hw:=hg.1 (.inl hk)
  have hD:=Sp u d.it _ _ _ (by rw[hk];rfl) (Up hu d.it.at_ hd.2.1 d.it.where_ hw)
  cases he:ak (Ct (aC u d.it.at_).2 (dY d.it.where_ u (aC u d.it.at_).1).1 (dY d.it.where_ u (aC u d.it.at_).1).2).2 0 with
  |false=>exact⟨(u,_),Va u f d _ _ _ he hD,.refl hu⟩
  | true=>
    have e0:=iI he
    obtain⟨e1,e2,e3⟩:=ZE e0
    obtain⟨n,n1,n2,n3⟩:=GO hu (re e1) e2
    rw[e0,e3,n1]at hD
    have ht:=hd.2.2.2.2.2.2.2.2
    have hS:=PM d.act d.item d.it.unit (bL ht.1 (by decide)) (PB ht) (fun x hx=>⟨bL (ht.2 x hx).1 (by decide),bL (ht.2 x hx).2.1 (by decide)⟩)
    have hsn:=PN d.act d.item d.it.unit 0 0
    have hsi:=vA d.act d.item d.it.unit 0 0
    have hsw:=K6 d.act d.item 300 d.it.unit 0 0 (fun x hx=>⟨(ht.2 x hx).1,(ht.2 x hx).2.1⟩)
    have hrg:Rg d.it.unit:=Xt (by
      have z:=hg.2.1.1 hk
      unfold WR Dp kV at z
      simp only[aO]at z
      exact z.1.1.1)
    have htm:∀j,(dZ (dY d.it.where_ u (aC u d.it.at_).1).1.id u).kids.length<64→lJ (dZ (dY d.it.where_ u (aC u d.it.at_).1).1.id u) (cQ d.act d.item d.it.unit 0 0)=0→Tm u d.act d.item (bG (dY d.it.where_ u (aC u d.it.at_).1).1.id (cV j (cQ d.act d.item d.it.unit 0 0)) u):=fun j=>Xa hu hrg
    have hsm:∀S T,S d.act d.item→T d.act d.item→vg S T (cQ d.act d.item d.it.unit 0 0):=fun S T h1 h2=>F7 h1 h2 _ 0 0
    generalize cQ d.act d.item d.it.unit 0 0=X at *
    have hn:=hu.n
    have hm:=ht.1
    have hX:nU X≤2^19:=by omega
    have hkp:(dZ (dY d.it.where_ u (aC u d.it.at_).1).1.id u).kids.length<2^40:=by
      cases h:b7 (dY d.it.where_ u (aC u d.it.at_).1).1.id u with
      |true=>have:=eJ (py h).1;have:=bz (dZ (dY d.it.where_ u (aC u d.it.at_).1).1.id u);omega
      |false=>unfold dZ;rw[h];exact qQ (bP 0) (by decide)
    have hiu:(cR u).length<2^40:=by rw[←jE];omega
    have hix:(cR X).length<2^40:=by rw[←jE];omega
    refine⟨_,Vx u f _ X _ d _ n (nU u) (nU X) _ _ _ _ (cR u) (cR X) (by omega) (by omega) hD (wz hu _) hS (zQ _ X hkp) (MB u X _ (by omega) (by omega)) (E3 u (by omega)) (E3 X (by omega)) (RB u (by omega)) (RB X (by omega)) (cfX (cR X) (cR u) hiu hix) (Py _ n X u (by omega) (xK hu) n3),?_⟩
    rcases Vv (u:=u) (u2:=bG (dY d.it.where_ u (aC u d.it.at_).1).1.id (cV n X) u) (te:=lJ (dZ (dY d.it.where_ u (aC u d.it.at_).1).1.id u) X) (full:=az (ao (Int.ofNat (dZ (dY d.it.where_ u (aC u d.it.at_).1).1.id u).kids.length) 64)||(SD u (dY d.it.where_ u (aC u d.it.at_).1).1.id X||ao 1024 (Int.ofNat (nU u+nU X)))) (cf:=(cR X).any fun i=>(cR u).any (aT i))with q|⟨q0,q1,q2,q3⟩
    · rw[q];exact .refl hu
    · rw[q3]
      rw[wC,wC]at q1
      have q4:=af q1.2.2
      simp only[oN]at q4
      refine⟨hu.ins (by rw[hsi];exact PR _ _ _ _) (fun p hp hq=>?_) (by omega) hsw,⟨jR (f:=cV n X) (fun _=>rfl) u,fun S T h1 h2 hm=>nS hm fun v hv _=>Q5 (pi hm hv) (hsm S T h1 (h2 hk))⟩,htm n (by have z:=ae (Y4 q1.1);simp only[oN]at z;omega) (iI q0)⟩
      rw[List.any_eq_false]at q2
      have:=q2 p hp
      exact this (List.any_eq_true.2 ⟨p,hq,lw p⟩)
/-- A unit is taken away. -/
theorem WF{u:TUnit}(hu:OkB u){p:PId}(hp:gP p u=true):∃q i,q∈bW u∧rQ p u=ah q∧rZ p u=Int.ofNat i∧i<q.kids.length∧ah (gD q.kids i)=p∧kP 141 [eU u,aJ p] (eU (bG (ah q) (dg i) u)):=by
  obtain⟨q,i,h1,h2,h3,h4,h5⟩:=om u hp
  have hP:=ke hu p
  rw[h2,h3,hp]at hP
  exact⟨q,i,h1,h2,h3,h4,h5,yM u _ p _ i hP (Pb (ah q) i u (bL hu.n (by decide)) (xK hu) fun v hv hid=>by rw[hu.uni hv h1 ((fx _ v).1 hid)];exact h4)⟩
theorem Zt{u x:TUnit}(hu:OkB u)(d:PDeed)(hp:gP (ah x) u=true):∃r:qf,kP 74 [eU u,eU x,aU d] (eS r)∧Bk u d r.1:=by
  obtain⟨q,i,h1,h2,h3,h4,h5,h6⟩:=WF hu hp
  exact⟨_,Ud u x _ d h6,(hu.del h1 h4).1,⟨jR (f:=dg i) (fun _=>rfl) u,fun S T _ _ hm=>nS hm fun v hv _=>Q6 (pi hm hv)⟩,Pt hu h1 h4⟩
theorem EV(l:List PWord):(oh l).length≤256:=by
  unfold oh
  cases h:ao 256 (Int.ofNat l.length)with
  |true=>exact bP _
  |false=>have:=af h;simp only[oN]at this;show l.length≤256;omega
theorem QY(a b:Int)(w:List PWord)(old new:List aE)(n:Int):(qR a b w old new n).1.length≤256:=by
  unfold qR
  cases ak (Int.ofNat old.length) 0
  · cases ak (Int.ofNat (lq (rJ (aL w) old) n).length) 0
    · exact EV _
    · exact bP _
  · exact bP _
theorem Vk(a b:Int)(w:List PWord)(part new:List aE)(n:Int):(tz a b w part new n).1.length≤256:=by
  unfold tz
  cases(ak (Int.ofNat new.length) 0||(ak (Int.ofNat part.length) 0&&az (ak n 0)))
  · cases ak (Int.ofNat part.length) 0
    · cases ak (Int.ofNat (lq (rJ (aL w) part) n).length) 0
      · exact EV _
      · exact bP _
    · exact EV _
  · exact bP _
theorem uq{l:List aE}(h:kX l=true):l.length≤256:=by
  unfold kX at h
  rw[aO]at h
  have:=gL h.1
  simp only[oN]at this
  omega
theorem Lp{n:Int}(h:BL n=true):0≤n∧n≤256:=by
  unfold BL at h
  rw[aO]at h
  exact⟨gL h.1,gL h.2⟩
theorem CF{u:TUnit}(hu:OkB u)(q:PId){l:List PWord}(hl:l.length≤300):OkB (bG q (fy l) u):=hu.keep (fun _=>⟨rfl,rfl⟩) fun v hv=>⟨(hu.w v hv).1,hl⟩
theorem QG{u:TUnit}(hu:OkB u)(q:PId){l:List PWord}(hl:l.length≤300):OkB (bG q (kn l) u):=hu.keep (fun _=>⟨rfl,rfl⟩) fun v hv=>⟨hl,(hu.w v hv).2⟩
theorem N0{u:TUnit}(hu:OkB u)(q:PId)(s:aE):OkB (bG q (f9 s) u):=hu.keep (fun _=>⟨rfl,rfl⟩) fun v hv=>hu.w v hv
theorem KI{u u2:TUnit}{d:PDeed}{e:Int}(h:OkB u)(h2:Bk u d u2):Bk u d (FF u e u2).1:=by
  have h:=Bk.refl h (d:=d)
  unfold FF;cases ak e 0;exact h;exact h2
theorem ZY{u x:TUnit}(hu:OkB u)(hx:x∈bW u)(hp:gP (ah x) u=true)(d:PDeed)(hg:xb d.it)(hk:d.it.kind=2):∃r:qf,kP 75 [eU u,eU x,aU d] (eS r)∧Bk u d r.1:=by
  obtain⟨h1,h2⟩:=hg.2.2.1 (.inl hk)
  have h3:=uq h1
  have h4:=uq (hg.2.2.2 (.inl hk))
  obtain⟨h5,h6⟩:=Lp h2
  have h7:=(hu.w x hx).2
  have hR:=Ub d.act d.item x.words d.it.old d.it.new d.it.nth_ (by omega) (by omega) (by omega) h5 (by omega) (j6 h5)
  exact⟨_,TE u x _ d _ _ hR (Pj (ah x) _ u (bL hu.n (by decide)) (xK hu)),KI hu ⟨CF hu _ (bL (QY ..) (by decide)),⟨jR (f:=fy _) (fun _=>rfl) u,fun S T h1 _ hm=>nS hm fun v hv _=>GD (pi hm hv) fun w hw=>by
    rcases Cr hw with q|⟨e1,e2⟩
    · exact(hm x hx).1 w (wt _ q)
    · rw[e1,e2];exact h1⟩,FT hu hx hp (fun h=>Uc h (hg.2.2.2 (.inl hk))) QV (fun w=>Cr)⟩⟩
theorem ZC{u x:TUnit}(hu:OkB u)(hx:x∈bW u)(hp:gP (ah x) u=true)(d:PDeed)(hg:xb d.it)(hk:d.it.kind=3):∃r:qf,kP 76 [eU u,eU x,aU d] (eS r)∧Bk u d r.1:=by
  obtain⟨h1,h2⟩:=hg.2.2.1 (.inr hk)
  have h3:=uq h1
  have h4:=uq (hg.2.2.2 (.inr (.inl hk)))
  obtain⟨h5,h6⟩:=Lp h2
  have h7:=(hu.w x hx).2
  have hR:=Z7 d.act d.item x.words d.it.old d.it.new d.it.nth_ (by omega) (by omega) (by omega) h5 (by omega)
  exact⟨_,Ui u x _ d _ _ hR (Pw (ah x) _ u (bL hu.n (by decide)) (xK hu)),KI hu ⟨CF hu _ (bL (Vk ..) (by decide)),⟨jR (f:=fy _) (fun _=>rfl) u,fun S T h1 _ hm=>nS hm fun v hv _=>GD (pi hm hv) fun w hw=>by
    rcases HQ hw with q|⟨e1,e2⟩
    · exact(hm x hx).1 w (wt _ q)
    · rw[e1,e2];exact h1⟩,FT hu hx hp (fun h=>YV h (hg.2.2.2 (.inr (.inl hk)))) Vj (fun w=>HQ)⟩⟩
theorem aac{u x:TUnit}(hu:OkB u)(hx:x∈bW u)(hp:gP (ah x) u=true)(d:PDeed)(hg:xb d.it)(hk:d.it.kind=4):∃r:qf,kP 77 [eU u,eU x,aU d] (eS r)∧Bk u d r.1:=by
  have h4:=uq (hg.2.2.2 (.inr (.inr hk)))
  have hM:=ye d.it.new d.act d.item 0 (by omega) (by decide)
  exact⟨_,Vp u x _ d _ hM (Pa (ah x) _ u (bL hu.n (by decide)) (xK hu)),QG hu _ (by rw[fX];omega),⟨jR (f:=kn _) (fun _=>rfl) u,fun S T h1 _ hm=>nS hm fun v hv _=>US (pi hm hv) fun w hw=>by
    obtain⟨e1,e2⟩:=mO hw
    rw[e1,e2];exact h1⟩,TT hu hx hp (hg.2.2.2 (.inr (.inr hk)))⟩
theorem WM{u:TUnit}(hu:OkB u)(p:PId):(dZ p u).kids.length<2^40:=by
  have hn:=hu.n
  cases h:b7 p u with
  |true=>have:=eJ (py h).1;have:=bz (dZ p u);omega
  |false=>unfold dZ;rw[h];exact qQ (bP 0) (by decide)
theorem ZA{u x:TUnit}(hu:OkB u)(hx:x∈bW u)(hp:gP (ah x) u=true)(d:PDeed)(hg:xb d.it)(hk:d.it.kind=5):∃r:qf,kP 78 [eU u,eU x,aU d] (eS r)∧Bk u d r.1:=by
  refine⟨_,Uf u x _ _ d _ _ _ _ _ (ke hu (ah x)) (wz hu _) (zQ _ _ (WM hu _)) (Pk (ah x) d u (bL hu.n (by decide)) (xK hu)),?_⟩
  unfold Ug
  cases q:ak (lJ (dZ (rQ (ah x) u) u) (f9 d.it.label x)) 10
  · exact⟨N0 hu _ _,⟨jR (f:=f9 _) (fun _=>rfl) u,fun S T _ _ hm=>nS hm fun v hv _=>Q4 (pi hm hv)⟩,Ps hu hx hp (hg.2.1.2 hk) (AH q)⟩
  · exact .refl hu
theorem UO{u u2:TUnit}{d:PDeed}{te:Int}{full:Bool}(h:OkB u)(h2:ak te 0=true→full=false→Bk u d u2):Bk u d (Q2 u te full u2).1:=by
  have h:=Bk.refl h (d:=d)
  unfold Q2;revert h2;cases ak te 0<;>cases full<;>intro h2<;>first|exact h|exact h2 rfl rfl
theorem aai{e2 e3:Int}{sp:PSpot}(h:(HT 0 e2 sp e3).2=0):e2=0∧e3=0∧(HT 0 e2 sp e3).1=sp:=by
  unfold HT at h ⊢
  rw[show ak 0 0=true from rfl]at h ⊢
  simp only[cond_true]at h ⊢
  cases h1:ak e2 0 with
  |false=>rw[h1]at h;rw[show e2=0 from h]at h1;cases h1
  | true=>
    rw[h1]at h
    cases h2:ak e3 0 with
    |false=>rw[h2]at h;rw[show e3=0 from h]at h2;cases h2
    |true=>exact⟨iI h1,iI h2,rfl⟩
/-- A move has an outcome. -/
theorem Z0{u x:TUnit}(hu:OkB u)(hx:x∈bW u)(d:PDeed)(hd:vR d.it)(hg:xb d.it)(hk:d.it.kind=6)(h0:(aC u d.it.at_).2=0)(hid:(aC u d.it.at_).1=ah x)(hp:gP (ah x) u=true):∃r:qf,kP 79 [eU u,eU x,aU d] (eS r)∧Bk u d r.1:=by
  have hw:=hg.1 (.inr hk)
  have hF:=xJ hu d.it.at_ hd.2.1
  rw[h0,hid]at hF
  obtain⟨bs,hG⟩:=Yy hu (ah x) (aC u d.it.to).1 d.it.where_ hw
  obtain⟨q,i,h1,h2,h3,h4,h5,h6⟩:=WF hu hp
  have hD:=So u d.it _ _ _ _ _ _ (by rw[hk];rfl) (by rw[hk];rfl) hw hF (xJ hu d.it.to hd.2.2.1) hG
  rw[h2,h3,hp]at hD
  cases he:ak (HT 0 (aC u d.it.to).2 (oq (ah x) (aC u d.it.to).1 (ah q) (Int.ofNat i) true ((qc (aC u d.it.to).1 u).any (aT (ah x))) bs (dY d.it.where_ u (aC u d.it.to).1).1 (dY d.it.where_ u (aC u d.it.to).1).2).1 (oq (ah x) (aC u d.it.to).1 (ah q) (Int.ofNat i) true ((qc (aC u d.it.to).1 u).any (aT (ah x))) bs (dY d.it.where_ u (aC u d.it.to).1).1 (dY d.it.where_ u (aC u d.it.to).1).2).2).2 0 with
  |false=>exact⟨(u,_),UP u x d _ _ _ he hD,.refl hu⟩
  | true=>
    have e0:=iI he
    obtain⟨e1,e2,e3⟩:=aai e0
    obtain⟨n,n1,n2,n3⟩:=RN hu h1 h4 (re e1) e2
    rw[e0,e3,n1]at hD
    obtain⟨hr,hpm⟩:=hu.del h1 h4
    have hkx:gD q.kids i=x:=hu.uni (eD h1 (bX (fp h4) (bq _))) hx h5
    rw[hkx]at hpm
    have hnr:=hr.n
    have hnx:=eJ hx
    have hn:=hu.n
    refine⟨_,UN u x _ _ _ d _ _ n _ _ _ _ _ hD (ke hu (ah x)) h6 (wz hr _) (zQ _ x (WM hr _)) (MB _ x _ (by omega) (by omega)) (Pv _ n x _ (by omega) (xK hr) n3),UO hu fun t0 t1=>?_⟩
    have hnd:=tC.1 (hpm.nodup_iff.1 hu.nd)
    have hlen:=hpm.length_eq
    rw[lA,←jE,←jE,←jE]at hlen
    exact⟨hr.ins hnd.2.1 (fun p hp hq=>hnd.2.2 p hq p hp rfl) (by omega) (fun y hy=>hu.w y (eD hx hy)),⟨(jR (f:=cV _ _) (fun _=>rfl) _).trans (jR (f:=dg i) (fun _=>rfl) u),fun S T _ _ hm=>by
      have hm2:=nS (q:=ah q) (f:=dg i) hm fun v hv _=>Q6 (pi hm hv)
      exact nS hm2 fun v hv _=>Q5 (pi hm2 hv) (pi hm hx)⟩,by
      have z:=Xy (a:=d.act) (i:=d.item) (k:=n) hu h1 h4 rfl hr (UM hu h1 h4 rfl hr h2 t1) (by rw[hkx];exact iI t0)
      rw[hkx]at z;exact z⟩
/-- An item's doer. -/
theorem abc{u x:TUnit}(hu:OkB u)(hx:x∈bW u)(d:PDeed)(hd:vR d.it)(hg:xb d.it)(hk0:0≤d.it.kind)(hk6:d.it.kind≤6)(h0:(aC u d.it.at_).2=0)(hid:(aC u d.it.at_).1=ah x)(hp:gP (ah x) u=true):∃r:qf,kP (W8 d.it.kind) [eU u,eU x,aU d] (eS r)∧Bk u d r.1:=by
  have hk:d.it.kind=0∨d.it.kind=1∨d.it.kind=2∨d.it.kind=3∨d.it.kind=4∨d.it.kind=5∨d.it.kind=6:=by omega
  rcases hk with h|h|h|h|h|h|h<;>rw[h]
  · exact WT hu x d hd hg h
  · exact Zt hu d hp
  · exact ZY hu hx hp d hg h
  · exact ZC hu hx hp d hg h
  · exact aac hu hx hp d hg h
  · exact ZA hu hx hp d hg h
  · exact Z0 hu hx d hd hg h h0 hid hp
/-- An amendment has one outcome. -/
theorem Wv {u:TUnit}(hu:OkB u)(d:PDeed)(hd:vR d.it)(hk0:0≤d.it.kind)(hk6:d.it.kind≤6):∃r:qf,kP 26 [eU u,aU d] (eS r)∧Bk u d r.1:=by
  obtain⟨b,hV,hg⟩:=Xq d.it hd hk0 hk6
  have hl:=X7 d hk0 hk6
  cases b with
  |false=>exact⟨_,Wy u d _ hl hV,.refl hu⟩
  | true=>
    have hg:=hg rfl
    have hF:=xJ hu d.it.at_ hd.2.1
    cases he:ak (aC u d.it.at_).2 0 with
    |false=>exact⟨_,Wb u d _ _ _ hl hV he hF,.refl hu⟩
    | true=>
      have e0:=iI he
      have hh:=re e0
      obtain⟨hx,hxi⟩:=py hh
      rw[e0]at hF
      have hX:=wz hu (aC u d.it.at_).1
      cases hi:(ak (aC u d.it.at_).1.a u.act&&(ak (aC u d.it.at_).1.i u.item&&ak (aC u d.it.at_).1.n u.n))with
      | true=>
        cases hk:ak d.it.kind 0 with
        | true=>
          have hk:=iI hk
          obtain⟨r,h1,h2⟩:=WT hu (dZ (aC u d.it.at_).1 u) d hd hg hk
          exact⟨r,TY u _ d _ _ _ r hl hV hF hX hi (by rw[hk];rfl) (by rw[hk];exact h1),h2⟩
        |false=>exact⟨_,Wa u _ d _ _ _ _ _ hl hV hF hX hi hk (xJ hu d.it.to hd.2.2.1),.refl hu⟩
      | false=>
        have hni:fI (aC u d.it.at_).1 u=false:=by
          cases q:fI (aC u d.it.at_).1 u with
          |false=>rfl
          | true=>
            have:=(fx _ u).1 q
            rw[←this]at hi
            have e:(ak (ah u).a u.act&&(ak (ah u).i u.item&&ak (ah u).n u.n))=true:=by
              show(ak u.act u.act&&(ak u.item u.item&&ak u.n u.n))=true
              rw[ba,ba,ba];rfl
            rw[e]at hi;cases hi
        obtain⟨r,h1,h2⟩:=abc hu hx d hd hg hk0 hk6 e0 hxi.symm (by rw[hxi];exact Vs hh hni)
        exact⟨r,Wc u _ d _ _ _ r hl hV hF hX hi h1,h2⟩
theorem Tv{k:Int}(h:qe k=true):0≤k∧k≤6:=by
  unfold qe at h;rw[aO]at h;exact⟨gL h.1,gL h.2⟩
/-- What an amendment makes of a book: the one outcome there is. -/
structure AppOk(u:TUnit)(d:PDeed):Prop where
  b:OkB u
  i:vR d.it
  a:qe d.it.kind=true
theorem TK{u:TUnit}{d:PDeed}(h:AppOk u d):∃r:qf,kP 26 [eU u,aU d] (eS r)∧Bk u d r.1:=Wv h.b d h.i (Tv h.a).1 (Tv h.a).2
open Classical in
noncomputable def jG(u:TUnit)(d:PDeed):qf:=if h:AppOk u d then(TK h).choose else(u,0)
theorem FY{u:TUnit}{d:PDeed}(h:AppOk u d):kP 26 [eU u,aU d] (.tuple [eU (jG u d).1,iV (jG u d).2])∧Bk u d (jG u d).1:=by
  unfold jG;rw[dif_pos h];exact(TK h).choose_spec
theorem sU{u:TUnit}{d:PDeed}(h:AppOk u d):kP 26 [eU u,aU d] (.tuple [eU (jG u d).1,iV (jG u d).2])∧OkB (jG u d).1:=⟨(FY h).1,(FY h).2.1⟩
theorem XX(u:TUnit)(d:PDeed)(h1:OkB u)(h2:vR d.it)(h3:qe d.it.kind=true):kP 26 [eU u,aU d] (.tuple [eU (jG u d).1,iV (jG u d).2]):=(sU ⟨h1,h2,h3⟩).1
noncomputable def oc(u:TUnit)(d:PDeed):TUnit:=bif qe d.it.kind then(jG u d).1 else u
noncomputable def CS(u:TUnit)(d:PDeed):List PFail:=bif qe d.it.kind then(bif ak (jG u d).2 0 then[]else[⟨d.act,d.item,(jG u d).2⟩])else[]
theorem F4{u:TUnit}{d:PDeed}(h1:OkB u)(h2:vR d.it):OkB (oc u d):=by
  unfold oc
  cases h:qe d.it.kind with
  |false=>exact h1
  |true=>exact(sU ⟨h1,h2,h⟩).2
theorem PI{u:TUnit}{d:PDeed}(h1:OkB u)(h2:vR d.it):Tl u d.act d.item d.it.kind (oc u d)∧Tm u d.act d.item (oc u d):=by
  unfold oc
  cases h:qe d.it.kind with
  |false=>exact⟨.refl ..,.refl⟩
  |true=>exact(FY ⟨h1,h2,h⟩).2.2
noncomputable def c8:TUnit→List PDeed→TUnit
  |u,[]=>u
  |u,d::r=>c8 (oc u d) r
noncomputable def fF:TUnit→List PDeed→List PFail
  |_,[]=>[]
  |u,d::r=>CS u d++fF (oc u d) r
theorem Ik:∀{l:List PDeed}{u:TUnit},OkB u→(∀d,d∈l→vR d.it)→OkB (c8 u l)
  |[],_,h,_=>h
  |d::r,u,h,hl=>Ik (l:=r) (u:=oc u d) (F4 h (hl d (eG ..))) fun x hx=>hl x (eQ _ hx)
theorem DU:∀(l:List PDeed)(u:TUnit),(fF u l).length≤l.length
  |[],_=>an _
  | d::r,u=>by
    have:=DU r (oc u d)
    have h:(CS u d).length≤1:=by
      unfold CS
      cases qe d.it.kind<;>cases ak (jG u d).2 0<;>simp
    rw[fF,lA,lC];omega
theorem Zh{u:TUnit}{d:PDeed}{r:List PDeed}(h:qe d.it.kind=false):c8 u (d::r)=c8 u r∧fF u (d::r)=fF u r:=by
  rw[c8,fF,oc,CS,h];exact⟨rfl,rfl⟩
theorem T9{u:TUnit}{d:PDeed}{r:List PDeed}(h:qe d.it.kind=true)(h2:ak (jG u d).2 0=true):c8 u (d::r)=c8 (jG u d).1 r∧fF u (d::r)=fF (jG u d).1 r:=by
  rw[c8,fF,oc,CS,h,h2];exact⟨rfl,rfl⟩
theorem T8{u:TUnit}{d:PDeed}{r:List PDeed}(h:qe d.it.kind=true)(h2:ak (jG u d).2 0=false):c8 u (d::r)=c8 (jG u d).1 r∧fF u (d::r)=⟨d.act,d.item,(jG u d).2⟩::fF (jG u d).1 r:=by
  rw[c8,fF,oc,CS,h,h2];exact⟨rfl,rfl⟩
mutual
theorem LW:∀(u:TUnit)(deep most:Int),nQ u deep most≤most→Int.ofNat (nU u)≤nQ u deep most
  | ⟨_,_,_,_,_,_,_,kids⟩,deep,most,h=>by
    rw[nQ]at h ⊢
    cases hd:ao 20 deep with
    |true=>rw[hd]at h;simp only at h;omega
    | false=>
      rw[hd]at h
      have:=LJ kids deep most 1 h
      rw[nU]
      simp only[oN]at *
      omega
theorem LJ:∀(l:List TUnit)(deep most n:Int),nZ l deep most n≤most→n+Int.ofNat (ef l)≤nZ l deep most n
  |[],_,_,n,_=>by rw[nZ,ef];exact Int.le_of_eq (Int.add_zero n)
  | k::r,deep,most,n,h=>by
    rw[nZ]at h ⊢
    cases hd:ao most n with
    |true=>rw[hd]at h;have:=ae hd;simp only at h;omega
    | false=>
      rw[hd]at h
      have h2:=LJ r deep most _ h
      have h1:=LW k (deep+1) (most-n) (by simp only[oN]at *;omega)
      rw[ef]
      simp only[oN]at *
      omega
end
theorem GK{l:List PWord}(h:nX l=true):l.length≤300∧∀w,w∈l→w.text.length≤100:=by
  unfold nX at h
  obtain⟨h1,h2⟩:=ql.1 h
  refine⟨by have:=gL h2;simp only[oN]at this;omega,fun w hw=>?_⟩
  have:=gL (kO.1 h1 w hw)
  simp only[oN]at this;omega
theorem ID:∀(u:TUnit),lW u=true→∀x,x∈bW u→oa x:=by
  refine TUnit.ind fun u ih h x hx=>?_
  rw[Cz]at h
  simp only[aO]at h
  obtain⟨⟨⟨h0,h1⟩,h2⟩,h3⟩:=h
  rw[co]at hx
  rcases ed.1 hx with rfl|hx
  · have h0:=gL h0
    simp only[oN]at h0
    have q1:=GK h1
    have q2:=GK h2
    exact⟨q1.1,q2.1,by omega,fun w hw=>bL (q1.2 w hw) (by decide),fun w hw=>bL (q2.2 w hw) (by decide)⟩
  · obtain⟨k,hk,hx⟩:=lY hx
    exact ih k hk (kO.1 h3 k hk) x hx
theorem Yn{u:TUnit}{n:Nat}(h:Hu u (.ofNat n)=true):nU u≤n∧∀x,x∈bW u→oa x:=by
  unfold Hu at h
  obtain⟨h1,h2⟩:=ql.1 h
  refine⟨?_,ID u h2⟩
  have h3:=gL h1
  have:=LW u 0 (.ofNat n) h3
  simp only[oN]at *
  omega
theorem QF{x:PItem}(hf:nL x)(h:nl x=true):vR x:=by
  rw[EN]at h
  unfold yn at h
  simp only[aO]at h
  obtain⟨⟨⟨⟨⟨⟨⟨⟨⟨⟨a1,a2⟩,a3⟩,a4⟩,a5⟩,a6⟩,a7⟩,a8⟩,a9⟩,a10⟩,b1,b2,b3,b4,b5⟩:=h
  have a1:=gL a1
  have a2:=gL a2
  have a3:=gL a3
  have a4:=gL a4
  have a5:=gL a5
  have a6:=gL a6
  have a7:=gL a7
  simp only[oN]at a1 a2 a3 a4 a5 a6 a7
  have hs:∀{l:List aE},l.all xN=true→∀s,s∈l→s.length≤2^39:=fun h s hs=>by
    have:=gL (kO.1 h s hs);simp only[oN]at this;omega
  have ht:∀{l:List PStep},l.all xM=true→∀s,s∈l→s.label.length≤2^39:=fun h s hs=>by
    have:=gL (kO.1 h s hs);simp only[oN]at this;omega
  have hu:=Yn (n:=30) a10
  exact⟨hf,⟨by omega,ht b3⟩,⟨by omega,ht b4⟩,⟨by omega,hs b1⟩,⟨by omega,hs b2⟩,by omega,by omega,by omega,bL hu.1 (by decide),hu.2⟩
theorem JN{u v:TUnit}{l r:List PDeed}{xs:List PFail}(h:fF u l=xs++fF v r):xs.length≤l.length:=by
  grind[DU]
theorem Tx(u:TUnit)(l:List PDeed)(hu:OkB u)(hl:l.length<2^30)(ho:∀d,d∈l→vR d.it):kP 55 [eU u,.ls (l.map aU)] (.tuple [eU (c8 u l),.ls ((fF u l).map iL)]):=by
  have rr0 b' (h:((c8 u l).act)=b':=by first|(rw[hj0.2.1];rfl)|(rw[hj0.2.2];rfl)|(rw[hj0.2.2.1];rfl)|(rw[hj0.2.2.2];simp only[fF,dO])|exact aX gd _):=h;have rr1 b' (h:((c8 u l).item)=b':=by first|(rw[hj0.2.1];rfl)|(rw[hj0.2.2];rfl)|(rw[hj0.2.2.1];rfl)|(rw[hj0.2.2.2];simp only[fF,dO])|exact aX gd _):=h;have rr2 b' (h:((c8 u l).n)=b':=by first|(rw[hj0.2.1];rfl)|(rw[hj0.2.2];rfl)|(rw[hj0.2.2.1];rfl)|(rw[hj0.2.2.2];simp only[fF,dO])|exact aX gd _):=h;have rr3 b' (h:((c8 u l).kind)=b':=by first|(rw[hj0.2.1];rfl)|(rw[hj0.2.2];rfl)|(rw[hj0.2.2.1];rfl)|(rw[hj0.2.2.2];simp only[fF,dO])|exact aX gd _):=h;have rr4 b' (h:((c8 u l).label)=b':=by first|(rw[hj0.2.1];rfl)|(rw[hj0.2.2];rfl)|(rw[hj0.2.2.1];rfl)|(rw[hj0.2.2.2];simp only[fF,dO])|exact aX gd _):=h;have rr5 b' (h:(List.map aQ (c8 u l).head)=b':=by first|(rw[hj0.2.1];rfl)|(rw[hj0.2.2];rfl)|(rw[hj0.2.2.1];rfl)|(rw[hj0.2.2.2];simp only[fF,dO])|exact aX gd _):=h;have rr6 b' (h:(List.map aQ (c8 u l).words)=b':=by first|(rw[hj0.2.1];rfl)|(rw[hj0.2.2];rfl)|(rw[hj0.2.2.1];rfl)|(rw[hj0.2.2.2];simp only[fF,dO])|exact aX gd _):=h;have rr7 b' (h:(List.map aY (c8 u l).kids)=b':=by first|(rw[hj0.2.1];rfl)|(rw[hj0.2.2];rfl)|(rw[hj0.2.2.1];rfl)|(rw[hj0.2.2.2];simp only[fF,dO])|exact aX gd _):=h;have rr8 b' (h:((fF u l).map iL)=b':=by first|(rw[hj0.2.1];rfl)|(rw[hj0.2.2];rfl)|(rw[hj0.2.2.1];rfl)|(rw[hj0.2.2.2];simp only[fF,dO])|exact aX gd _):=h;exact bF Tryz.func55<|Kl 2 5 bM<|Kl 2 12 (ln aU l)<|Mg 0<|aaA TUnit Nat Nat (List PFail) aU l u [2,4,6,11,12,13] (fun a _ b=>([bK 0 0 0 0,bK 1 0 0 0,ab,aW<|l.map aU,nV l.length,nV a],[aZ 8 false 0 [aw [iV b.act,iV b.item,iV b.n,iV b.kind,aj b.label,aW<|b.head.map aQ,aW<|b.words.map aQ,aW<|b.kids.map aY]],aZ 8 false 0 [aw [iV 0,iV 0,iV 0,iV 0,aj [],ab,ab,ab]]])) (fun a _ b c e f=>([bK 0 0 0 0,bK 1 0 0 0,aN 2 c 0 e none,aW<|l.map aU,nV l.length,nV a],[aZ 8 false 0 [aw [iV b.act,iV b.item,iV b.n,iV b.kind,aj b.label,aW<|b.head.map aQ,aW<|b.words.map aQ,aW<|b.kids.map aY]],aZ 8 false 0 [aw [iV 0,iV 0,iV 0,iV 0,aj [],ab,ab,ab]],aZ 3 true c<|f.map iL])) (fun a b=>OkB b∧c8 u l=c8 b a∧fF u l=fF b a) (fun a b _ c e=>OkB b∧c=e.length∧c8 u l=c8 b a∧fF u l=e++fF b a) sA (fun _ _ a _ _ _ b hj0=>Kh 0 b<|Kl 3 5 bM<|Mf<|cH<|.cons (aR (.cons (li<|rr0 a.act)<|.cons (li<|rr1 a.item)<|.cons (li<|rr2 a.n)<|.cons (li<|rr3 a.kind)<|.cons (Le.str<|rr4 a.label)<|.cons (cJ<|rr5<|a.head.map aQ)<|.cons (cJ<|rr6<|a.words.map aQ)<|.cons (cJ<|rr7<|a.kids.map aY) .nil)<|by kernel_rfl)<|.cons (cJ<|rr8 []) .nil) (fun a _ b c _ e f g i j k _ n hj0=>have c:=ho _<|aG c j;Kt 0 k<|Mx n<|Kp 5 (KY e.it.kind)<|Kn 0 (qe e.it.kind) (fun _=>Kl 0 40 (dm a)<|K1 0 (.frz 2 [2,4,6,11,12,13]) (ct rt rt ti)<|Mf<|g b<|by grind[Zh]) fun j=>Kp 1 (XX b e sA c j)<|Kc 7 (jG b e).2 0 (fun _ _=>Kl 12 40 (dm a)<|Mg 0<|M0 (.ren [0,1,4,2,3] [] [2,4,6,11,12,13])<|M1 (.frz 3 [2,4,6,11,12,13]) (kL rt rt rt ti)<|Mf<|i (jG b e).1 0 1 [PFail.mk e.act e.item (jG b e).2]<|by exact⟨(sU ⟨hj0.1,c,by omega⟩).2,rfl,hj0.2.1.trans (T8 (by omega) (by omega)).1,hj0.2.2.trans (T8 (by omega) (by omega)).2⟩) fun _ _=>Kl 2 40 (dm a)<|K1 0 (.frz 2 [2,4,6,11,12,13]) (ct rt rt ti)<|Mf<|g (jG b e).1<|by exact⟨(sU ⟨hj0.1,c,by omega⟩).2,hj0.2.1.trans (T9 (by omega) (by omega)).1,hj0.2.2.trans (T9 (by omega) (by omega)).2⟩) (fun _ _ a b c e _ _ _ f hj0=>Kh 0 f<|Mg 3<|M2 (.fsl 2 [4] 5<|e.map iL) (ct rt rt ti) (ct (aK b) (tA iL e c (oA:(e).length=c))<|aX gd e)<|Ml 5 (fG (e.map iL) false<|aX gd e)<|Mf<|cH<|.cons (aR (.cons (li<|rr0 a.act)<|.cons (li<|rr1 a.item)<|.cons (li<|rr2 a.n)<|.cons (li<|rr3 a.kind)<|.cons (Le.str<|rr4 a.label)<|.cons (cJ<|rr5<|a.head.map aQ)<|.cons (cJ<|rr6<|a.words.map aQ)<|.cons (cJ<|rr7<|a.kids.map aY) .nil)<|by kernel_rfl)<|.cons (cJ<|rr8<|e.map iL) .nil) fun a _ b c e f g _ i j _ k n o _ p hj0=>have g:=ho _<|aG g n;Kt 0 o<|Mx p<|Kp 5 (KY i.it.kind)<|Kn 0 (qe i.it.kind) (fun _=>Kl 0 40 (dm a)<|K1 0 (.frz 3 [2,4,6,11,12,13]) (kL (tR 3 true c 3<|aX gd f) rt rt ti)<|Mf<|k b c e f<|by grind[Zh]) fun n=>Kp 1 (XX b i sA g n)<|Kc 7 (jG b i).2 0 (fun _ _=>K1 7 .app (ct (aK c) (sA:e=(f.map iL).length) (by(have z:=JN hj0.2.2.2;have z2:=hj0.2.1;refine au (m:=2^31) ?_ ?_ ?_<;>omega):small (e+1) 24=true))<|M1 (.obj 2<|aZ 3 true (c+1)<|(f++[PFail.mk i.act i.item (jG b i).2]).map iL) (congrArg (aZ 3 true<|c+1)<|cp (f:=iL) (l:=f) (ws:=[PFail.mk i.act i.item (jG b i).2]))<|Kl 3 40 (dm a)<|K1 0 (.frz 3 [2,4,6,11,12,13]) (kL (tR 3 true (c+1) 3<|aX gd<|f++[PFail.mk i.act i.item (jG b i).2]) rt rt ti)<|Mf<|k (jG b i).1 (c+1) (e+1) (f++[PFail.mk i.act i.item (jG b i).2])<|by exact⟨(sU ⟨hj0.1,g,by omega⟩).2,by simp_all,hj0.2.2.1.trans (T8 (by omega) (by omega)).1,hj0.2.2.2.trans (by grind[T8])⟩) fun _ _=>Kl 2 40 (dm a)<|K1 0 (.frz 3 [2,4,6,11,12,13]) (kL (tR 3 true c 3<|aX gd f) rt rt ti)<|Mf<|k (jG b i).1 c e f<|by exact⟨(sU ⟨hj0.1,g,by omega⟩).2,hj0.2.1,hj0.2.2.1.trans (T9 (by omega) (by omega)).1,hj0.2.2.2.trans (by grind[T9])⟩
end Go.Proofs.YtidehekfpcgelaaGreatDoor
