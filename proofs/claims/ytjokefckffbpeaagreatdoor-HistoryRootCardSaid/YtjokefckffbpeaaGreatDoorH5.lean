/- Functions walked: what each of them answers, for the law of the book's root: part 5. Conditions: those that each theorem names. -/
import Derived.Test.YtjokefckffbpeaaGreatDoorH4
namespace Go.Proofs.YtjokefckffbpeaaGreatDoor
open Go Go.Ev
noncomputable abbrev BD(l:List PWord):AObj:=.row 4 true 0 (l.map aQ)
noncomputable def EM:TypeInfo:=(Tryz.prog.info? 91).getD default
theorem EL:Tryz.prog.info? 91=some EM:=by kernel_rfl
theorem yc:EM.size=4:=by kernel_rfl
theorem wv:EM.bytes=40:=by kernel_rfl
theorem Vh(l:List PWord):dD 4 (l.map aQ)=true:=gn (fun w=>by cases w;rfl) l
/-- A copy of words: a row of its own. -/
theorem cl4(ws:List PWord)(hl:ws.length≤2^20)(a b c d:AObj):kD 49 [.ls (ws.map aQ)] (av [a,b,c,d]) (.sl0 4 0 ws.length none) (av [a,b,c,d,BD ws]):=by
  by_cases hne:ws=[]
  · subst hne
    have hE:(av [a,b,c,d]).push (BD [])=av [a,b,c,d,BD []]:=by kernel_rfl
    have h:=aH.psh (o:=BD []) (u:=.sl0 4 0 0 none) (rl [] (by omega) (av [a,b,c,d])) Ee
    simp_all
  have hn:ws.map aQ≠[]:=fun h=>hne (List.map_eq_nil_iff.1 h)
  have hf:=Vh ws
  have hsm:small (ws.map aQ).length 40=true:=by grind[aL]
  have hlen:ws.length=(ws.map aQ).length:=(b7 ..).symm
  unfold BD
  rw[hlen]
  generalize ws.map aQ=L at hn hf hsm
  refine(aH.less (Ψ:=fun v h=>v=.slice 4 0 0 L.length none∧h=av [a,b,c,d,.row 4 true 0 L]) ?_ fun v h ⟨h1,h2⟩=>⟨_,h1▸Le.sl0,rfl,h2⟩)
  refine aH.enter 2 (fn:=Tryz.f49) Tryz.func49 (by kernel_rfl) rfl ⟨by kernel_rfl,by kernel_rfl⟩ ?_
  refine ar.seq (ar.mono (DB oK iJ (ev 40) (s':=⟨eZ 8 [(0,.ls L),(2,.nils)],av [a,b,c,d]⟩) (.go 0 .fin) (by kernel_rfl)) ?_)
  rintro _ _ ⟨rfl,rfl⟩
  refine ar.seq (ar.seq (ar.mono (xS iJ (ev 40) (Ψ:=fun s=>s=⟨eZ 8 [(0,.ls L),(2,.nils),(3,.ps L false),(4,.bool false)],av [a,b,c,d]⟩) (.go 0 (.nz 3 .abs (.go 0 .fin)))
    (W:=(L=[]→False)∧(⟨eZ 8 [(0,.ls L),(2,.nils),(3,.ps L false),(4,.bool false)],av [a,b,c,d]⟩:St)=⟨eZ 8 [(0,.ls L),(2,.nils),(3,.ps L false),(4,.bool false)],av [a,b,c,d]⟩) ⟨hn,rfl⟩ (by kernel_rfl)) ?_))
  rintro _ _ ⟨rfl,rfl⟩
  refine ar.cond (t:=false) (by kernel_rfl) (fun h=>by grind) fun _=>ar.skip ?_
  refine ar.seq (ar.region ?_)
  show cw _ _ _ _ [_,_,_,_] _ _
  refine cw.one (s':=⟨eZ 8 [(0,.ls L),(2,.nils),(3,.ps L false),(4,.bool false),(5,.ps [] true)],av [a,b,c,d]⟩) (ev 40) (by kernel_rfl) ?_
  refine cw.one (s':=⟨eZ 8 [(0,.ls L),(2,.nils),(3,.ps L false),(4,.bool false),(5,.ps [] true),(6,.ls L)],av [a,b,c,d]⟩) (ev 40) (by kernel_rfl) ?_
  refine rE (I:=fun k:Nat=>k=0) (r:=fun _=>.slice 4 0 0 L.length none) (H:=fun _=>av [a,b,c,d,.row 4 true 0 L]) (by kernel_rfl)
    (fun pl M a w g1 g2 g3=>xa (z:=aQ ⟨[],0,0,0⟩) (z0:=aQ ⟨[],0,0,0⟩) (xs:=L) (t:=33) (tx:=33) (e:=91) (i:=EM) yc wv (by kernel_rfl) ⟨91,by kernel_rfl⟩ EL (by kernel_rfl) (Le.refl _) (by kernel_rfl) (by kernel_rfl) hn hf (by kernel_rfl) hsm (by omega) pl M a w g1 g2 g3) fun k _=>?_
  refine⟨eZ 8 [(0,.ls L),(2,.nils),(3,.ps L false),(4,.bool false),(5,.ps [] true),(6,.ls L),(7,.slice 4 0 0 L.length none)],by kernel_rfl,?_⟩
  refine cw.one (s':=⟨eZ 8 [(0,.ls L),(2,.slice 4 0 0 L.length none),(3,.ps L false),(4,.bool false),(5,.ps [] true),(6,.ls L),(7,.slice 4 0 0 L.length none)],av [a,b,c,d,.row 4 true 0 L]⟩) (ev 40) (by kernel_rfl) (cw.nil (ar.ret ⟨fun id h=>(by grind),.slice 4 0 0 L.length none,by kernel_rfl,by kernel_rfl,by kernel_rfl⟩))
theorem cl5(ws:List PWord)(hl:ws.length≤2^20)(a b c d e:AObj):kD 49 [.ls (ws.map aQ)] (av [a,b,c,d,e]) (.sl0 5 0 ws.length none) (av [a,b,c,d,e,BD ws]):=by
  by_cases hne:ws=[]
  · subst hne
    have hE:(av [a,b,c,d,e]).push (BD [])=av [a,b,c,d,e,BD []]:=by kernel_rfl
    have h:=aH.psh (o:=BD []) (u:=.sl0 5 0 0 none) (rl [] (by omega) (av [a,b,c,d,e])) Ee
    simp_all
  have hn:ws.map aQ≠[]:=fun h=>hne (List.map_eq_nil_iff.1 h)
  have hf:=Vh ws
  have hsm:small (ws.map aQ).length 40=true:=by grind[aL]
  have hlen:ws.length=(ws.map aQ).length:=(b7 ..).symm
  unfold BD
  rw[hlen]
  generalize ws.map aQ=L at hn hf hsm
  refine(aH.less (Ψ:=fun v h=>v=.slice 5 0 0 L.length none∧h=av [a,b,c,d,e,.row 4 true 0 L]) ?_ fun v h ⟨h1,h2⟩=>⟨_,h1▸Le.sl0,rfl,h2⟩)
  refine aH.enter 2 (fn:=Tryz.f49) Tryz.func49 (by kernel_rfl) rfl ⟨by kernel_rfl,by kernel_rfl⟩ ?_
  refine ar.seq (ar.mono (DB oK iJ (ev 40) (s':=⟨eZ 8 [(0,.ls L),(2,.nils)],av [a,b,c,d,e]⟩) (.go 0 .fin) (by kernel_rfl)) ?_)
  rintro _ _ ⟨rfl,rfl⟩
  refine ar.seq (ar.seq (ar.mono (xS iJ (ev 40) (Ψ:=fun s=>s=⟨eZ 8 [(0,.ls L),(2,.nils),(3,.ps L false),(4,.bool false)],av [a,b,c,d,e]⟩) (.go 0 (.nz 3 .abs (.go 0 .fin)))
    (W:=(L=[]→False)∧(⟨eZ 8 [(0,.ls L),(2,.nils),(3,.ps L false),(4,.bool false)],av [a,b,c,d,e]⟩:St)=⟨eZ 8 [(0,.ls L),(2,.nils),(3,.ps L false),(4,.bool false)],av [a,b,c,d,e]⟩) ⟨hn,rfl⟩ (by kernel_rfl)) ?_))
  rintro _ _ ⟨rfl,rfl⟩
  refine ar.cond (t:=false) (by kernel_rfl) (fun h=>by grind) fun _=>ar.skip ?_
  refine ar.seq (ar.region ?_)
  show cw _ _ _ _ [_,_,_,_] _ _
  refine cw.one (s':=⟨eZ 8 [(0,.ls L),(2,.nils),(3,.ps L false),(4,.bool false),(5,.ps [] true)],av [a,b,c,d,e]⟩) (ev 40) (by kernel_rfl) ?_
  refine cw.one (s':=⟨eZ 8 [(0,.ls L),(2,.nils),(3,.ps L false),(4,.bool false),(5,.ps [] true),(6,.ls L)],av [a,b,c,d,e]⟩) (ev 40) (by kernel_rfl) ?_
  refine rE (I:=fun k:Nat=>k=0) (r:=fun _=>.slice 5 0 0 L.length none) (H:=fun _=>av [a,b,c,d,e,.row 4 true 0 L]) (by kernel_rfl)
    (fun pl M a w g1 g2 g3=>xa (z:=aQ ⟨[],0,0,0⟩) (z0:=aQ ⟨[],0,0,0⟩) (xs:=L) (t:=33) (tx:=33) (e:=91) (i:=EM) yc wv (by kernel_rfl) ⟨91,by kernel_rfl⟩ EL (by kernel_rfl) (Le.refl _) (by kernel_rfl) (by kernel_rfl) hn hf (by kernel_rfl) hsm (by omega) pl M a w g1 g2 g3) fun k _=>?_
  refine⟨eZ 8 [(0,.ls L),(2,.nils),(3,.ps L false),(4,.bool false),(5,.ps [] true),(6,.ls L),(7,.slice 5 0 0 L.length none)],by kernel_rfl,?_⟩
  refine cw.one (s':=⟨eZ 8 [(0,.ls L),(2,.slice 5 0 0 L.length none),(3,.ps L false),(4,.bool false),(5,.ps [] true),(6,.ls L),(7,.slice 5 0 0 L.length none)],av [a,b,c,d,e,.row 4 true 0 L]⟩) (ev 40) (by kernel_rfl) (cw.nil (ar.ret ⟨fun id h=>(by grind),.slice 5 0 0 L.length none,by kernel_rfl,by kernel_rfl,by kernel_rfl⟩))
noncomputable abbrev Dj(u:TUnit)(k:AV):AV:=.agg [iV u.act,iV u.item,iV u.n,iV u.kind,.str u.label,.sl0 3 0 u.head.length none,.sl0 4 0 u.words.length none,k]
noncomputable abbrev UI(u:TUnit)(i j:Nat)(k:AV):AObj:=.row 8 false 0 [.agg [iV u.act,iV u.item,iV u.n,iV u.kind,.str u.label,.sl0 i 0 u.head.length none,.sl0 j 0 u.words.length none,k]]
theorem YF(u:TUnit)(hk:0<u.kids.length)(hn:nU u≤2^20)(ht:∀x,x∈bu u→x.head.length≤2^20∧x.words.length≤2^20):kC 29 [eU u] (av [wa u,wz])
    (fun v h=>∃y:Nat×Nat×List TUnit,(y.2.1=u.kids.length∧y.2.2=u.kids)∧v=Dj u (.slice 5 y.1 0 y.2.1 none)∧h=av [wa u,wz,UI u 3 4 (.slice 5 y.1 0 y.2.1 none),BD u.head,BD u.words,.row 8 true y.1 (y.2.2.map aV)]):=by
  have hkl:=bg u
  have c1:=(ht u (dl u)).1
  have c2:=(ht u (dl u)).2
  have ihk:∀k,k∈u.kids→kP 29 [eU k] (eU k):=fun k hk=>HZ k (bR (tZ (iE hk)) hn) (fun x hx=>⟨nY (ht x (bH hk hx)).1 (by omega),nY (ht x (bH hk hx)).2 (by omega)⟩)
  let q1:=[aa [iV u.act,iV u.item,iV u.n,iV u.kind,ax u.label,aW (u.head.map aQ),aW (u.words.map aQ),aW (u.kids.map aV)]];let q2:=[aa [iV 0,iV 0,iV 0,iV 0,ax [],ay,ay,ay]];let q3:=aZ 8 false 0 q2;let q4:=aZ 8 false 0 q1;let q5:=List.map aQ u.head;let q6:=aZ 4 true 0 q5;exact qY Tryz.func29 fun a=>Mg 3<|M3 (.efx true (AV.sl0 4 0 u.head.length none)<|av [aZ 8 false 0 q1,aZ 8 false 0 q2,aZ 8 false 0 q1,aZ 8 false 0 q2,aZ 4 true 0 q5]) (vG rt rt rt rt ti) (vG (aY<|some q3) (aY<|some q4) (aY<|some q3) (aY<|some q4) ti) (cl4 u.head c1 q4 q3 q4 q3)<|Mg 1<|M3 (.efx true (AV.sl0 5 0 u.words.length none)<|av [aZ 8 false 0 q1,aZ 8 false 0 q2,aZ 8 false 0 q1,aZ 8 false 0 q2,aZ 4 true 0 q5,aZ 4 true 0<|u.words.map aQ]) (re (tR 4 true 0 5<|aX iG u.head) rt rt rt rt ti) (re (aY<|some q6) (aY<|some q3) (aY<|some q4) (aY<|some q3) (aY<|some q4) ti) (cl5 u.words c2 q4 q3 q4 q3 q6)<|Kl 7 16 (ln aV u.kids)<|Mg 0<|kg Nat Nat (List TUnit) aV u.kids [1,2,3,15,16,17] (fun a _=>([bz 2 0 0 0,bz 3 0 0 0,ay,aW<|u.kids.map aV,nV u.kids.length,nV a],[aZ 8 false 0 [aa [iV u.act,iV u.item,iV u.n,iV u.kind,ax u.label,aW<|u.head.map aQ,aW<|u.words.map aQ,aW<|u.kids.map aV]],aZ 8 false 0 [aa [iV 0,iV 0,iV 0,iV 0,ax [],ay,ay,ay]],aZ 8 false 0 [aa [iV u.act,iV u.item,iV u.n,iV u.kind,ax u.label,AV.sl0 4 0 u.head.length none,AV.sl0 5 0 u.words.length none,aW<|u.kids.map aV]],aZ 8 false 0 [aa [iV 0,iV 0,iV 0,iV 0,ax [],ay,ay,ay]],aZ 4 true 0<|u.head.map aQ,aZ 4 true 0<|u.words.map aQ])) (fun a _ b c d=>([bz 2 0 0 0,bz 3 0 0 0,aD 6 b 0 c none,aW<|u.kids.map aV,nV u.kids.length,nV a],[aZ 8 false 0 [aa [iV u.act,iV u.item,iV u.n,iV u.kind,ax u.label,aW<|u.head.map aQ,aW<|u.words.map aQ,aW<|u.kids.map aV]],aZ 8 false 0 [aa [iV 0,iV 0,iV 0,iV 0,ax [],ay,ay,ay]],aZ 8 false 0 [aa [iV u.act,iV u.item,iV u.n,iV u.kind,ax u.label,AV.sl0 4 0 u.head.length none,AV.sl0 5 0 u.words.length none,aW<|u.kids.map aV]],aZ 8 false 0 [aa [iV 0,iV 0,iV 0,iV 0,ax [],ay,ay,ay]],aZ 4 true 0<|u.head.map aQ,aZ 4 true 0<|u.words.map aQ,aZ 8 true b<|d.map aV])) (fun a=>a=u.kids) (fun a _ b c=>b=c.length∧(0:Nat)<c.length∧c++a=u.kids∧c.length+a.length=u.kids.length) (by rfl) (fun _ _ _ _ _ a _=>Kh 0 a<|Mg 4<|Mw .abs (sA:False)) (fun a _ _ b c d _ e f g _ i _=>have i:=(i).trans<|congrArg some<|aR c;have b:=ca (J:=fun a _=>a=u.kids) (a:=()) f b;Kt 0 g<|Mx i<|Kp 4 (ihk c gR)<|K1 1 (.obj 7<|aZ 8 true 0<|List.map aV [c]) (congrArg (aZ 8 true 0)<|FL (f:=aV) (g:=Go.Ev.eU) (ws:=[c]) aR)<|Kl 1 26 (dc a)<|Mg 0<|Mw (.ren [0,1,2,3,4,5,7,6] [4,5,7] [1,2,3,15,16,17]<|.frz 7 [1,2,3,15,16,17] .fin)<|vG (tS 4 true 0<|aX iG u.head) (tS 4 true 0<|aX iG u.words) (tS 8 true 0<|aX iK [c]) (Z9 (tR 8 true 0 7<|aX iK [c]) (tR 4 true 0 7<|aX iG u.words) (tR 4 true 0 7<|aX iG u.head) rt rt rt rt ti)<|e 0 1 [c]<|by(refine⟨rfl,by simp,?_,?_⟩<;>(rw[←b])<;>(first|rfl|grind))) (fun _ _ b c d _ _ _ e _=>Kh 0 e<|Mg 4<|Mw (.ren [0,1,3,4,5,6,2] [4,5,6] [2]<|.frz 6 [2] .fin)<|vG (tS 4 true 0<|aX iG u.head) (tS 4 true 0<|aX iG u.words) (tS 8 true b<|aX iK d) (DI (tR 8 true b 6<|aX iK d) (tR 4 true 0 6<|aX iG u.words) (tR 4 true 0 6<|aX iG u.head) rt rt rt ti)<|a (b,c,d) sA) fun a _ b c d _ e f g _ i j l _ n _=>have n:=(n).trans<|congrArg some<|aR f;have e:=ca (J:=fun a b=>b.2.1=b.2.2.length∧(0:Nat)<b.2.2.length∧b.2.2++a=u.kids∧b.2.2.length+a.length=u.kids.length) (a:=(b,c,d)) j e;Kt 0 l<|Mx n<|Kp 4 (ihk f gR)<|K1 0 .app (bT (aY b) (sA:c=(d.map aV).length) (by(refine aL (m:=2^21) ?_ ?_ ?_<;>omega):small (c+1) 120=true))<|M1 (.obj 6<|aZ 8 true (b+1)<|(d++[f]).map aV) (congrArg (aZ 8 true<|b+1)<|yZ (f:=aV) (g:=Go.Ev.eU) (l:=d) (ws:=[f]) aR)<|Kl 1 26 (dc a)<|K1 0 (.frz 7 [1,2,3,15,16,17]) (Z9 (tR 8 true (b+1) 7<|aX iK<|d++[f]) (tR 4 true 0 7<|aX iG u.words) (tR 4 true 0 7<|aX iG u.head) rt rt rt rt ti)<|Mf<|i (b+1) (c+1) (d++[f])<|by(refine⟨by simp_all,by simp,?_,?_⟩<;>first|(rw[←e.2.2.1];simp;done)|grind)
theorem YG(u:TUnit)(hk:u.kids=[])(ht:∀x,x∈bu u→x.head.length≤2^20∧x.words.length≤2^20):kD 29 [eU u] (av [wa u,wz]) (Dj u .nils) (av [wa u,wz,UI u 3 4 .nils,BD u.head,BD u.words]):=by
  have c1:=(ht u (dl u)).1
  have c2:=(ht u (dl u)).2
  have hz:aC 0 (Int.ofNat u.kids.length)=false:=by rw[hk];rfl
  let q:=[aa [iV u.act,iV u.item,iV u.n,iV u.kind,ax u.label,aW (u.head.map aQ),aW (u.words.map aQ),aW (u.kids.map aV)]];let q1:=[aa [iV 0,iV 0,iV 0,iV 0,ax [],ay,ay,ay]];let q2:=[aZ 8 false 0 q,aZ 8 false 0 q1,aZ 8 false 0 [aa [iV u.act,iV u.item,iV u.n,iV u.kind,ax u.label,AV.sl0 4 0 u.head.length none,AV.sl0 5 0 u.words.length none,aW (u.kids.map aV)]],aZ 8 false 0 q1,aZ 4 true 0 (u.head.map aQ),aZ 4 true 0 (u.words.map aQ)];let q3:=aZ 8 false 0 q1;let q4:=aZ 8 false 0 q;let q5:=[bz 2 0 0 0,bz 3 0 0 0,ay,aW (u.kids.map aV),nV u.kids.length,iV 0];let q6:=List.map aQ u.head;let q7:=aZ 4 true 0 q6;exact ed Tryz.func29 fun a=>Mg 3<|M3 (.efx true (AV.sl0 4 0 u.head.length none)<|av [aZ 8 false 0 q,aZ 8 false 0 q1,aZ 8 false 0 q,aZ 8 false 0 q1,aZ 4 true 0 q6]) (vG rt rt rt rt ti) (vG (aY<|some q3) (aY<|some q4) (aY<|some q3) (aY<|some q4) ti) (cl4 u.head c1 q4 q3 q4 q3)<|Mg 1<|M3 (.efx true (AV.sl0 5 0 u.words.length none)<|av [aZ 8 false 0 q,aZ 8 false 0 q1,aZ 8 false 0 q,aZ 8 false 0 q1,aZ 4 true 0 q6,aZ 4 true 0<|u.words.map aQ]) (re (tR 4 true 0 5<|aX iG u.head) rt rt rt rt ti) (re (aY<|some q7) (aY<|some q3) (aY<|some q4) (aY<|some q3) (aY<|some q4) ti) (cl5 u.words c2 q4 q3 q4 q3 q7)<|Kl 7 16 (ln aV u.kids)<|Mg 0<|ZK [1,2,3,15,16,17] (q5,q2) True 0 ti fun _ _=>Kh 0 hz<|Mg 4<|M2 (.ren [0,1,3,4,5,2] [4,5] [2]) (tS 4 true 0<|aX iG u.head) (tS 4 true 0<|aX iG u.words)<|M1 (.frz 5 [2]) (re (tR 4 true 0 5<|aX iG u.words) (tR 4 true 0 5<|aX iG u.head) rt rt rt ti)<|Mf a
noncomputable abbrev Zw(ep:Nat)(l:List TUnit):AObj:=.row 8 true ep (l.map aV)
theorem KO(u:TUnit){k k':AV}(h:Le k k')(h2:cL k=true):Le (Dj u k) (Dj u k'):=aP (.cons (Le.refl _) (.cons (Le.refl _) (.cons (Le.refl _) (.cons (Le.refl _) (.cons (Le.refl _) (.cons (Le.refl _) (.cons (Le.refl _) (.cons h .nil)))))))) (by simp only[List.all_cons,List.all_nil,h2];rfl)
theorem YE(u:TUnit)(hn:nU u≤2^20)(ht:∀x,x∈bu u→x.head.length≤2^20∧x.words.length≤2^20):kC 29 [eU u] (av [wa u,wz])
    (fun v h=>∃ep:Nat,True∧v=Dj u (.sl0 5 ep u.kids.length none)∧h=av [wa u,wz,.dead,BD u.head,BD u.words,Zw ep u.kids]):=by
  rcases Nat.eq_zero_or_pos u.kids.length with hk|hk
  · have hk:=List.length_eq_zero_iff.1 hk
    refine aH.dead (i:=2) (Jg (Ψ':=fun v h=>v=Dj u (.sl0 5 0 0 none)∧h=av [wa u,wz,UI u 3 4 .nils,BD u.head,BD u.words,Zw 0 u.kids]) (Zw 0 u.kids) (YG u hk ht) fun v h' ⟨h1,h2⟩=>⟨Dj u (.sl0 5 0 0 none),h1▸KO u Le.sl0n rfl,rfl,?_⟩) (ao 2) (by omega) fun v h' ⟨h1,h2⟩=>⟨0,trivial,by simp_all,?_⟩
    · rw[h2];kernel_rfl
    · rw[h2];kernel_rfl
  · refine aH.dead (i:=2) (aH.less (Ψ':=fun v h=>∃ep:Nat,v=Dj u (.sl0 5 ep u.kids.length none)∧h=av [wa u,wz,UI u 3 4 (.slice 5 ep 0 u.kids.length none),BD u.head,BD u.words,Zw ep u.kids]) (YF u hk hn ht) fun v h' ⟨y,⟨e1,e2⟩,h1,h2⟩=>⟨Dj u (.sl0 5 y.1 u.kids.length none),?_,y.1,rfl,?_⟩) (ao 2) (by omega) fun v h' ⟨ep,h1,h2⟩=>⟨ep,trivial,h1,?_⟩
    · rw[h1,e1];exact KO u Le.sl0 rfl
    · simp_all
    · rw[h2];kernel_rfl
/-- The first 'i' elements changed by 'f'. -/
def kn{α:Type}(f:α→α)(l:List α)(i:Nat):List α:=(l.take i).map f++l.drop i
theorem vp{α:Type}{f:α→α}{l:List α}{i:Nat}:(kn f l i).length=l.length:=by
  grind[kn]
theorem vt{α:Type}{f:α→α}{l:List α}{i:Nat}(h:l.length≤i):kn f l i=l.map f:=by
  grind[kn,List.take_of_length_le]
theorem ze{α:Type}[Inhabited α]{f:α→α}{l:List α}{i:Nat}(h:i<l.length):gD (kn f l i) i=gD l i:=by
  have e:((l.take i).map f).length=i:=by grind
  simp_all[kn,gD,pA]
theorem Cv{α:Type}[Inhabited α]{f:α→α}{l:List α}{i:Nat}(h:i<l.length):(kn f l i).set i (f (gD l i))=kn f l (i+1):=by
  have e:((l.take i).map f).length=i:=by grind
  have hg:gD l i=l[i]:=by unfold gD;simp_all
  unfold kn
  rw[List.set_append_right _ _ (by omega),e,Nat.sub_self,hg,Oz h,List.set_cons_zero,Ox h,po,nw]
  rfl
theorem zd{l:List PWord}{i:Nat}(h:i<l.length):(kn gM l i).set i ⟨(gD (kn gM l i) i).text,0,0,0⟩=kn gM l (i+1):=by
  rw[ze h];exact Cv h
theorem OP:∀u:TUnit,nU u≤2^20→(∀x,x∈bu u→x.head.length≤2^20∧x.words.length≤2^20)→kP 261 [eU u] (eU (cH u)):=by
  refine TUnit.ind fun u ih hn ht=>?_
  have hkl:=bg u
  have c1:=(ht u (dl u)).1
  have c2:=(ht u (dl u)).2
  have hc:=YE u hn ht
  have ihk:∀k,k∈u.kids→kP 261 [eU k] (eU (cH k)):=fun k hk=>ih k hk (bR (tZ (iE hk)) hn) (fun x hx=>ht x (bH hk hx))
  rw[my]
  have rr0 b' (h:(List.map aQ (TUnit.mk 0 0 0 u.kind u.label (u.head.map gM) (u.words.map gM) (u.kids.map cH)).head)=b':=by(rw[hx1.2,vt (by(simp only[oN]at *;omega))];rfl)):=h;have rr1 b' (h:(List.map aQ (TUnit.mk 0 0 0 u.kind u.label (u.head.map gM) (u.words.map gM) (u.kids.map cH)).words)=b':=by(rw[hx2.2,vt (by(simp only[oN]at *;omega))];rfl)):=h;have rr2 b' (h:(List.map aV (TUnit.mk 0 0 0 u.kind u.label (u.head.map gM) (u.words.map gM) (u.kids.map cH)).kids)=b':=by(rw[hx3.2,vt (by(simp only[oN]at *;omega))];rfl)):=h;exact bI Tryz.func261<|Mg 2<|Mq hc fun a _=>Mg 10<|M0 (.un 2)<|Mg 7<|LD (0:Nat) u.head [1,2,4,15,16,17,22,23] (fun b c=>([bz 0 0 0 0,bz 1 0 0 0,AV.sl0 3 0 u.head.length none,iR [AV.sl0 3 0 u.head.length none,AV.sl0 4 0 u.words.length none] true,iV 2,iV 0,nV u.head.length,nV b],[aZ 8 false 0 [aa [iV 0,iV 0,iV 0,iV u.kind,ax u.label,AV.sl0 3 0 u.head.length none,AV.sl0 4 0 u.words.length none,AV.sl0 5 a u.kids.length none]],aZ 8 false 0 [aa [iV 0,iV 0,iV 0,iV 0,ax [],ay,ay,ay]],AObj.dead,aZ 4 true 0<|c.map aQ,aZ 4 true 0<|u.words.map aQ,aZ 8 true a<|u.kids.map aV])) (fun a b=>a≤u.head.length∧b=kn gM u.head a) (fun a _=>u.head.length-a) (by exact⟨bL _,rfl⟩) fun b c hx1 d=>have hx1:b≤u.head.length∧c=kn gM u.head b:=hx1;have:c.length=u.head.length:=(by grind[vp]);Ka 0 (Int.ofNat b) (Int.ofNat u.head.length) (fun _ _=>K1 4 .rix (et (aY 0) (sA:b<u.head.length))<|K1 0 (.rst (aQ<|gD c b)<|(c.set b<|PWord.mk (gD c b).text 0 0 0).map aQ) (bT (aY 0) (aT aQ (sA:b<(c).length))<|jt (f:=aQ) (l:=c) (i:=b) (w:=PWord.mk (gD c b).text 0 0 0))<|Kl 0 31 (iP b)<|Kf 0<|d (b+1) (c.set b<|PWord.mk (gD c b).text 0 0 0) (by grind[zd]) gR) fun _ _=>Mg 9<|LD (0:Nat) u.words [1,2,4,15,16,17,22,23] (fun b d=>([bz 0 0 0 0,bz 1 0 0 0,AV.sl0 4 0 u.words.length none,iR [AV.sl0 3 0 u.head.length none,AV.sl0 4 0 u.words.length none] true,iV 2,iV 1,nV u.words.length,nV b],[aZ 8 false 0 [aa [iV 0,iV 0,iV 0,iV u.kind,ax u.label,AV.sl0 3 0 u.head.length none,AV.sl0 4 0 u.words.length none,AV.sl0 5 a u.kids.length none]],aZ 8 false 0 [aa [iV 0,iV 0,iV 0,iV 0,ax [],ay,ay,ay]],AObj.dead,aZ 4 true 0<|c.map aQ,aZ 4 true 0<|d.map aQ,aZ 8 true a<|u.kids.map aV])) (fun a b=>a≤u.words.length∧b=kn gM u.words a) (fun a _=>u.words.length-a) (by exact⟨bL _,rfl⟩) fun b d hx2 e=>have hx2:b≤u.words.length∧d=kn gM u.words b:=hx2;have:d.length=u.words.length:=(by grind[vp]);Ka 0 (Int.ofNat b) (Int.ofNat u.words.length) (fun _ _=>K1 4 .rix (et (aY 0) (sA:b<u.words.length))<|K1 0 (.rst (aQ<|gD d b)<|(d.set b<|PWord.mk (gD d b).text 0 0 0).map aQ) (bT (aY 0) (aT aQ (sA:b<(d).length))<|jt (f:=aQ) (l:=d) (i:=b) (w:=PWord.mk (gD d b).text 0 0 0))<|Kl 0 31 (iP b)<|Kf 0<|e (b+1) (d.set b<|PWord.mk (gD d b).text 0 0 0) (by grind[zd]) gR) fun _ _=>Mg 7<|LD (0:Nat) u.kids [1,2,35,36] (fun b e=>([bz 0 0 0 0,bz 1 0 0 0,nV u.kids.length,nV b],[aZ 8 false 0 [aa [iV 0,iV 0,iV 0,iV u.kind,ax u.label,AV.sl0 3 0 u.head.length none,AV.sl0 4 0 u.words.length none,AV.sl0 5 a u.kids.length none]],aZ 8 false 0 [aa [iV 0,iV 0,iV 0,iV 0,ax [],ay,ay,ay]],AObj.dead,aZ 4 true 0<|c.map aQ,aZ 4 true 0<|d.map aQ,aZ 8 true a<|e.map aV])) (fun a b=>a≤u.kids.length∧b=kn cH u.kids a) (fun a _=>u.kids.length-a) (by exact⟨bL _,rfl⟩) fun b e hx3 f=>have hx3:b≤u.kids.length∧e=kn cH u.kids b:=hx3;have:e.length=u.kids.length:=(by grind[vp]);have g:b<u.kids.length→kP (261:FuncId) [eU (gD e b)] (eU (cH (gD e b))):=fun h=>ihk _ (by grind[ze,ib]);Ka 0 (Int.ofNat b) (Int.ofNat u.kids.length) (fun _ _=>K1 7 .rix (et (aY a) (sA:b<u.kids.length))<|Mr (et (aY a)<|rU aV (g:=Go.Ev.eU) aR (sA:b<(e).length))<|Mp (g sA)<|M1 .rix (et (aY a) (sA:b<u.kids.length))<|M3 (.rst (aa [iV (gD e b).act,iV (gD e b).item,iV (gD e b).n,iV (gD e b).kind,ax (gD e b).label,aW<|List.map aQ (gD e b).head,aW<|List.map aQ (gD e b).words,aW<|List.map aV (gD e b).kids])<|(e.set b<|cH<|gD e b).map aV) rt (hJ (tR 8 true a 6<|aX iK e) rt) (bT (aY a) (rU aV (g:=Go.Ev.eU) aR (sA:b<(e).length))<|DV (f:=aV) (g:=Go.Ev.eU) aR (l:=e) (i:=b) (w:=cH<|gD e b))<|Kl 0 49 (iP b)<|Kf 0<|f (b+1) (e.set b<|cH<|gD e b) (by grind[ze,Cv]) gR) fun _ _=>M2 (.fza 0 7 5 [1,2]<|e.map aV) (re (tR 4 true 0 5<|aX iG d) (tR 4 true 0 5<|aX iG c) rt rt rt ti) (bT (aY a) (tA aV e u.kids.length (oA:(e).length=u.kids.length))<|aX iK e)<|M2 (.fza 0 6 4 [1,2]<|d.map aQ) (vG (tR 4 true 0 4<|aX iG c) rt rt rt ti) (bT (aY 0) (tA aQ d u.words.length (oA:(d).length=u.words.length))<|aX iG d)<|M2 (.fza 0 5 3 [1,2]<|c.map aQ) (jv rt rt rt ti) (bT (aY 0) (tA aQ c u.head.length (oA:(c).length=u.head.length))<|aX iG c)<|Kf 1 (aP (lc<|lc<|lc<|lc<|lc<|.cons (cY<|rr0<|c.map aQ)<|.cons (cY<|rr1<|d.map aQ)<|.cons (cY<|rr2<|e.map aV) .nil)<|by kernel_rfl:Le _ (AV.agg [iV 0,iV 0,iV 0,iV u.kind,AV.str u.label,AV.ls (c.map aQ),AV.ls (d.map aQ),AV.ls (e.map aV)]))
theorem QZ:Go.Proofs.Builder.Extra Tryz.prog Tryz.ljoin_ren:=by
  repeat' (first|kernel_rfl|(intro w;kernel_rfl)|decide|constructor)
theorem TE(l:List aO)(sep:aO)(h1:l.length≤140737488355328)(h2:(Lib.join l sep).length≤140737488355328):kP 237 [.ls (l.map m0),.str sep] (.str (Lib.join l sep)):=Nq (Go.Proofs.enters_of Tryz.func237 (by kernel_rfl) rfl) (fun a b c d e f g h i j k=>Go.Proofs.Any.strings_Join Go.Proofs.Tryz.ljoin QZ a b c d e f g h i j k) (fun a b c d=>Go.Proofs.Any.strings_Join_none Go.Proofs.Tryz.ljoin QZ a b c d) l sep h1 h2
theorem Yd:Go.Proofs.Builder.Extra Tryz.prog Tryz.lrep_ren:=by
  repeat' (first|kernel_rfl|(intro w;kernel_rfl)|decide|constructor)
theorem V2(s:aO)(c:Nat)(h1:c≤9223372036854775807)(h2:s.length*c≤140737488355328):kP 278 [.str s,nV c] (.str (Lib.repeatL s c)):=Fv (Go.Proofs.enters_of Tryz.func278 (by kernel_rfl) rfl) (fun a b d e f=>Go.Proofs.Any.strings_Repeat Go.Proofs.Tryz.lrep Yd a b d e f) s c h1 h2
theorem Pb(s:aO)(ws:List PWord)(hw:∀w,w∈ws→1≤w.text.length∧w.text.length≤24)(hb:s.length+26*ws.length≤2^40)(hn:ws.length≤2^20):kP 280 [.str s,.ls (ws.map aQ)] (.str (mZ s ws)):=by
  have rr0 b' (h:(mZ s ws)=b':=by first|rfl|(exact hj0.1.symm)):=h;exact bI Tryz.func280<|Kl 2 8 (ln aQ ws)<|Mg 0<|VX (0:Nat) ws s [0,7,8,9] (fun a _ b=>([ax b,aW<|ws.map aQ,nV ws.length,nV a],[])) (fun a b c=>(ws).drop a=b∧mZ c b=mZ s ws∧List.length c+26*b.length≤2^40) (fun _ a _=>a.length) (et rfl<|by first|rfl|(first|simp_all|(refine⟨by(rw[←hj0.1,ou];first|rw[Ec h1]|rw[Eb h1 h2]|rw[Ea h1 h2]),?_⟩;have q:=hj0.2;simp only[lA,lC,lN]at *;omega))) fun a b c d e=>Mc b (fun a=>have b:=fY d.1 a;have hj0:=gL (J:=fun a b=>mZ b a=mZ s ws∧List.length b+26*a.length≤2^40) (a:=c) a d.2;Kh 0 b<|Kf 1<|Le.str<|rr0 c) fun b f g=>let i:=[aZ 4 false 0 [aa [ax b.text,iV b.act,iV b.item,iV b.at_]]];have j:=fm d.1 g;have:=ap j;have k:=fV (enc:=aQ) d.1 g;have hj0:=ca (J:=fun a b=>mZ b a=mZ s ws∧List.length b+26*a.length≤2^40) (a:=c) g d.2;have:=hw b<|bQ d.1 g;Kt 0 j<|Mx k<|Kv 3 (jZ (s:=c) (u:=[32]) (H:=av i) (by(first|first|assumption|omega|grind):(c).length+([32]).length≤2^62))<|K1 2 (.chr<|gD b.text 0) (zY (by first|omega|(simp only[oN,lM,lS]at *;omega)|(simp only[oN,lM,lS,lA,lR,lC,lN]at * <;>omega):0<(b.text).length))<|Kj 1 (Int.ofNat (gD b.text 0).toNat) 124 (fun j _=>Mt j<|Mt j<|Mt j<|MV j<|Kv 1 (jZ (s:=c++[32]) (u:=[92]) (H:=av i) (by(first|first|assumption|omega|grind):(c++[32]).length+([92]).length≤2^62))<|Kv 3 (jZ (s:=c++[32]++[92]) (u:=b.text) (H:=av i) (by(first|first|assumption|omega|grind):(c++[32]++[92]).length+(b.text).length≤2^62))<|Kl 1 31 (dc a)<|K1 0 (.frz 0 [0,7,8,9]) ti<|Mf<|e (a+1) f (c++[32]++[92]++b.text) (et (bW d.1 g)<|by first|exact⟨rfl,hb⟩|(refine⟨by(rw[←hj0.1,ou];first|rw[Ec j]|rw[Eb j h2]|rw[Ea j h2]),?_⟩;grind))<|du g) fun j _=>Kh 0 j<|Kh 0 j<|M1 (.chr<|gD b.text 0) (zY (by first|omega|(simp only[oN,lM,lS]at *;omega)|(simp only[oN,lM,lS,lA,lR,lC,lN]at * <;>omega):0<(b.text).length))<|Mh j<|Kw 0 j<|Mb (ah (Int.ofNat (gD b.text 0).toNat) 92) (fun k=>have:=jR k;Kv 0 (jZ (s:=c++[32]) (u:=[92]) (H:=av i) (by(first|first|assumption|omega|grind):(c++[32]).length+([92]).length≤2^62))<|Kv 3 (jZ (s:=c++[32]++[92]) (u:=b.text) (H:=av i) (by(first|first|assumption|omega|grind):(c++[32]++[92]).length+(b.text).length≤2^62))<|Kl 1 31 (dc a)<|K1 0 (.frz 0 [0,7,8,9]) ti<|Mf<|e (a+1) f (c++[32]++[92]++b.text) (et (bW d.1 g)<|by first|exact⟨rfl,hb⟩|(refine⟨by(rw[←hj0.1,ou];first|rw[Ec j]|grind[Eb]|rw[Ea j k]),?_⟩;grind))<|du g) fun k=>have:=Lw k;Kv 2 (jZ (s:=c++[32]) (u:=b.text) (H:=av i) (by(first|first|assumption|omega|grind):(c++[32]).length+(b.text).length≤2^62))<|Kl 1 31 (dc a)<|K1 0 (.frz 0 [0,7,8,9]) ti<|Mf<|e (a+1) f (c++[32]++b.text) (et (bW d.1 g)<|by first|exact⟨rfl,hb⟩|(refine⟨by(rw[←hj0.1,ou];first|rw[Ec j]|rw[Eb j k]|grind[Ea]),?_⟩;grind))<|du g
theorem sa{u:TUnit}(h:mo u):mo (cH u):=by
  obtain⟨h1,h2⟩:=L3 u
  refine⟨by rw[h1];exact h.1,fun x hx=>?_⟩
  obtain⟨y,hy,rfl⟩:=h2 x hx
  obtain⟨a,b,c,d,e⟩:=h.2 y hy
  rw[my]
  refine⟨by grind[TUnit.head],by grind[TUnit.words],c,fun w hw=>?_,fun w hw=>?_⟩
  · obtain⟨v,hv,rfl⟩:=ki.1 hw;exact d v hv
  · obtain⟨v,hv,rfl⟩:=ki.1 hw;exact e v hv
theorem BL{u:TUnit}(h:rS u):mo (tk u):=by
  have e:bu (tk u)=[tk u]:=by rw[de];exact congrArg _ fS
  refine⟨by rw[jK];exact bR (rN (congrArg (1+ ·) mU)) (by omega),fun x hx=>?_⟩
  rw[e]at hx
  rw[nj.1 hx];exact h
theorem DZ(u:TUnit)(h:mo u):kP 261 [eU u] (eU (cH u)):=
  OP u (bR h.1 (by omega)) fun x hx=>⟨bR (h.2 x hx).1 (by omega),bR (h.2 x hx).2.1 (by omega)⟩
theorem P8(u:TUnit)(d:Nat)(hd:d≤2^20)(h:rS u):kP 277 [eU u,nV d] (.bool (Dl u d)):=by
  have h1:=DZ (tk u) (BL h)
  have h2:=xD (cH (tk u)) (sa (BL h))
  have hz:=WK d
  have rr0 b' (h:(Dl u d)=b':=by first|rfl|(unfold Dl;simp only[aS,aj,bS, *];done)):=h;exact bI Tryz.func277<|Kn 13 (aC 8<|Int.ofNat d) (fun a=>Kt 0 (cS a)<|Mp (aM.onArgs (.cons (aP (lc<|lc<|lc<|lc<|lc<|lc<|lc<|.cons be .nil)<|by kernel_rfl) .nil) h1:kP 261 [aa [iV 0,iV 0,iV 0,iV u.kind,ax u.label,aW (u.head.map aQ),aW (u.words.map aQ),ay]] _)<|Mt (cS a)<|Mp h2<|MV (cS a)<|Kf 0<|ch<|rr0<|kH<|cH<|tk u) fun a=>Mh (cD a)<|Mh (cD a)<|My (cD a)<|Ky 0<|rr0 false
theorem Wb(u:TUnit)(d:Nat)(hd:d≤2^20)(h:rS u)(hm:Dl u d=false):kP 263 [eU u,nV d] (.str (gZ u d)):=by
  have h1:=P8 u d hd h
  rw[hm]at h1
  have e:gZ u d=[]:=by unfold gZ;simp_all
  rw[e]
  exact bI Tryz.func263<|Kp 3 h1<|Kf 2<|bd<|ax []
def NU(u:TUnit)(d:Nat)(z18:aO):Prop:=(z18=bif aj (ah u.kind (0:Int))then Lib.repeatL [(32:UInt8),(32:UInt8)] d++dW u.kind++([(32:UInt8)]++u.label)else Lib.repeatL [(32:UInt8),(32:UInt8)] d++dW u.kind)∧List.length z18≤(40:Nat)
noncomputable def NY(u:TUnit)(d:Nat)(z18:aO):List AV×List AObj:=([AV.ptr 0 0 0 0,AV.str z18],[AObj.row 8 false 0 [AV.agg [iV u.act,iV u.item,iV u.n,iV u.kind,AV.str u.label,AV.ls (u.head.map aQ),AV.ls (u.words.map aQ),AV.ls (u.kids.map aV)]]])
def NV(u:TUnit)(z18:aO)(z27:aO):Prop:=(z27=bif aC (0:Int) (Int.ofNat u.head.length)then mZ (z18++[(58:UInt8)]) u.head else z18)∧List.length z27≤(6700:Nat)
noncomputable def NK(u:TUnit)(z18:aO)(z27:aO):List AV×List AObj:=([AV.ptr 0 0 0 0,AV.str z27],[AObj.row 8 false 0 [AV.agg [iV u.act,iV u.item,iV u.n,iV u.kind,AV.str u.label,AV.ls (u.head.map aQ),AV.ls (u.words.map aQ),AV.ls (u.kids.map aV)]]])
theorem Wa(u:TUnit)(d:Nat)(hd:d≤2^20)(h:rS u)(hm:Dl u d=true):kP 263 [eU u,nV d] (.str (gZ u d)):=by
  have h1:=P8 u d hd h
  obtain⟨hd8,hlb,⟨hh1,hh2⟩,hw1,hw2⟩:=KF hm
  have hrl:=Lib.repeatL_length [32,32] d
  simp only[lC,lN]at hrl
  have h2:=V2 [32,32] d (by omega) (by grind)
  have hk:=wL u.kind
  have hkl:=zA u.kind
  have hp1:∀s:aO,s.length≤2^14→kP 280 [.str s,.ls (u.head.map aQ)] (.str (mZ s u.head)):=fun s hs=>Pb s u.head hh2 (by omega) (by omega)
  have hp2:∀s:aO,s.length≤2^14→kP 280 [.str s,.ls (u.words.map aQ)] (.str (mZ s u.words)):=fun s hs=>Pb s u.words hw2 (by omega) (by omega)
  rw[hm]at h1
  have rr0 b' (h:(gZ u d)=b':=by first|rfl|(unfold gZ;rw[hm];simp only[aj,cond_false];rw[←hz18.1,←hz27.1];first|(rw[h3];rfl)|(rw[h4];rfl)|(rw[h5];rfl)|(rw[h6];rfl)|(rw[h7];rfl))):=h;let q1:=[aZ 8 false 0 [aa [iV u.act,iV u.item,iV u.n,iV u.kind,ax u.label,aW (u.head.map aQ),aW (u.words.map aQ),aW (u.kids.map aV)]]];exact bI Tryz.func263<|Kp 3 h1<|Kp 2 h2<|Kp 1 hk<|Mv (jZ (s:=Lib.repeatL [32,32] d) (u:=dW u.kind) (H:=AHeap.mk 1000000 Tr.nil) (by(first|first|assumption|((try simp only[lA,lC,lN]);omega)|(simp only[lA,lC,lN]at *;omega)):(Lib.repeatL [32,32] d).length+(dW u.kind).length≤2^62))<|Mg 0<|Mj aO [2,5] (NY u d) (NU u d) (fun a=>Kn 2 (ah u.kind 0) (fun _=>Kv 2 (jZ (s:=[32]) (u:=u.label) (H:=av q1) (by(first|first|assumption|((try simp only[lA,lC,lN]);omega)|(simp only[lA,lC,lN]at *;omega)):([32]).length+(u.label).length≤2^62))<|Mv (jZ (s:=Lib.repeatL [32,32] d++dW u.kind) (u:=32::u.label) (H:=av q1) (by(first|first|assumption|((try simp only[lA,lC,lN]);omega)|(simp only[lA,lC,lN]at *;omega)):(Lib.repeatL [32,32] d++dW u.kind).length+(32::u.label).length≤2^62))<|Kf 0<|a (Lib.repeatL [32,32] d++dW u.kind++32::u.label) (by(refine⟨by first|simp_all|(rw[h2];rfl)|(rw[h3];rfl)|(rw[h0];rfl),?_⟩;grind):(Lib.repeatL [(32:UInt8),(32:UInt8)] d++dW u.kind++(32:UInt8)::u.label=bif aj (ah u.kind (0:Int))then Lib.repeatL [(32:UInt8),(32:UInt8)] d++dW u.kind++([(32:UInt8)]++u.label)else Lib.repeatL [(32:UInt8),(32:UInt8)] d++dW u.kind)∧(Lib.repeatL [(32:UInt8),(32:UInt8)] d++dW u.kind++(32:UInt8)::u.label).length≤40)) fun _=>Mf<|a (Lib.repeatL [32,32] d++dW u.kind) (by(refine⟨by first|simp_all|(rw[h2];rfl)|(rw[h3];rfl)|(rw[h0];rfl),?_⟩;grind):(Lib.repeatL [(32:UInt8),(32:UInt8)] d++dW u.kind=bif aj (ah u.kind (0:Int))then Lib.repeatL [(32:UInt8),(32:UInt8)] d++dW u.kind++([(32:UInt8)]++u.label)else Lib.repeatL [(32:UInt8),(32:UInt8)] d++dW u.kind)∧(Lib.repeatL [(32:UInt8),(32:UInt8)] d++dW u.kind).length≤40)) fun a hz18=>have hz18:(a=bif aj (ah u.kind (0:Int))then Lib.repeatL [(32:UInt8),(32:UInt8)] d++dW u.kind++([(32:UInt8)]++u.label)else Lib.repeatL [(32:UInt8),(32:UInt8)] d++dW u.kind)∧List.length a≤40:=hz18;Mj aO [2,5] (NK u a) (NV u a) (fun b=>Kl 2 26 (ln aQ u.head)<|Kb 0 (aC 0<|Int.ofNat u.head.length) (fun h3=>Kv 0 (jZ (s:=a) (u:=[58]) (H:=av q1) (by(first|first|assumption|((try simp only[lA,lC,lN]);omega)|(simp only[lA,lC,lN]at *;omega)):(a).length+([58]).length≤2^62))<|Kp 1 (hp1 (a++[58])<|by first|assumption|((try simp only[lA,lC,lN]);omega))<|Kf 0<|b (mZ (a++[58]) u.head) (by(refine⟨by first|simp_all|(rw[h2];rfl)|(rw[h4];rfl)|(rw[h5];rfl),?_⟩;first|omega|(have q:=uS (fun w hw=>(hh2 w hw).2) (a++[58]);grind)):(mZ (a++[(58:UInt8)]) u.head=bif aC (0:Int) (Int.ofNat u.head.length)then mZ (a++[(58:UInt8)]) u.head else a)∧List.length (mZ (a++[(58:UInt8)]) u.head)≤6700)) fun h3=>Mf<|b a (by(refine⟨by first|simp_all|(rw[h2];rfl)|(rw[h4];rfl)|(rw[h5];rfl),?_⟩;first|omega|(have q:=uS (fun w hw=>(hh2 w hw).2) (a++[58]);simp only[lA,lC,lN]at q;omega)):(a=bif aC (0:Int) (Int.ofNat u.head.length)then mZ (a++[(58:UInt8)]) u.head else a)∧List.length a≤6700)) fun b hz27=>have hz27:(b=bif aC (0:Int) (Int.ofNat u.head.length)then mZ (a++[(58:UInt8)]) u.head else a)∧List.length b≤6700:=hz27;Kl 2 35 (ln aQ u.words)<|Kb 0 (aC 0<|Int.ofNat u.words.length) (fun h4=>Kv 0 (jZ (s:=b) (u:=[32,124]) (H:=av q1) (by(first|first|assumption|((try simp only[lA,lC,lN]);omega)|(simp only[lA,lC,lN]at *;omega)):(b).length+([32,124]).length≤2^62))<|Kp 1 (hp2 (b++[32,124])<|by first|assumption|((try simp only[lA,lC,lN]);omega))<|Kf 2<|Le.str<|rr0<|mZ (b++[32,124]) u.words) fun h4=>Kf 1<|Le.str<|rr0 b
theorem KN(u:TUnit)(d:Nat)(hd:d≤2^20)(h:rS u):kP 263 [eU u,nV d] (.str (gZ u d)):=by
  grind[Wb,Wa]
noncomputable abbrev Hy(ep n:Nat):AObj:=.row 1 false 0 [.slice 2 ep 0 n none]
noncomputable abbrev EW:AObj:=.row 1 false 0 [.func (.func 262) [] [.ptr 0 0 0 0,.ptr 1 0 0 0]]
noncomputable abbrev BX(ep:Nat)(l:List aO):AObj:=.row 1 true ep (l.map m0)
def sI(u:TUnit)(d:Nat)(l:List aO)(x0:Nat×List TUnit×Nat×Nat×List aO):Prop:=(u.kids).drop x0.1=x0.2.1∧x0.2.2.2.1=x0.2.2.2.2.length∧x0.2.2.2.2++dK (d+(1:Nat)) x0.2.1=l++[gZ u d]++dK (d+(1:Nat)) u.kids∧x0.2.2.2.2.length+eW x0.2.1≤2^20
noncomputable def sH(u:TUnit)(d:Nat)(l:List aO)(x0:Nat×List TUnit×Nat×Nat×List aO):List AV×List AObj:=([nV d,AV.ptr 1 0 0 0,AV.ls (u.kids.map aV),nV u.kids.length,nV x0.1],[AObj.row 1 false 0 [AV.slice 2 x0.2.2.1 0 x0.2.2.2.1 none],AObj.row 1 false 0 [AV.func (Fn.func 262) [] [AV.ptr 0 0 0 0,AV.ptr 1 0 0 0]],AObj.row 1 true x0.2.2.1 (x0.2.2.2.2.map m0)])
theorem Ye:∀(u:TUnit)(d ep n:Nat)(l:List aO),n=l.length→l.length+nU u≤2^20→d+nU u≤2^20→(∀x,x∈bu u→rS x)→kC 262 [eU u,nV d,.ptr 0 0 0 0,.ptr 1 0 0 0] (av [Hy ep n,EW,BX ep l])
    (fun v h=>∃y:Nat×Nat×List aO,(y.2.1=y.2.2.length∧y.2.2=l++eV d u)∧v=.tuple []∧h=av [Hy y.1 y.2.1,EW,BX y.1 y.2.2]):=by
  refine TUnit.ind fun u ih d ep n l hn hl hd ht=>?_
  have hq:=jK u
  have hkl:=bg u
  have hf:=KN u d (by omega) (ht u (dl u))
  have ihk:∀k,k∈u.kids→∀(d ep n:Nat)(l:List aO),n=l.length→l.length+nU k≤2^20→d+nU k≤2^20→kC 262 [eU k,nV d,.ptr 0 0 0 0,.ptr 1 0 0 0] (av [Hy ep n,EW,BX ep l])
    (fun v h=>∃y:Nat×Nat×List aO,(y.2.1=y.2.2.length∧y.2.2=l++eV d k)∧v=.tuple []∧h=av [Hy y.1 y.2.1,EW,BX y.1 y.2.2]):=fun k hk d ep n l a b c=>ih k hk d ep n l a b c (fun x hx=>ht x (bH hk hx))
  exact qY Tryz.func262 fun e=>Kp 3 hf<|Mg 0<|Mw (.apx ((l++[gZ u d]).map m0)<|.go 3<|.le 16 (nV u.kids.length)<|.go 0<|.frz 3 [1,3,15,16,17]<|.loop (Nat×List TUnit×Nat×Nat×List aO) [1,3,15,16,17] (sH u d l) (sI u d l) (fun e=>e.2.1.length) (0,u.kids,(ep+1,n+1,l++[gZ u d])) fun e=>.cs TUnit e.2.1 (.go 0<|.ff .fin) fun f _=>.go 0<|.tt<|.elem (eU f)<|.go 6<|.le 24 (nV<|d+1)<|.frz 3 [1,3,15,16,17,21,22,24]<|.eff (Nat×Nat×List aO) (fun _=>bP []) (fun e=>av [Hy e.1 e.2.1,EW,BX e.1 e.2.2]) (fun g=>g.2.1=g.2.2.length∧g.2.2=e.2.2.2.2++eV (d+1) f) fun _=>.go 0<|.le 26 (nV<|e.1+1)<|.go 0 .fin)<|et9 rt (hJ (tR 1 true ep 4<|aX JW l) rt) (et (mW _ _:([ax (gZ u d)]:List AV)≠[]) rt) (et (bT (aY ep) (by first|assumption|omega|simp_all|(refine aL (m:=2^31) ?_ ?_ ?_<;>(try simp only[lM,lC,lN])<;>omega):n=(l.map m0).length) (by first|assumption|omega|(simp only[lM];omega)|(refine aL (m:=2^31) ?_ ?_ ?_<;>(try simp only[lM,lC,lN])<;>omega):small (n+([AV.str (gZ u d)]).length) 16=true))<|ce (f:=m0) (l:=l) (ws:=[gZ u d])) (ln aV u.kids) (jv (tR 1 true (ep+1) 3<|aX JW<|l++[gZ u d]) rt rt ti) (aY<|sH u d l (0,u.kids,(ep+1,n+1,l++[gZ u d]))) (et (rfl:List.drop 0 (u.kids)=u.kids) (by first|rfl|(first|grind|(have h1:=hj0.2.1;have h2:=hj0.2.2;rw[bf]at h2;rw[mq]at h1;exact⟨hy1.1,(by rw[hy1.2,←h1];simp),(by rw[hy1.2,lA,kN];omega)⟩)):(n+1=(l++[gZ u d]).length∧l++[gZ u d]++dK (d+1) u.kids=l++[gZ u d]++dK (d+1) u.kids∧(l++[gZ u d]).length+eW u.kids≤2^20))) fun(f:Nat×List TUnit×Nat×Nat×List aO)(g:(sI u d l) f)=>et (fun(i:f.2.1=[])=>have j:=fY g.1 i;have:=gL (J:=fun e f=>f.2.1=f.2.2.length∧f.2.2++dK (d+1) e=l++[gZ u d]++dK (d+1) u.kids∧f.2.2.length+eW e≤2^20) (a:=f.2.2) i g.2;et j<|e (f.2.2.1,f.2.2.2.1,f.2.2.2.2)<|by first|grind[wG,Ca]|rfl) fun(e:TUnit)(i:List TUnit)(j:f.2.1=e::i)=>have o:=fm g.1 j;have:=ap o;have p:=(fV (enc:=aV) g.1 j).trans<|congrArg some<|aR e;have:=ca (J:=fun e f=>f.2.1=f.2.2.length∧f.2.2++dK (d+1) e=l++[gZ u d]++dK (d+1) u.kids∧f.2.2.length+eW e≤2^20) (a:=f.2.2) j g.2;have q:=bQ g.1 j;have r:f.2.2.2.2.length+nU e≤2^20:=(by grind[bf]);have s:d+1+nU e≤2^20:=(by have:=iE q;omega);re o p (iP d) (jv (tR 1 true f.2.2.1 3<|aX JW f.2.2.2.2) rt rt ti) (ihk e q (d+1) f.2.2.1 f.2.2.2.1 f.2.2.2.2 (by first|assumption|omega|(simp only[lM];omega)|(refine aL (m:=2^31) ?_ ?_ ?_<;>(try simp only[lM,lC,lN])<;>omega)) r s) fun(o:Nat×Nat×List aO)(_:o.2.1=o.2.2.length∧o.2.2=f.2.2.2.2++eV (d+1) e)=>et (iP f.1)<|Nx.mk (I:=sI u d l) (m:=fun e=>e.2.1.length) (S:=sH u d l) (x:=f) (f.1+1,i,(o.1,o.2.1,o.2.2)) (et (bW g.1 j) (by first|exact⟨by simp[hn],rfl,by simp;omega⟩|grind[bf,mq,kN]:(o.2.1=o.2.2.length∧o.2.2++dK (d+1) i=l++[gZ u d]++dK (d+1) u.kids∧o.2.2.length+eW i≤2^20)))<|du j
theorem Yf(u:TUnit)(d:Nat)(hl:nU u≤2^19)(hd:d+nU u≤2^20)(ht:∀x,x∈bu u→rS x):kC 262 [eU u,nV d,.ptr 0 0 0 0,.ptr 1 0 0 0] (av [.row 1 false 0 [.nils],EW])
    (fun v h=>∃y:Nat×Nat×List aO,(y.2.1=y.2.2.length∧y.2.2=eV d u)∧v=.tuple []∧h=av [Hy y.1 y.2.1,EW,BX y.1 y.2.2]):=by
  have hq:=jK u
  have hkl:=bg u
  have hf:=KN u d (by omega) (ht u (dl u))
  have ihk:∀k,k∈u.kids→∀(d ep n:Nat)(l:List aO),n=l.length→l.length+nU k≤2^20→d+nU k≤2^20→kC 262 [eU k,nV d,.ptr 0 0 0 0,.ptr 1 0 0 0] (av [Hy ep n,EW,BX ep l])
    (fun v h=>∃y:Nat×Nat×List aO,(y.2.1=y.2.2.length∧y.2.2=l++eV d k)∧v=.tuple []∧h=av [Hy y.1 y.2.1,EW,BX y.1 y.2.2]):=fun k hk d ep n l a b c=>Ye k d ep n l a b c (fun x hx=>ht x (bH hk hx))
  exact qY Tryz.func262 fun e=>Kp 3 hf<|Kl 5 16 (ln aV u.kids)<|Mg 0<|M0 (.ren [0,1,3,2] [] [1,3,15,16,17])<|M1 (.frz 3 [1,3,15,16,17]) (jv rt rt rt ti)<|VZ aV u.kids (0:Nat) (1:Nat) ([gZ u d]:List aO) [1,3,15,16,17] (fun e _ f g i=>([nV d,bz 1 0 0 0,aW<|u.kids.map aV,nV u.kids.length,nV e],[aZ 1 false 0 [aD 2 f 0 g none],aZ 1 false 0 [bY (bV 262) [] [bz 0 0 0 0,bz 1 0 0 0]],aZ 1 true f<|i.map m0])) (fun e _ f g=>f=g.length∧g++dK (d+1) e=[gZ u d]++dK (d+1) u.kids∧g.length+eW e≤2^20) (by first|rfl|(first|grind|(have h1:=hj0.2.1;have h2:=hj0.2.2;rw[bf]at h2;rw[mq]at h1;exact⟨hy1.1,(by rw[hy1.2,←h1];simp),(by rw[hy1.2,lA,kN];omega)⟩))) (fun _ _ f g i _ _ _ j _=>Kh 0 j<|Mf<|e (f,g,i)<|by first|grind[wG,Ca]|rfl) fun e _ f g i j m o p q r s _ t _=>have t:=(t).trans<|congrArg some<|aR o;have:=ca (J:=fun e f=>f.2.1=f.2.2.length∧f.2.2++dK (d+1) e=[gZ u d]++dK (d+1) u.kids∧f.2.2.length+eW e≤2^20) (a:=(f,g,i)) r m;have j:=bQ j r;have m:i.length+nU o≤2^20:=(by grind[bf]);have r:d+1+nU o≤2^20:=(by have:=iE j;omega);Kt 0 s<|Mx t<|Kl 6 24 (iP d)<|M1 (.frz 3 [1,3,15,16,17,21,22,24]) (jv (tR 1 true f 3<|aX JW i) rt rt ti)<|Mq (ihk o j (d+1) f g i (by first|assumption|omega) m r) fun f _=>Kl 0 26 (iP e)<|Kf 0<|q f.1 f.2.1 f.2.2<|by first|exact⟨by simp[hl],rfl,by simp;omega⟩|grind[bf,mq,kN]
theorem Wy(u:TUnit)(h:mo u)(hv:kH (cH u)=false):kP 236 [eU u] (.ls (([]:List aO).map m0)):=by
  have h1:=DZ u h
  have h2:=xD (cH u) (sa h)
  exact bI Tryz.func236<|Kp 2 h1<|Mp h2<|Kt 0 (cS hv)<|Kf 0 be
theorem Wv(u:TUnit)(h:mo u)(hv:kH (cH u)=true):kP 236 [eU u] (.ls ((eV 0 u).map m0)):=by
  have h1:=DZ u h
  have h2:=xD (cH u) (sa h)
  have h3:=Yf u 0 h.1 (by have:=h.1;omega) h.2
  have rr0 b' (h:((eV 0 u).map m0)=b':=by first|rfl|(rw[hy0.2])):=h;exact bI Tryz.func236<|Kp 2 h1<|Mp h2<|Kh 0 (cD hv)<|Mg 5<|M0 (.ren [1,2,0] [] [3,10,11])<|M1 (.frz 2 [3,10,11]) (bT rt rt ti)<|Mq h3 fun a hy0=>Mg 1<|M2 (.fsl 0 [] 2<|a.2.2.map m0) ti (bT (aY a.1) (tA m0 a.2.2 a.2.1 (by first|assumption|omega:(a.2.2).length=a.2.1))<|aX JW a.2.2)<|Ml 2 (e9 (a.2.2.map m0) false<|aX JW a.2.2)<|Mf<|cY<|rr0<|a.2.2.map m0
theorem Yt(u:TUnit)(h:mo u)(hv:kH (cH u)=false):kP 214 [eU u] (.tuple [.str (xn u).1,iV (xn u).2]):=by
  have h1:=Wy u h hv
  have e:xn u=([],1):=by unfold xn;simp_all
  rw[e]
  exact bI Tryz.func214<|Kp 3 h1<|Kf 6<|bd<|bP [ax [],iV 1]
theorem Ys(u:TUnit)(h:mo u)(hv:kH (cH u)=true):kP 214 [eU u] (.tuple [.str (xn u).1,iV (xn u).2]):=by
  have h1:=Wv u h hv
  have hlen:=kN 0 u
  have hq:=jK u
  have hm:=h.1
  have hjl:=Qj (sep:=[10]) (B:=2^14) (l:=eV 0 u) (fun s hs=>zp 0 u s hs)
  rw[hlen]at hjl
  have hj2:(Lib.join (eV 0 u) [10]).length≤140737488355328:=bR hjl (bR (eu _ hm) (by grind))
  have hj3:(Lib.join (eV 0 u) [10]).length≤2^40:=bR hjl (bR (eu _ hm) (by grind))
  have hj:=TE (eV 0 u) [10] (by omega) hj2
  have hz:ah (.ofNat (eV 0 u).length) 0=false:=by grind[Rz]
  have e:xn u=(bif aC 16384 (.ofNat (Lib.join (eV 0 u) [10]++[10]).length)then([],6)else(Lib.join (eV 0 u) [10]++[10],0)):=by unfold xn;simp_all
  rw[e]
  clear e
  generalize Lib.join (eV 0 u) [10]=J at *
  cases hb:aC 16384 (.ofNat (J++[10]).length)
  · have hb2:aC 16384 (.ofNat (J++[10]).length)=false:=hb
    exact bI Tryz.func214<|Kp 3 h1<|Kl 2 9 (ln m0<|eV 0 u)<|Kh 0 hz<|Kp 0 hj<|Mv (jZ (s:=J) (u:=[10]) (H:=av [aZ 8 false 0 [aa [iV u.act,iV u.item,iV u.n,iV u.kind,ax u.label,aW<|u.head.map aQ,aW<|u.words.map aQ,aW<|u.kids.map aV]]]) (by(first|first|assumption|grind|omega|(simp only[lA,lC,lN]at *;omega)):(J).length+([10]).length≤2^62))<|Kh 3 hb<|Kf 2<|bd<|bP [ax<|J++[10],iV 0]
  · have hb2:aC 16384 (.ofNat (J++[10]).length)=true:=hb
    exact bI Tryz.func214<|Kp 3 h1<|Kl 2 9 (ln m0<|eV 0 u)<|Kh 0 hz<|Kp 0 hj<|Mv (jZ (s:=J) (u:=[10]) (H:=av [aZ 8 false 0 [aa [iV u.act,iV u.item,iV u.n,iV u.kind,ax u.label,aW<|u.head.map aQ,aW<|u.words.map aQ,aW<|u.kids.map aV]]]) (by(first|first|assumption|grind|omega|(simp only[lA,lC,lN]at *;omega)):(J).length+([10]).length≤2^62))<|Kt 3 hb<|Kf 1<|bd<|bP [ax [],iV 6]
theorem WG(u:TUnit)(h:mo u):kP 214 [eU u] (.tuple [.str (xn u).1,iV (xn u).2]):=by
  grind[Yt,Ys]
def Wg(u:TUnit):Bool:=He u&&(aj (ah u.kind 0)&&ah (xn u).2 0)
theorem Wf(u:TUnit)(h:mo u):kP 164 [eU u] (.bool (Wg u)):=by
  have q1:=WG u h
  have q2:=Xb u h
  have rr0 b' (h:(Wg u)=b':=by first|rfl|(unfold Wg;rw[h0];rfl)|(unfold Wg;rw[h0,h1];rfl)|(unfold Wg;rw[h0,h1,h2];rfl)):=h;exact bI Tryz.func164<|Kp 2 q1<|Kp 5 q2<|Kb 0 (He u) (fun h0=>Kt 0 h0<|Kt 0 h0<|Ku 0 h0<|Kn 0 (ah u.kind 0) (fun h1=>Kt 0 (cS h1)<|Ku 0 (cS h1)<|Kf 0<|ch<|rr0<|ah (xn u).2 0) fun h1=>Mh (cD h1)<|My (cD h1)<|Ky 0<|rr0 false) fun h0=>Mh h0<|Mh h0<|My h0<|Ky 2<|rr0 false
/-- What an item must be, so that the walks can count. -/
def wC(x:PItem):Prop:=nW x∧(x.at_.length<2^40∧∀s,s∈x.at_→s.label.length≤2^39)∧(x.to.length<2^40∧∀s,s∈x.to→s.label.length≤2^39)∧(x.old.length<2^40∧∀s,s∈x.old→s.length≤2^39)∧(x.new.length<2^40∧∀s,s∈x.new→s.length≤2^39)∧x.label.length≤2^39∧x.for_.length≤2^39∧x.start.event.length≤2^39∧mo x.unit
/-- What a valid item is known to be. -/
def zP(x:PItem):Prop:=(x.kind=0∨x.kind=6→ip x.where_=true)∧(x.kind=0→Wg x.unit=true)∧(x.kind=2∨x.kind=3→qa x.old=true∧Bj x.nth_=true)∧(x.kind=2∨x.kind=3∨x.kind=4→qa x.new=true)
theorem qw{l:List aO}{n:Int}(h:qv l n=true):qa l=true:=by
  simp_all[qv]
theorem VB(x:PItem)(hx:wC x)(h0:0≤x.kind)(h6:x.kind≤6):∃b,kP 113 [eI x] (.bool b)∧(b=true→zP x):=by
  obtain⟨k,a,t,w,n,u,o,ne,l,f,s,ac,im,d,e,bs⟩:=x
  obtain⟨hf,⟨ha,has⟩,⟨ht,hts⟩,⟨ho,hos⟩,⟨hn,hns⟩,hl,hfo,hse,hu⟩:=hx
  have hz:oy bc:=⟨by grind,by grind,by grind,trivial⟩
  have n0:(0:Nat)<2^60:=by omega
  obtain⟨f1,f2,f3,f4,f5,f6,f7⟩:=hf
  have hff:∀k w n,nW ⟨k,a,t,w,n,u,o,ne,l,f,s,ac,im,d,e,bs⟩:=fun _ _ _=>⟨f1,f2,f3,f4,f5,f6,f7⟩
  have h0:0≤k:=h0
  have h6:k≤6:=h6
  have hk:k=0∨k=1∨k=2∨k=3∨k=4∨k=5∨k=6:=by omega
  rcases hk with rfl|rfl|rfl|rfl|rfl|rfl|rfl
  · refine⟨_,oL ⟨0,a,t,w,n,u,o,ne,l,f,s,ac,im,d,e,bs⟩ (nT ⟨0,a,t,w,n,u,o,ne,l,f,s,ac,im,d,e,bs⟩ 0) 161 162 _ _ rfl rfl (UB _) (sP _ (hff _ _ _) (wR ⟨0,a,t,w,n,u,o,ne,l,f,s,ac,im,d,e,bs⟩ (nT ⟨0,a,t,w,n,u,o,ne,l,f,s,ac,im,d,e,bs⟩ 0)) ⟨f1,n0,n0,n0,n0,f6,trivial⟩) (Tt a t w n u o ne l f s ac im d e bs (Wg u) (Wf u hu)) ha has hfo hse,fun h=>?_⟩
    simp only[bx]at h
    exact⟨fun _=>h.2.2.2.2.1,fun _=>h.2.2.2.2.2,fun q=>(by rcases q with q|q<;>cases q),fun q=>(by rcases q with q|q|q<;>cases q)⟩
  · refine⟨_,oL ⟨1,a,t,w,n,u,o,ne,l,f,s,ac,im,d,e,bs⟩ (nT ⟨1,a,t,w,n,u,o,ne,l,f,s,ac,im,d,e,bs⟩ 1) 165 166 _ _ rfl rfl (UA _) (sP _ (hff _ _ _) (wR ⟨1,a,t,w,n,u,o,ne,l,f,s,ac,im,d,e,bs⟩ (nT ⟨1,a,t,w,n,u,o,ne,l,f,s,ac,im,d,e,bs⟩ 1)) ⟨f1,n0,n0,n0,n0,hz,trivial⟩) (Ts a t w n u o ne l f s ac im d e bs) ha has hfo hse,fun h=>?_⟩
    exact⟨fun q=>(by rcases q with q|q<;>cases q),fun q=>(by cases q),fun q=>(by rcases q with q|q<;>cases q),fun q=>(by rcases q with q|q|q<;>cases q)⟩
  · refine⟨_,oL ⟨2,a,t,w,n,u,o,ne,l,f,s,ac,im,d,e,bs⟩ (nT ⟨2,a,t,w,n,u,o,ne,l,f,s,ac,im,d,e,bs⟩ 2) 167 168 _ _ rfl rfl (Uu _) (sP _ (hff _ _ _) (wR ⟨2,a,t,w,n,u,o,ne,l,f,s,ac,im,d,e,bs⟩ (nT ⟨2,a,t,w,n,u,o,ne,l,f,s,ac,im,d,e,bs⟩ 2)) ⟨f1,n0,f3,f4,n0,hz,trivial⟩) (Tp a t w n u o ne l f s ac im d e bs ho hn hos hns) ha has hfo hse,fun h=>?_⟩
    simp only[bx]at h
    exact⟨fun q=>(by rcases q with q|q<;>cases q),fun q=>(by cases q),fun _=>⟨qw h.2.2.2.2.1,h.2.2.2.2.2.2⟩,fun _=>qw h.2.2.2.2.2.1⟩
  · refine⟨_,oL ⟨3,a,t,w,n,u,o,ne,l,f,s,ac,im,d,e,bs⟩ (nT ⟨3,a,t,w,n,u,o,ne,l,f,s,ac,im,d,e,bs⟩ 3) 171 172 _ _ rfl rfl (Ut _) (sP _ (hff _ _ _) (wR ⟨3,a,t,w,n,u,o,ne,l,f,s,ac,im,d,e,bs⟩ (nT ⟨3,a,t,w,n,u,o,ne,l,f,s,ac,im,d,e,bs⟩ 3)) ⟨f1,n0,f3,f4,n0,hz,trivial⟩) (To a t w n u o ne l f s ac im d e bs ho hn hos hns) ha has hfo hse,fun h=>?_⟩
    simp only[bx]at h
    exact⟨fun q=>(by rcases q with q|q<;>cases q),fun q=>(by cases q),fun _=>⟨qw h.2.2.2.2.1,h.2.2.2.2.2.2.1⟩,fun _=>qw h.2.2.2.2.2.1⟩
  · refine⟨_,oL ⟨4,a,t,w,n,u,o,ne,l,f,s,ac,im,d,e,bs⟩ (nT ⟨4,a,t,w,n,u,o,ne,l,f,s,ac,im,d,e,bs⟩ 4) 173 174 _ _ rfl rfl (Us _) (sP _ (hff _ _ _) (wR ⟨4,a,t,w,n,u,o,ne,l,f,s,ac,im,d,e,bs⟩ (nT ⟨4,a,t,w,n,u,o,ne,l,f,s,ac,im,d,e,bs⟩ 4)) ⟨f1,n0,n0,f4,n0,hz,trivial⟩) (Tn a t w n u o ne l f s ac im d e bs hn hns) ha has hfo hse,fun h=>?_⟩
    simp only[bx]at h
    exact⟨fun q=>(by rcases q with q|q<;>cases q),fun q=>(by cases q),fun q=>(by rcases q with q|q<;>cases q),fun _=>qw h.2.2.2.2⟩
  · refine⟨_,oL ⟨5,a,t,w,n,u,o,ne,l,f,s,ac,im,d,e,bs⟩ (nT ⟨5,a,t,w,n,u,o,ne,l,f,s,ac,im,d,e,bs⟩ 5) 175 176 _ _ rfl rfl (Ur _) (sP _ (hff _ _ _) (wR ⟨5,a,t,w,n,u,o,ne,l,f,s,ac,im,d,e,bs⟩ (nT ⟨5,a,t,w,n,u,o,ne,l,f,s,ac,im,d,e,bs⟩ 5)) ⟨f1,n0,n0,n0,n0,hz,trivial⟩) (Tm a t w n u o ne l f s ac im d e bs hl) ha has hfo hse,fun h=>?_⟩
    exact⟨fun q=>(by rcases q with q|q<;>cases q),fun q=>(by cases q),fun q=>(by rcases q with q|q<;>cases q),fun q=>(by rcases q with q|q|q<;>cases q)⟩
  · refine⟨_,oL ⟨6,a,t,w,n,u,o,ne,l,f,s,ac,im,d,e,bs⟩ (nT ⟨6,a,t,w,n,u,o,ne,l,f,s,ac,im,d,e,bs⟩ 6) 178 179 _ _ rfl rfl (Up _) (sP _ (hff _ _ _) (wR ⟨6,a,t,w,n,u,o,ne,l,f,s,ac,im,d,e,bs⟩ (nT ⟨6,a,t,w,n,u,o,ne,l,f,s,ac,im,d,e,bs⟩ 6)) ⟨f1,f2,n0,n0,n0,hz,trivial⟩) (Tl a t w n u o ne l f s ac im d e bs ht hts) ha has hfo hse,fun h=>?_⟩
    simp only[bx]at h
    exact⟨fun _=>h.2.2.2.2.1,fun q=>(by cases q),fun q=>(by rcases q with q|q<;>cases q),fun q=>(by rcases q with q|q|q<;>cases q)⟩
theorem wD{u:TUnit}(h:OkB u):∀x,x∈bu u→x.head.length<2^30∧x.words.length<2^30:=fun x hx=>⟨nY (h.w x hx).1 (by omega),nY (h.w x hx).2 (by omega)⟩
theorem Dy(p:PId)(u:TUnit)(hn:nU u≤1024): -1≤o5 p u∧o5 p u≤2^20:=by
  cases h:gC p u with
  |false=>rw[Po h];omega
  | true=>
    obtain⟨q,i,h1,_,h3,h4,_⟩:=vc u h
    have:=dO h1
    grind[bg]
theorem yX(w:Int)(u:TUnit)(p:PId)(hn:nU u≤1024): -1≤(dg w u p).1.at_∧(dg w u p).1.at_≤2^41:=by
  have hb:=Dy p u hn
  have key:∀n:Int,0≤n→n≤1→ -1≤(nD u p n).1.at_∧(nD u p n).1.at_≤2^41:=fun n h0 h1=>by
    unfold nD
    cases gC p u
    · exact⟨by show(-1:Int)≤0;omega,by show(0:Int)≤_;omega⟩
    grind
  unfold dg
  cases ah w 0
  · cases ah w 1
    · grind
    · show -1≤Int.ofNat _∧Int.ofNat _≤2^41
      have:(dh p u).kids.length≤1024:=by
        cases h:bA p u with
        | true=>
          have:=dO (sn h).1
          grind[bg]
        |false=>unfold dh;rw[h];exact bL _
      grind
  simp_all
theorem mN{u:TUnit}(hu:OkB u)(p:PId):kP 17 [eU u,aK p] (.tuple [eU (dh p u),.bool (bA p u)]):=Q5 p u (bR hu.n (by omega)) (wD hu)
theorem gg{u:TUnit}(hu:OkB u)(p:PId):kP 18 [eU u,aK p] (.tuple [aK (qe p u),iV (o5 p u),.bool (gC p u)]):=Pi p u (bR hu.n (by omega))
theorem wB{u:TUnit}(hu:OkB u)(p:List PStep)(hp:p.length<2^40∧∀s,s∈p→s.label.length≤2^39):kP 114 [eU u,.ls (p.map az)] (.tuple [aK (aF u p).1,iV (aF u p).2]):=
  Ng u p (UY u p (bR hu.n (by omega)) hp.1 hp.2) (bR hu.n (by omega))
theorem KT{u:TUnit}(hu:OkB u)(p:PId):kP 251 [eU u,aK p] (.tuple [fz (dg 0 u p).1,iV (dg 0 u p).2]):=QU u _ p _ (mN hu p)
theorem KS{u:TUnit}(hu:OkB u)(p:PId):kP 254 [eU u,aK p] (.tuple [fz (dg 1 u p).1,iV (dg 1 u p).2]):=QY u _ p _ (mN hu p)
theorem KR{u:TUnit}(hu:OkB u)(p:PId):kP 256 [eU u,aK p] (.tuple [fz (dg 2 u p).1,iV (dg 2 u p).2]):=QV u p _ _ _ (gg hu p) (by have:=Dy p u hu.n;omega)
theorem KP{u:TUnit}(hu:OkB u)(p:PId):kP 258 [eU u,aK p] (.tuple [fz (dg 3 u p).1,iV (dg 3 u p).2]):=QK u p _ _ _ (gg hu p) (by have:=Dy p u hu.n;omega)
theorem ww{w:Int}(h:ip w=true):w=0∨w=1∨w=2∨w=3:=by
  unfold ip at h
  rw[bx]at h
  have h1:=gh h.1
  have h2:=gh h.2
  omega
/-- Where a unit is inserted. -/
theorem TY{u:TUnit}(hu:OkB u)(p:List PStep)(hp:p.length<2^40∧∀s,s∈p→s.label.length≤2^39)(w:Int)(hw:ip w=true):kP 194 [eU u,.ls (p.map az),iV w]
    (.tuple [aK (B6 (aF u p).2 (dg w u (aF u p).1).1 (dg w u (aF u p).1).2).1.id,iV (B6 (aF u p).2 (dg w u (aF u p).1).1 (dg w u (aF u p).1).2).1.at_,iV (B6 (aF u p).2 (dg w u (aF u p).1).1 (dg w u (aF u p).1).2).2]):=by
  rcases ww hw with rfl|rfl|rfl|rfl
  · exact rK 0 _ rfl rfl u p _ _ _ _ (wB hu p hp) (KT hu _)
  · exact rK 1 _ rfl rfl u p _ _ _ _ (wB hu p hp) (KS hu _)
  · exact rK 2 _ rfl rfl u p _ _ _ _ (wB hu p hp) (KR hu _)
  · exact rK 3 _ rfl rfl u p _ _ _ _ (wB hu p hp) (KP hu _)
theorem WA{u:TUnit}(hu:OkB u)(p q:PId)(w:Int)(hw:ip w=true):∃bs,kP 196 [eU u,aK p,aK q,iV w]
    (.tuple [fz (nR p q (qe p u) (o5 p u) (gC p u) ((pO q u).any (bh p)) bs (dg w u q).1 (dg w u q).2).1,iV (nR p q (qe p u) (o5 p u) (gC p u) ((pO q u).any (bh p)) bs (dg w u q).1 (dg w u q).2).2]):=by
  have hb:=Dy p u hu.n
  have hb: -1≤o5 p u∧o5 p u≤2^40:=by omega
  have hn:nU u≤2^20:=bR hu.n (by omega)
  have hal:(pO q u).length<2^40:=by
    grind[mK,pO]
  have hC:=Ll (pO q u) p hal
  rcases ww hw with rfl|rfl|rfl|rfl
  · exact⟨_,Gw 0 _ rfl rfl rfl u p q _ _ _ _ _ _ _ hb (yX 0 u q hu.n) (gg hu p) (Hl q u hn) hC (KT hu q)⟩
  · exact⟨_,Gw 1 _ rfl rfl rfl u p q _ _ _ _ _ _ _ hb (yX 1 u q hu.n) (gg hu p) (Hl q u hn) hC (KS hu q)⟩
  · exact⟨_,QG u p q _ _ _ _ _ _ _ hb (yX 2 u q hu.n) (gg hu p) (Hl q u hn) hC (KR hu q)⟩
  · exact⟨_,QF u p q _ _ _ _ _ _ _ hb (yX 3 u q hu.n) (gg hu p) (Hl q u hn) hC (KP hu q)⟩
theorem Gl{B:Nat}:∀{l:List TUnit},(∀x,x∈l→(ny x).length≤B)→(l.flatMap ny).length≤B*l.length
  |[],_=>bL _
  | x::r,h=>by
    have h1:=h x eN
    have h2:=Gl (l:=r) fun y hy=>h y (fQ _ hy)
    rw[List.flatMap_cons,lA,lC,Nat.mul_succ];omega
theorem ON{u:TUnit}(h:mo u):(m8 u).length≤2^29:=by
  rw[Sz]
  have h1:∀x,x∈bu u→(ny x).length≤600:=fun x hx=>by
    obtain⟨a,b,_⟩:=h.2 x hx
    unfold ny;rw[lA];omega
  have h2:=Gl h1
  have h3:(bu u).length=nU u:=by rw[l8];unfold dw;rw[lM]
  rw[h3]at h2
  have:=h.1
  omega
theorem YJ{e:Int}{sp:PSpot}{e2:Int}(h:(B6 e sp e2).2=0):e=0∧e2=0∧(B6 e sp e2).1=sp:=by
  unfold B6 at h ⊢
  cases h1:ah e 0 with
  |false=>rw[h1]at h;rw[show e=0 from h]at h1;cases h1
  | true=>
    rw[h1]at h
    cases h2:ah e2 0 with
    |false=>rw[h2]at h;rw[show e2=0 from h]at h2;cases h2
    |true=>exact⟨jR h1,jR h2,rfl⟩
theorem TM{u u2:TUnit}{te:Int}{full cf:Bool}:(Nj u te full cf u2).1=u∨(full=false∧cf=false∧(Nj u te full cf u2).1=u2):=by
  unfold Nj;cases ah te 0<;>cases full<;>cases cf<;>first|exact .inl rfl|exact .inr ⟨rfl,rfl,rfl⟩
/-- What an outcome is known to be. -/
def Bk(u:TUnit)(d:PDeed)(v:TUnit):Prop:=OkB v∧Rt u v
theorem Bk.refl{u:TUnit}(hu:OkB u){d:PDeed}:Bk u d u:=⟨hu,rfl⟩
/-- An insertion has an outcome. -/
theorem Vg{u:TUnit}(hu:OkB u)(f:TUnit)(d:PDeed)(hd:wC d.it)(hg:zP d.it)(hk:d.it.kind=0):∃r:pR,kP 124 [eU u,eU f,aU d] (eG r)∧Bk u d r.1:=by
  have hw:=hg.1 (.inl hk)
  have hD:=Ry u d.it _ _ _ (by rw[hk];rfl) (TY hu d.it.at_ hd.2.1 d.it.where_ hw)
  cases he:ah (B6 (aF u d.it.at_).2 (dg d.it.where_ u (aF u d.it.at_).1).1 (dg d.it.where_ u (aF u d.it.at_).1).2).2 0 with
  |false=>exact⟨(u,_),TO u f d _ _ _ he hD,.refl hu⟩
  | true=>
    have e0:=jR he
    obtain⟨e1,e2,e3⟩:=YJ e0
    obtain⟨n,n1,n2,n3⟩:=FT hu (qB e1) e2
    rw[e0,e3,n1]at hD
    have ht:=hd.2.2.2.2.2.2.2.2
    have hS:=O4 d.act d.item d.it.unit (bR ht.1 (by decide)) (ON ht) (fun x hx=>⟨bR (ht.2 x hx).1 (by decide),bR (ht.2 x hx).2.1 (by decide)⟩)
    have hsn:=O5 d.act d.item d.it.unit 0 0
    have hsi:=vV d.act d.item d.it.unit 0 0
    have hsw:=JO d.act d.item 300 d.it.unit 0 0 (fun x hx=>⟨(ht.2 x hx).1,(ht.2 x hx).2.1⟩)
    generalize c9 d.act d.item d.it.unit 0 0=X at *
    have hn:=hu.n
    have hm:=ht.1
    have hX:nU X≤2^19:=by omega
    have hkp:(dh (dg d.it.where_ u (aF u d.it.at_).1).1.id u).kids.length<2^40:=by
      cases h:bA (dg d.it.where_ u (aF u d.it.at_).1).1.id u with
      |true=>have:=dO (sn h).1;have:=bg (dh (dg d.it.where_ u (aF u d.it.at_).1).1.id u);omega
      |false=>unfold dh;rw[h];exact nY (bL 0) (by decide)
    have hiu:(dw u).length<2^40:=by rw[←l8];omega
    have hix:(dw X).length<2^40:=by rw[←l8];omega
    refine⟨_,TH u f _ X _ d _ n (nU u) (nU X) _ _ _ _ (dw u) (dw X) (by omega) (by omega) hD (mN hu _) hS (yl _ X hkp) (Lb u X _ (by omega) (by omega)) (DT u (by omega)) (DT X (by omega)) (Qu u (by omega)) (Qu X (by omega)) (cfX (dw X) (dw u) hiu hix) (Od _ n X u (by omega) (wD hu) n3),?_⟩
    rcases TM (u:=u) (u2:=dV (dg d.it.where_ u (aF u d.it.at_).1).1.id (dC n X) u) (te:=ym (dh (dg d.it.where_ u (aF u d.it.at_).1).1.id u) X) (full:=aj (aC (Int.ofNat (dh (dg d.it.where_ u (aF u d.it.at_).1).1.id u).kids.length) 64)||(Rg u (dg d.it.where_ u (aF u d.it.at_).1).1.id X||aC 1024 (Int.ofNat (nU u+nU X)))) (cf:=(dw X).any fun i=>(dw u).any (bh i))with q|⟨q1,q2,q3⟩
    · rw[q];exact .refl hu
    · rw[q3]
      rw[Bo,Bo]at q1
      have q4:=aG q1.2.2
      simp only[oN]at q4
      refine⟨hu.ins (by rw[hsi];exact O7 _ _ _ _) (fun p hp hq=>?_) (by omega) hsw,J9 (f:=dC n X) (fun _=>rfl) u⟩
      rw[List.any_eq_false]at q2
      have:=q2 p hp
      exact this (List.any_eq_true.2 ⟨p,hq,jB p⟩)
/-- A unit is taken away. -/
theorem Vk{u:TUnit}(hu:OkB u){p:PId}(hp:gC p u=true):∃q i,q∈bu u∧qe p u=bJ q∧o5 p u=Int.ofNat i∧i<q.kids.length∧bJ (gD q.kids i)=p∧kP 152 [eU u,aK p] (eU (dV (bJ q) (gp i) u)):=by
  obtain⟨q,i,h1,h2,h3,h4,h5⟩:=vc u hp
  have hP:=gg hu p
  rw[h2,h3,hp]at hP
  exact⟨q,i,h1,h2,h3,h4,h5,ya u _ p _ i hP (Of (bJ q) i u (bR hu.n (by decide)) (wD hu) fun v hv hid=>by rw[hu.uni hv h1 ((gJ _ v).1 hid)];exact h4)⟩
theorem X8{u x:TUnit}(hu:OkB u)(d:PDeed)(hp:gC (bJ x) u=true):∃r:pR,kP 125 [eU u,eU x,aU d] (eG r)∧Bk u d r.1:=by
  obtain⟨q,i,h1,h2,h3,h4,h5,h6⟩:=Vk hu hp
  exact⟨_,S7 u x _ d h6,(hu.del h1 h4).1,J9 (f:=gp i) (fun _=>rfl) u⟩
theorem Dk(l:List PWord):(va l).length≤256:=by
  unfold va
  cases h:aC 256 (Int.ofNat l.length)with
  |true=>exact bL _
  |false=>have:=aG h;simp only[oN]at this;show l.length≤256;omega
theorem Px(a b:Int)(w:List PWord)(old new:List aO)(n:Int):(Fw a b w old new n).1.length≤256:=by
  unfold Fw
  cases ah (Int.ofNat old.length) 0
  · cases ah (Int.ofNat (nN (tL (b0 w) old) n).length) 0
    · exact Dk _
    · exact bL _
  · exact bL _
theorem TI(a b:Int)(w:List PWord)(part new:List aO)(n:Int):(Dt a b w part new n).1.length≤256:=by
  unfold Dt
  cases(ah (Int.ofNat new.length) 0||(ah (Int.ofNat part.length) 0&&aj (ah n 0)))
  · cases ah (Int.ofNat part.length) 0
    · cases ah (Int.ofNat (nN (tL (b0 w) part) n).length) 0
      · exact Dk _
      · exact bL _
    · exact Dk _
  · exact bL _
theorem tc{l:List aO}(h:qa l=true):l.length≤256:=by
  unfold qa at h
  rw[bx]at h
  have:=gh h.1
  simp only[oN]at this
  omega
theorem KA{n:Int}(h:Bj n=true):0≤n∧n≤256:=by
  unfold Bj at h
  rw[bx]at h
  exact⟨gh h.1,gh h.2⟩
theorem CW{u:TUnit}(hu:OkB u)(q:PId){l:List PWord}(hl:l.length≤300):OkB (dV q (mJ l) u):=hu.keep (fun _=>⟨rfl,rfl⟩) fun v hv=>⟨(hu.w v hv).1,hl⟩
theorem PO{u:TUnit}(hu:OkB u)(q:PId){l:List PWord}(hl:l.length≤300):OkB (dV q (zL l) u):=hu.keep (fun _=>⟨rfl,rfl⟩) fun v hv=>⟨hl,(hu.w v hv).2⟩
theorem M6{u:TUnit}(hu:OkB u)(q:PId)(s:aO):OkB (dV q (pU s) u):=hu.keep (fun _=>⟨rfl,rfl⟩) fun v hv=>hu.w v hv
theorem Jr{u u2:TUnit}{d:PDeed}{e:Int}(h:OkB u)(h2:Bk u d u2):Bk u d (EE u e u2).1:=by
  have h:=Bk.refl h (d:=d)
  unfold EE;cases ah e 0;exact h;exact h2
theorem Xo{u x:TUnit}(hu:OkB u)(hx:x∈bu u)(hp:gC (bJ x) u=true)(d:PDeed)(hg:zP d.it)(hk:d.it.kind=2):∃r:pR,kP 126 [eU u,eU x,aU d] (eG r)∧Bk u d r.1:=by
  obtain⟨h1,h2⟩:=hg.2.2.1 (.inl hk)
  have h3:=tc h1
  have h4:=tc (hg.2.2.2 (.inl hk))
  obtain⟨h5,h6⟩:=KA h2
  have h7:=(hu.w x hx).2
  have hR:=S6 d.act d.item x.words d.it.old d.it.new d.it.nth_ (by omega) (by omega) (by omega) h5 (by omega) (lk h5)
  exact⟨_,Sl u x _ d _ _ hR (Ov (bJ x) _ u (bR hu.n (by decide)) (wD hu)),Jr hu ⟨CW hu _ (bR (Px ..) (by decide)),J8 hp⟩⟩
theorem YX{u x:TUnit}(hu:OkB u)(hx:x∈bu u)(hp:gC (bJ x) u=true)(d:PDeed)(hg:zP d.it)(hk:d.it.kind=3):∃r:pR,kP 127 [eU u,eU x,aU d] (eG r)∧Bk u d r.1:=by
  obtain⟨h1,h2⟩:=hg.2.2.1 (.inr hk)
  have h3:=tc h1
  have h4:=tc (hg.2.2.2 (.inr (.inl hk)))
  obtain⟨h5,h6⟩:=KA h2
  have h7:=(hu.w x hx).2
  have hR:=Yg d.act d.item x.words d.it.old d.it.new d.it.nth_ (by omega) (by omega) (by omega) h5 (by omega)
  exact⟨_,TX u x _ d _ _ hR (Oa (bJ x) _ u (bR hu.n (by decide)) (wD hu)),Jr hu ⟨CW hu _ (bR (TI ..) (by decide)),J8 hp⟩⟩
theorem Yp{u x:TUnit}(hu:OkB u)(hp:gC (bJ x) u=true)(d:PDeed)(hg:zP d.it)(hk:d.it.kind=4):∃r:pR,kP 128 [eU u,eU x,aU d] (eG r)∧Bk u d r.1:=by
  have h4:=tc (hg.2.2.2 (.inr (.inr hk)))
  have hM:=yQ d.it.new d.act d.item 0 (by omega) (by decide)
  exact⟨_,T6 u x _ d _ hM (Oe (bJ x) _ u (bR hu.n (by decide)) (wD hu)),PO hu _ (by rw[fT];omega),J8 hp⟩
theorem Vc{u:TUnit}(hu:OkB u)(p:PId):(dh p u).kids.length<2^40:=by
  have hn:=hu.n
  cases h:bA p u with
  |true=>have:=dO (sn h).1;have:=bg (dh p u);omega
  |false=>unfold dh;rw[h];exact nY (bL 0) (by decide)
theorem YQ{u x:TUnit}(hu:OkB u)(hp:gC (bJ x) u=true)(d:PDeed):∃r:pR,kP 129 [eU u,eU x,aU d] (eG r)∧Bk u d r.1:=by
  refine⟨_,S9 u x _ _ d _ _ _ _ _ (gg hu (bJ x)) (mN hu _) (yl _ _ (Vc hu _)) (Oy (bJ x) d u (bR hu.n (by decide)) (wD hu)),?_⟩
  unfold TQ
  cases ah (ym (dh (qe (bJ x) u) u) (pU d.it.label x)) 10
  · exact⟨M6 hu _ _,J8 hp⟩
  · exact .refl hu
theorem Tc{u u2:TUnit}{d:PDeed}{te:Int}{full:Bool}(h:OkB u)(h2:Bk u d u2):Bk u d (P6 u te full u2).1:=by
  have h:=Bk.refl h (d:=d)
  unfold P6;cases ah te 0<;>cases full<;>first|exact h|exact h2
theorem YC{e2 e3:Int}{sp:PSpot}(h:(G5 0 e2 sp e3).2=0):e2=0∧e3=0∧(G5 0 e2 sp e3).1=sp:=by
  unfold G5 at h ⊢
  rw[show ah 0 0=true from rfl]at h ⊢
  simp only[cond_true]at h ⊢
  cases h1:ah e2 0 with
  |false=>rw[h1]at h;rw[show e2=0 from h]at h1;cases h1
  | true=>
    rw[h1]at h
    cases h2:ah e3 0 with
    |false=>rw[h2]at h;rw[show e3=0 from h]at h2;cases h2
    |true=>exact⟨jR h1,jR h2,rfl⟩
/-- A move has an outcome. -/
theorem Yy{u x:TUnit}(hu:OkB u)(hx:x∈bu u)(d:PDeed)(hd:wC d.it)(hg:zP d.it)(hk:d.it.kind=6)(h0:(aF u d.it.at_).2=0)(hid:(aF u d.it.at_).1=bJ x)(hp:gC (bJ x) u=true):∃r:pR,kP 130 [eU u,eU x,aU d] (eG r)∧Bk u d r.1:=by
  have hw:=hg.1 (.inr hk)
  have hF:=wB hu d.it.at_ hd.2.1
  rw[h0,hid]at hF
  obtain⟨bs,hG⟩:=WA hu (bJ x) (aF u d.it.to).1 d.it.where_ hw
  obtain⟨q,i,h1,h2,h3,h4,h5,h6⟩:=Vk hu hp
  have hD:=Rv u d.it _ _ _ _ _ _ (by rw[hk];rfl) (by rw[hk];rfl) hw hF (wB hu d.it.to hd.2.2.1) hG
  rw[h2,h3,hp]at hD
  cases he:ah (G5 0 (aF u d.it.to).2 (nR (bJ x) (aF u d.it.to).1 (bJ q) (Int.ofNat i) true ((pO (aF u d.it.to).1 u).any (bh (bJ x))) bs (dg d.it.where_ u (aF u d.it.to).1).1 (dg d.it.where_ u (aF u d.it.to).1).2).1 (nR (bJ x) (aF u d.it.to).1 (bJ q) (Int.ofNat i) true ((pO (aF u d.it.to).1 u).any (bh (bJ x))) bs (dg d.it.where_ u (aF u d.it.to).1).1 (dg d.it.where_ u (aF u d.it.to).1).2).2).2 0 with
  |false=>exact⟨(u,_),Td u x d _ _ _ he hD,.refl hu⟩
  | true=>
    have e0:=jR he
    obtain⟨e1,e2,e3⟩:=YC e0
    obtain⟨n,n1,n2,n3⟩:=QE hu h1 h4 (qB e1) e2
    rw[e0,e3,n1]at hD
    obtain⟨hr,hpm⟩:=hu.del h1 h4
    have hkx:gD q.kids i=x:=hu.uni (i9 h1 (bH (ib h4) (dl _))) hx h5
    rw[hkx]at hpm
    have hnr:=hr.n
    have hnx:=dO hx
    have hn:=hu.n
    refine⟨_,Tb u x _ _ _ d _ _ n _ _ _ _ _ hD (gg hu (bJ x)) h6 (mN hr _) (yl _ x (Vc hr _)) (Lb _ x _ (by omega) (by omega)) (Ob _ n x _ (by omega) (wD hr) n3),Tc hu ?_⟩
    have hnd:=List.nodup_append.1 (hpm.nodup_iff.1 hu.nd)
    have hlen:=hpm.length_eq
    rw[lA,←l8,←l8,←l8]at hlen
    exact⟨hr.ins hnd.2.1 (fun p hp hq=>hnd.2.2 p hq p hp rfl) (by omega) (fun y hy=>hu.w y (i9 hx hy)),(J9 (f:=dC _ _) (fun _=>rfl) _).trans (J9 (f:=gp i) (fun _=>rfl) u)⟩
/-- An item's doer. -/
theorem ZI{u x:TUnit}(hu:OkB u)(hx:x∈bu u)(d:PDeed)(hd:wC d.it)(hg:zP d.it)(hk0:0≤d.it.kind)(hk6:d.it.kind≤6)(h0:(aF u d.it.at_).2=0)(hid:(aF u d.it.at_).1=bJ x)(hp:gC (bJ x) u=true):∃r:pR,kP (Vm d.it.kind) [eU u,eU x,aU d] (eG r)∧Bk u d r.1:=by
  have hk:d.it.kind=0∨d.it.kind=1∨d.it.kind=2∨d.it.kind=3∨d.it.kind=4∨d.it.kind=5∨d.it.kind=6:=by omega
  rcases hk with h|h|h|h|h|h|h<;>rw[h]
  · exact Vg hu x d hd hg h
  · exact X8 hu d hp
  · exact Xo hu hx hp d hg h
  · exact YX hu hx hp d hg h
  · exact Yp hu hp d hg h
  · exact YQ hu hp d
  · exact Yy hu hx d hd hg h h0 hid hp
/-- An amendment has one outcome. -/
theorem UR {u:TUnit}(hu:OkB u)(d:PDeed)(hd:wC d.it)(hk0:0≤d.it.kind)(hk6:d.it.kind≤6):∃r:pR,kP 97 [eU u,aU d] (eG r)∧Bk u d r.1:=by
  obtain⟨b,hV,hg⟩:=VB d.it hd hk0 hk6
  have hl:=Ww d hk0 hk6
  cases b with
  |false=>exact⟨_,US u d _ hl hV,.refl hu⟩
  | true=>
    have hg:=hg rfl
    have hF:=wB hu d.it.at_ hd.2.1
    cases he:ah (aF u d.it.at_).2 0 with
    |false=>exact⟨_,U0 u d _ _ _ hl hV he hF,.refl hu⟩
    | true=>
      have e0:=jR he
      have hh:=qB e0
      obtain⟨hx,hxi⟩:=sn hh
      rw[e0]at hF
      have hX:=mN hu (aF u d.it.at_).1
      cases hi:(ah (aF u d.it.at_).1.a u.act&&(ah (aF u d.it.at_).1.i u.item&&ah (aF u d.it.at_).1.n u.n))with
      | true=>
        cases hk:ah d.it.kind 0 with
        | true=>
          have hk:=jR hk
          obtain⟨r,h1,h2⟩:=Vg hu (dh (aF u d.it.at_).1 u) d hd hg hk
          exact⟨r,R8 u _ d _ _ _ r hl hV hF hX hi (by rw[hk];rfl) (by rw[hk];exact h1),h2⟩
        |false=>exact⟨_,UT u _ d _ _ _ _ _ hl hV hF hX hi hk (wB hu d.it.to hd.2.2.1),.refl hu⟩
      | false=>
        have hni:fE (aF u d.it.at_).1 u=false:=by
          cases q:fE (aF u d.it.at_).1 u with
          |false=>rfl
          | true=>
            have:=(gJ _ u).1 q
            rw[←this]at hi
            have e:(ah (bJ u).a u.act&&(ah (bJ u).i u.item&&ah (bJ u).n u.n))=true:=by
              show(ah u.act u.act&&(ah u.item u.item&&ah u.n u.n))=true
              rw[bq,bq,bq];rfl
            rw[e]at hi;cases hi
        obtain⟨r,h1,h2⟩:=ZI hu hx d hd hg hk0 hk6 e0 hxi.symm (by rw[hxi];exact T8 hh hni)
        exact⟨r,U1 u _ d _ _ _ r hl hV hF hX hi h1,h2⟩
theorem SY{k:Int}(h:pP k=true):0≤k∧k≤6:=by
  unfold pP at h;rw[bx]at h;exact⟨gh h.1,gh h.2⟩
/-- What an amendment makes of a book: the one outcome there is. -/
structure AppOk(u:TUnit)(d:PDeed):Prop where
  b:OkB u
  i:wC d.it
  a:pP d.it.kind=true
theorem R6{u:TUnit}{d:PDeed}(h:AppOk u d):∃r:pR,kP 97 [eU u,aU d] (eG r)∧Bk u d r.1:=UR h.b d h.i (SY h.a).1 (SY h.a).2
open Classical in
noncomputable def jD(u:TUnit)(d:PDeed):pR:=if h:AppOk u d then(R6 h).choose else(u,0)
theorem Ez{u:TUnit}{d:PDeed}(h:AppOk u d):kP 97 [eU u,aU d] (.tuple [eU (jD u d).1,iV (jD u d).2])∧Bk u d (jD u d).1:=by
  unfold jD;rw[dif_pos h];exact(R6 h).choose_spec
theorem rA{u:TUnit}{d:PDeed}(h:AppOk u d):kP 97 [eU u,aU d] (.tuple [eU (jD u d).1,iV (jD u d).2])∧OkB (jD u d).1:=⟨(Ez h).1,(Ez h).2.1⟩
theorem Vs(u:TUnit)(d:PDeed)(h1:OkB u)(h2:wC d.it)(h3:pP d.it.kind=true):kP 97 [eU u,aU d] (.tuple [eU (jD u d).1,iV (jD u d).2]):=(rA ⟨h1,h2,h3⟩).1
noncomputable def pB(u:TUnit)(d:PDeed):TUnit:=bif pP d.it.kind then(jD u d).1 else u
noncomputable def Ck(u:TUnit)(d:PDeed):List PFail:=bif pP d.it.kind then(bif ah (jD u d).2 0 then[]else[⟨d.act,d.item,(jD u d).2⟩])else[]
theorem E1{u:TUnit}{d:PDeed}(h1:OkB u)(h2:wC d.it):OkB (pB u d):=by
  unfold pB
  cases h:pP d.it.kind with
  |false=>exact h1
  |true=>exact(rA ⟨h1,h2,h⟩).2
theorem O3{u:TUnit}{d:PDeed}(h1:OkB u)(h2:wC d.it):Rt u (pB u d):=by
  unfold pB
  cases h:pP d.it.kind with
  |false=>exact rfl
  |true=>exact(Ez ⟨h1,h2,h⟩).2.2
noncomputable def dx:TUnit→List PDeed→TUnit
  |u,[]=>u
  |u,d::r=>dx (pB u d) r
noncomputable def fw:TUnit→List PDeed→List PFail
  |_,[]=>[]
  |u,d::r=>Ck u d++fw (pB u d) r
theorem Hb:∀{l:List PDeed}{u:TUnit},OkB u→(∀d,d∈l→wC d.it)→OkB (dx u l)
  |[],_,h,_=>h
  |d::r,u,h,hl=>Hb (l:=r) (u:=pB u d) (E1 h (hl d (eN ..))) fun x hx=>hl x (fQ _ hx)
theorem Cr:∀(l:List PDeed)(u:TUnit),(fw u l).length≤l.length
  |[],_=>ao _
  | d::r,u=>by
    have:=Cr r (pB u d)
    have h:(Ck u d).length≤1:=by
      unfold Ck
      cases pP d.it.kind<;>cases ah (jD u d).2 0<;>simp
    rw[fw,lA,lC];omega
theorem XH{u:TUnit}{d:PDeed}{r:List PDeed}(h:pP d.it.kind=false):dx u (d::r)=dx u r∧fw u (d::r)=fw u r:=by
  rw[dx,fw,pB,Ck,h];exact⟨rfl,rfl⟩
theorem SH{u:TUnit}{d:PDeed}{r:List PDeed}(h:pP d.it.kind=true)(h2:ah (jD u d).2 0=true):dx u (d::r)=dx (jD u d).1 r∧fw u (d::r)=fw (jD u d).1 r:=by
  rw[dx,fw,pB,Ck,h,h2];exact⟨rfl,rfl⟩
theorem SG{u:TUnit}{d:PDeed}{r:List PDeed}(h:pP d.it.kind=true)(h2:ah (jD u d).2 0=false):dx u (d::r)=dx (jD u d).1 r∧fw u (d::r)=⟨d.act,d.item,(jD u d).2⟩::fw (jD u d).1 r:=by
  rw[dx,fw,pB,Ck,h,h2];exact⟨rfl,rfl⟩
mutual
theorem J1:∀(u:TUnit)(deep most:Int),mr u deep most≤most→Int.ofNat (nU u)≤mr u deep most
  | ⟨_,_,_,_,_,_,_,kids⟩,deep,most,h=>by
    rw[mr]at h ⊢
    cases hd:aC 20 deep with
    |true=>rw[hd]at h;simp only at h;omega
    | false=>
      rw[hd]at h
      have:=J2 kids deep most 1 h
      rw[nU]
      simp only[oN]at *
      omega
theorem J2:∀(l:List TUnit)(deep most n:Int),mA l deep most n≤most→n+Int.ofNat (eW l)≤mA l deep most n
  |[],_,_,n,_=>by rw[mA,eW];exact Int.le_of_eq (Int.add_zero n)
  | k::r,deep,most,n,h=>by
    rw[mA]at h ⊢
    cases hd:aC most n with
    |true=>rw[hd]at h;have:=ap hd;simp only at h;omega
    | false=>
      rw[hd]at h
      have h2:=J2 r deep most _ h
      have h1:=J1 k (deep+1) (most-n) (by simp only[oN]at *;omega)
      rw[eW]
      simp only[oN]at *
      omega
end
theorem FX{l:List PWord}(h:mB l=true):l.length≤300∧∀w,w∈l→w.text.length≤100:=by
  unfold mB at h
  obtain⟨h1,h2⟩:=n5.1 h
  refine⟨by have:=gh h2;simp only[oN]at this;omega,fun w hw=>?_⟩
  have:=gh (nq.1 h1 w hw)
  simp only[oN]at this;omega
theorem HG:∀(u:TUnit),kE u=true→∀x,x∈bu u→rS x:=by
  refine TUnit.ind fun u ih h x hx=>?_
  rw[BB]at h
  simp only[bx]at h
  obtain⟨⟨⟨h0,h1⟩,h2⟩,h3⟩:=h
  rw[de]at hx
  rcases fC.1 hx with rfl|hx
  · have h0:=gh h0
    simp only[oN]at h0
    have q1:=FX h1
    have q2:=FX h2
    exact⟨q1.1,q2.1,by omega,fun w hw=>bR (q1.2 w hw) (by decide),fun w hw=>bR (q2.2 w hw) (by decide)⟩
  · obtain⟨k,hk,hx⟩:=mc hx
    exact ih k hk (nq.1 h3 k hk) x hx
theorem WN{u:TUnit}{n:Nat}(h:GC u (.ofNat n)=true):nU u≤n∧∀x,x∈bu u→rS x:=by
  unfold GC at h
  obtain⟨h1,h2⟩:=n5.1 h
  refine⟨?_,HG u h2⟩
  have h3:=gh h1
  have:=J1 u 0 (.ofNat n) h3
  simp only[oN]at *
  omega
theorem PN{x:PItem}(hf:nW x)(h:mR x=true):wC x:=by
  rw[DH]at h
  unfold yK at h
  simp only[bx]at h
  obtain⟨⟨⟨⟨⟨⟨⟨⟨⟨⟨a1,a2⟩,a3⟩,a4⟩,a5⟩,a6⟩,a7⟩,a8⟩,a9⟩,a10⟩,b1,b2,b3,b4,b5⟩:=h
  have a1:=gh a1
  have a2:=gh a2
  have a3:=gh a3
  have a4:=gh a4
  have a5:=gh a5
  have a6:=gh a6
  have a7:=gh a7
  simp only[oN]at a1 a2 a3 a4 a5 a6 a7
  have hs:∀{l:List aO},l.all xi=true→∀s,s∈l→s.length≤2^39:=fun h s hs=>by
    have:=gh (nq.1 h s hs);simp only[oN]at this;omega
  have ht:∀{l:List PStep},l.all xh=true→∀s,s∈l→s.label.length≤2^39:=fun h s hs=>by
    have:=gh (nq.1 h s hs);simp only[oN]at this;omega
  have hu:=WN (n:=30) a10
  exact⟨hf,⟨by omega,ht b3⟩,⟨by omega,ht b4⟩,⟨by omega,hs b1⟩,⟨by omega,hs b2⟩,by omega,by omega,by omega,bR hu.1 (by decide),hu.2⟩
theorem I4{u v:TUnit}{l r:List PDeed}{xs:List PFail}(h:fw u l=xs++fw v r):xs.length≤l.length:=by
  grind[Cr]
theorem SX(u:TUnit)(l:List PDeed)(hu:OkB u)(hl:l.length<2^30)(ho:∀d,d∈l→wC d.it):kP 63 [eU u,.ls (l.map aU)] (.tuple [eU (dx u l),.ls ((fw u l).map io)]):=by
  have rr0 b' (h:((dx u l).act)=b':=by first|(rw[hj0.2.1];rfl)|(rw[hj0.2.2];rfl)|(rw[hj0.2.2.1];rfl)|(rw[hj0.2.2.2];simp only[fw,ec])|exact aX gK _):=h;have rr1 b' (h:((dx u l).item)=b':=by first|(rw[hj0.2.1];rfl)|(rw[hj0.2.2];rfl)|(rw[hj0.2.2.1];rfl)|(rw[hj0.2.2.2];simp only[fw,ec])|exact aX gK _):=h;have rr2 b' (h:((dx u l).n)=b':=by first|(rw[hj0.2.1];rfl)|(rw[hj0.2.2];rfl)|(rw[hj0.2.2.1];rfl)|(rw[hj0.2.2.2];simp only[fw,ec])|exact aX gK _):=h;have rr3 b' (h:((dx u l).kind)=b':=by first|(rw[hj0.2.1];rfl)|(rw[hj0.2.2];rfl)|(rw[hj0.2.2.1];rfl)|(rw[hj0.2.2.2];simp only[fw,ec])|exact aX gK _):=h;have rr4 b' (h:((dx u l).label)=b':=by first|(rw[hj0.2.1];rfl)|(rw[hj0.2.2];rfl)|(rw[hj0.2.2.1];rfl)|(rw[hj0.2.2.2];simp only[fw,ec])|exact aX gK _):=h;have rr5 b' (h:(List.map aQ (dx u l).head)=b':=by first|(rw[hj0.2.1];rfl)|(rw[hj0.2.2];rfl)|(rw[hj0.2.2.1];rfl)|(rw[hj0.2.2.2];simp only[fw,ec])|exact aX gK _):=h;have rr6 b' (h:(List.map aQ (dx u l).words)=b':=by first|(rw[hj0.2.1];rfl)|(rw[hj0.2.2];rfl)|(rw[hj0.2.2.1];rfl)|(rw[hj0.2.2.2];simp only[fw,ec])|exact aX gK _):=h;have rr7 b' (h:(List.map aV (dx u l).kids)=b':=by first|(rw[hj0.2.1];rfl)|(rw[hj0.2.2];rfl)|(rw[hj0.2.2.1];rfl)|(rw[hj0.2.2.2];simp only[fw,ec])|exact aX gK _):=h;have rr8 b' (h:((fw u l).map io)=b':=by first|(rw[hj0.2.1];rfl)|(rw[hj0.2.2];rfl)|(rw[hj0.2.2.1];rfl)|(rw[hj0.2.2.2];simp only[fw,ec])|exact aX gK _):=h;exact bI Tryz.func63<|Kl 2 5 be<|Kl 2 12 (ln aU l)<|Mg 0<|ZW TUnit Nat Nat (List PFail) aU l u [2,4,6,11,12,13] (fun a _ b=>([bz 0 0 0 0,bz 1 0 0 0,ay,aW<|l.map aU,nV l.length,nV a],[aZ 8 false 0 [aa [iV b.act,iV b.item,iV b.n,iV b.kind,ax b.label,aW<|b.head.map aQ,aW<|b.words.map aQ,aW<|b.kids.map aV]],aZ 8 false 0 [aa [iV 0,iV 0,iV 0,iV 0,ax [],ay,ay,ay]]])) (fun a _ b c e f=>([bz 0 0 0 0,bz 1 0 0 0,aD 2 c 0 e none,aW<|l.map aU,nV l.length,nV a],[aZ 8 false 0 [aa [iV b.act,iV b.item,iV b.n,iV b.kind,ax b.label,aW<|b.head.map aQ,aW<|b.words.map aQ,aW<|b.kids.map aV]],aZ 8 false 0 [aa [iV 0,iV 0,iV 0,iV 0,ax [],ay,ay,ay]],aZ 3 true c<|f.map io])) (fun a b=>OkB b∧dx u l=dx b a∧fw u l=fw b a) (fun a b _ c e=>OkB b∧c=e.length∧dx u l=dx b a∧fw u l=e++fw b a) sA (fun _ _ a _ _ _ b hj0=>Kh 0 b<|Kl 3 5 be<|Mf<|ct<|.cons (aP (.cons (li<|rr0 a.act)<|.cons (li<|rr1 a.item)<|.cons (li<|rr2 a.n)<|.cons (li<|rr3 a.kind)<|.cons (Le.str<|rr4 a.label)<|.cons (cY<|rr5<|a.head.map aQ)<|.cons (cY<|rr6<|a.words.map aQ)<|.cons (cY<|rr7<|a.kids.map aV) .nil)<|by kernel_rfl)<|.cons (cY<|rr8 []) .nil) (fun a _ b c _ e f g i j k _ n hj0=>have c:=ho _<|bQ c j;Kt 0 k<|Mx n<|Kp 5 (Jc e.it.kind)<|Kn 0 (pP e.it.kind) (fun _=>Kl 0 40 (dc a)<|K1 0 (.frz 2 [2,4,6,11,12,13]) (bT rt rt ti)<|Mf<|g b<|by grind[XH]) fun j=>Kp 1 (Vs b e sA c j)<|Kc 7 (jD b e).2 0 (fun _ _=>Kl 12 40 (dc a)<|Mg 0<|M0 (.ren [0,1,4,2,3] [] [2,4,6,11,12,13])<|M1 (.frz 3 [2,4,6,11,12,13]) (jv rt rt rt ti)<|Mf<|i (jD b e).1 0 1 [PFail.mk e.act e.item (jD b e).2]<|by exact⟨(rA ⟨hj0.1,c,by omega⟩).2,rfl,hj0.2.1.trans (SG (by omega) (by omega)).1,hj0.2.2.trans (SG (by omega) (by omega)).2⟩) fun _ _=>Kl 2 40 (dc a)<|K1 0 (.frz 2 [2,4,6,11,12,13]) (bT rt rt ti)<|Mf<|g (jD b e).1<|by exact⟨(rA ⟨hj0.1,c,by omega⟩).2,hj0.2.1.trans (SH (by omega) (by omega)).1,hj0.2.2.trans (SH (by omega) (by omega)).2⟩) (fun _ _ a b c e _ _ _ f hj0=>Kh 0 f<|Mg 3<|M2 (.fsl 2 [4] 5<|e.map io) (bT rt rt ti) (bT (aY b) (tA io e c (oA:(e).length=c))<|aX gK e)<|Ml 5 (e9 (e.map io) false<|aX gK e)<|Mf<|ct<|.cons (aP (.cons (li<|rr0 a.act)<|.cons (li<|rr1 a.item)<|.cons (li<|rr2 a.n)<|.cons (li<|rr3 a.kind)<|.cons (Le.str<|rr4 a.label)<|.cons (cY<|rr5<|a.head.map aQ)<|.cons (cY<|rr6<|a.words.map aQ)<|.cons (cY<|rr7<|a.kids.map aV) .nil)<|by kernel_rfl)<|.cons (cY<|rr8<|e.map io) .nil) fun a _ b c e f g _ i j _ k n o _ p hj0=>have g:=ho _<|bQ g n;Kt 0 o<|Mx p<|Kp 5 (Jc i.it.kind)<|Kn 0 (pP i.it.kind) (fun _=>Kl 0 40 (dc a)<|K1 0 (.frz 3 [2,4,6,11,12,13]) (jv (tR 3 true c 3<|aX gK f) rt rt ti)<|Mf<|k b c e f<|by grind[XH]) fun n=>Kp 1 (Vs b i sA g n)<|Kc 7 (jD b i).2 0 (fun _ _=>K1 7 .app (bT (aY c) (sA:e=(f.map io).length) (by(have z:=I4 hj0.2.2.2;have z2:=hj0.2.1;refine aL (m:=2^31) ?_ ?_ ?_<;>omega):small (e+1) 24=true))<|M1 (.obj 2<|aZ 3 true (c+1)<|(f++[PFail.mk i.act i.item (jD b i).2]).map io) (congrArg (aZ 3 true<|c+1)<|ce (f:=io) (l:=f) (ws:=[PFail.mk i.act i.item (jD b i).2]))<|Kl 3 40 (dc a)<|K1 0 (.frz 3 [2,4,6,11,12,13]) (jv (tR 3 true (c+1) 3<|aX gK<|f++[PFail.mk i.act i.item (jD b i).2]) rt rt ti)<|Mf<|k (jD b i).1 (c+1) (e+1) (f++[PFail.mk i.act i.item (jD b i).2])<|by exact⟨(rA ⟨hj0.1,g,by omega⟩).2,by simp_all,hj0.2.2.1.trans (SG (by omega) (by omega)).1,hj0.2.2.2.trans (by grind[SG])⟩) fun _ _=>Kl 2 40 (dc a)<|K1 0 (.frz 3 [2,4,6,11,12,13]) (jv (tR 3 true c 3<|aX gK f) rt rt ti)<|Mf<|k (jD b i).1 c e f<|by exact⟨(rA ⟨hj0.1,g,by omega⟩).2,hj0.2.1,hj0.2.2.1.trans (SH (by omega) (by omega)).1,hj0.2.2.2.trans (by grind[SH])⟩
end Go.Proofs.YtjokefckffbpeaaGreatDoor
