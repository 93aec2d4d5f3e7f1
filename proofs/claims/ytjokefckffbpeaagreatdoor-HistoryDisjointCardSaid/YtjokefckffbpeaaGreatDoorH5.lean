/- Functions walked: what each of them answers, for the law of disjoint versions: part 5. Conditions: those that each theorem names. -/
import Derived.Test.YtjokefckffbpeaaGreatDoorH4
namespace Go.Proofs.YtjokefckffbpeaaGreatDoor
open Go Go.Ev
noncomputable abbrev BT(l:List PWord):AObj:=.row 4 true 0 (l.map aQ)
noncomputable def E4:TypeInfo:=(Tryz.prog.info? 91).getD default
theorem E3:Tryz.prog.info? 91=some E4:=by kernel_rfl
theorem yl:E4.size=4:=by kernel_rfl
theorem wc:E4.bytes=40:=by kernel_rfl
theorem Vi(l:List PWord):dD 4 (l.map aQ)=true:=gF (fun w=>by cases w;rfl) l
/-- A copy of words: a row of its own. -/
theorem cl4(ws:List PWord)(hl:ws.length≤2^20)(a b c d:AObj):kD 49 [.ls (ws.map aQ)] (av [a,b,c,d]) (.sl0 4 0 ws.length none) (av [a,b,c,d,BT ws]):=by
  by_cases hne:ws=[]
  · subst hne
    have hE:(av [a,b,c,d]).push (BT [])=av [a,b,c,d,BT []]:=by kernel_rfl
    have h:=aH.psh (o:=BT []) (u:=.sl0 4 0 0 none) (ri [] (by omega) (av [a,b,c,d])) Et
    simp_all
  have hn:ws.map aQ≠[]:=fun h=>hne (List.map_eq_nil_iff.1 h)
  have hf:=Vi ws
  have hsm:small (ws.map aQ).length 40=true:=by grind[aM]
  have hlen:ws.length=(ws.map aQ).length:=(cQ ..).symm
  unfold BT
  rw[hlen]
  generalize ws.map aQ=L at hn hf hsm
  refine(aH.less (Ψ:=fun v h=>v=.slice 4 0 0 L.length none∧h=av [a,b,c,d,.row 4 true 0 L]) ?_ fun v h ⟨h1,h2⟩=>⟨_,h1▸Le.sl0,rfl,h2⟩)
  refine aH.enter 2 (fn:=Tryz.f49) Tryz.func49 (by kernel_rfl) rfl ⟨by kernel_rfl,by kernel_rfl⟩ ?_
  refine ar.seq (ar.mono (DR ow ie (ev 40) (s':=⟨eJ 8 [(0,.ls L),(2,.nils)],av [a,b,c,d]⟩) (.go 0 .fin) (by kernel_rfl)) ?_)
  rintro _ _ ⟨rfl,rfl⟩
  refine ar.seq (ar.seq (ar.mono (x8 ie (ev 40) (Ψ:=fun s=>s=⟨eJ 8 [(0,.ls L),(2,.nils),(3,.ps L false),(4,.bool false)],av [a,b,c,d]⟩) (.go 0 (.nz 3 .abs (.go 0 .fin)))
    (W:=(L=[]→False)∧(⟨eJ 8 [(0,.ls L),(2,.nils),(3,.ps L false),(4,.bool false)],av [a,b,c,d]⟩:St)=⟨eJ 8 [(0,.ls L),(2,.nils),(3,.ps L false),(4,.bool false)],av [a,b,c,d]⟩) ⟨hn,rfl⟩ (by kernel_rfl)) ?_))
  rintro _ _ ⟨rfl,rfl⟩
  refine ar.cond (t:=false) (by kernel_rfl) (fun h=>by grind) fun _=>ar.skip ?_
  refine ar.seq (ar.region ?_)
  show ce _ _ _ _ [_,_,_,_] _ _
  refine ce.one (s':=⟨eJ 8 [(0,.ls L),(2,.nils),(3,.ps L false),(4,.bool false),(5,.ps [] true)],av [a,b,c,d]⟩) (ev 40) (by kernel_rfl) ?_
  refine ce.one (s':=⟨eJ 8 [(0,.ls L),(2,.nils),(3,.ps L false),(4,.bool false),(5,.ps [] true),(6,.ls L)],av [a,b,c,d]⟩) (ev 40) (by kernel_rfl) ?_
  refine rD (I:=fun k:Nat=>k=0) (r:=fun _=>.slice 4 0 0 L.length none) (H:=fun _=>av [a,b,c,d,.row 4 true 0 L]) (by kernel_rfl)
    (fun pl M a w g1 g2 g3=>xe (z:=aQ ⟨[],0,0,0⟩) (z0:=aQ ⟨[],0,0,0⟩) (xs:=L) (t:=33) (tx:=33) (e:=91) (i:=E4) yl wc (by kernel_rfl) ⟨91,by kernel_rfl⟩ E3 (by kernel_rfl) (Le.refl _) (by kernel_rfl) (by kernel_rfl) hn hf (by kernel_rfl) hsm (by omega) pl M a w g1 g2 g3) fun k _=>?_
  refine⟨eJ 8 [(0,.ls L),(2,.nils),(3,.ps L false),(4,.bool false),(5,.ps [] true),(6,.ls L),(7,.slice 4 0 0 L.length none)],by kernel_rfl,?_⟩
  refine ce.one (s':=⟨eJ 8 [(0,.ls L),(2,.slice 4 0 0 L.length none),(3,.ps L false),(4,.bool false),(5,.ps [] true),(6,.ls L),(7,.slice 4 0 0 L.length none)],av [a,b,c,d,.row 4 true 0 L]⟩) (ev 40) (by kernel_rfl) (ce.nil (ar.ret ⟨fun id h=>(by grind),.slice 4 0 0 L.length none,by kernel_rfl,by kernel_rfl,by kernel_rfl⟩))
theorem Z9(ws:List PWord)(hl:ws.length≤2^20)(a b c d e:AObj):kD 49 [.ls (ws.map aQ)] (av [a,b,c,d,e]) (.sl0 5 0 ws.length none) (av [a,b,c,d,e,BT ws]):=by
  by_cases hne:ws=[]
  · subst hne
    have hE:(av [a,b,c,d,e]).push (BT [])=av [a,b,c,d,e,BT []]:=by kernel_rfl
    have h:=aH.psh (o:=BT []) (u:=.sl0 5 0 0 none) (ri [] (by omega) (av [a,b,c,d,e])) Et
    simp_all
  have hn:ws.map aQ≠[]:=fun h=>hne (List.map_eq_nil_iff.1 h)
  have hf:=Vi ws
  have hsm:small (ws.map aQ).length 40=true:=by grind[aM]
  have hlen:ws.length=(ws.map aQ).length:=(cQ ..).symm
  unfold BT
  rw[hlen]
  generalize ws.map aQ=L at hn hf hsm
  refine(aH.less (Ψ:=fun v h=>v=.slice 5 0 0 L.length none∧h=av [a,b,c,d,e,.row 4 true 0 L]) ?_ fun v h ⟨h1,h2⟩=>⟨_,h1▸Le.sl0,rfl,h2⟩)
  refine aH.enter 2 (fn:=Tryz.f49) Tryz.func49 (by kernel_rfl) rfl ⟨by kernel_rfl,by kernel_rfl⟩ ?_
  refine ar.seq (ar.mono (DR ow ie (ev 40) (s':=⟨eJ 8 [(0,.ls L),(2,.nils)],av [a,b,c,d,e]⟩) (.go 0 .fin) (by kernel_rfl)) ?_)
  rintro _ _ ⟨rfl,rfl⟩
  refine ar.seq (ar.seq (ar.mono (x8 ie (ev 40) (Ψ:=fun s=>s=⟨eJ 8 [(0,.ls L),(2,.nils),(3,.ps L false),(4,.bool false)],av [a,b,c,d,e]⟩) (.go 0 (.nz 3 .abs (.go 0 .fin)))
    (W:=(L=[]→False)∧(⟨eJ 8 [(0,.ls L),(2,.nils),(3,.ps L false),(4,.bool false)],av [a,b,c,d,e]⟩:St)=⟨eJ 8 [(0,.ls L),(2,.nils),(3,.ps L false),(4,.bool false)],av [a,b,c,d,e]⟩) ⟨hn,rfl⟩ (by kernel_rfl)) ?_))
  rintro _ _ ⟨rfl,rfl⟩
  refine ar.cond (t:=false) (by kernel_rfl) (fun h=>by grind) fun _=>ar.skip ?_
  refine ar.seq (ar.region ?_)
  show ce _ _ _ _ [_,_,_,_] _ _
  refine ce.one (s':=⟨eJ 8 [(0,.ls L),(2,.nils),(3,.ps L false),(4,.bool false),(5,.ps [] true)],av [a,b,c,d,e]⟩) (ev 40) (by kernel_rfl) ?_
  refine ce.one (s':=⟨eJ 8 [(0,.ls L),(2,.nils),(3,.ps L false),(4,.bool false),(5,.ps [] true),(6,.ls L)],av [a,b,c,d,e]⟩) (ev 40) (by kernel_rfl) ?_
  refine rD (I:=fun k:Nat=>k=0) (r:=fun _=>.slice 5 0 0 L.length none) (H:=fun _=>av [a,b,c,d,e,.row 4 true 0 L]) (by kernel_rfl)
    (fun pl M a w g1 g2 g3=>xe (z:=aQ ⟨[],0,0,0⟩) (z0:=aQ ⟨[],0,0,0⟩) (xs:=L) (t:=33) (tx:=33) (e:=91) (i:=E4) yl wc (by kernel_rfl) ⟨91,by kernel_rfl⟩ E3 (by kernel_rfl) (Le.refl _) (by kernel_rfl) (by kernel_rfl) hn hf (by kernel_rfl) hsm (by omega) pl M a w g1 g2 g3) fun k _=>?_
  refine⟨eJ 8 [(0,.ls L),(2,.nils),(3,.ps L false),(4,.bool false),(5,.ps [] true),(6,.ls L),(7,.slice 5 0 0 L.length none)],by kernel_rfl,?_⟩
  refine ce.one (s':=⟨eJ 8 [(0,.ls L),(2,.slice 5 0 0 L.length none),(3,.ps L false),(4,.bool false),(5,.ps [] true),(6,.ls L),(7,.slice 5 0 0 L.length none)],av [a,b,c,d,e,.row 4 true 0 L]⟩) (ev 40) (by kernel_rfl) (ce.nil (ar.ret ⟨fun id h=>(by grind),.slice 5 0 0 L.length none,by kernel_rfl,by kernel_rfl,by kernel_rfl⟩))
noncomputable abbrev Dh(u:TUnit)(k:AV):AV:=.agg [iV u.act,iV u.item,iV u.n,iV u.kind,.str u.label,.sl0 3 0 u.head.length none,.sl0 4 0 u.words.length none,k]
noncomputable abbrev UM(u:TUnit)(i j:Nat)(k:AV):AObj:=.row 8 false 0 [.agg [iV u.act,iV u.item,iV u.n,iV u.kind,.str u.label,.sl0 i 0 u.head.length none,.sl0 j 0 u.words.length none,k]]
theorem YF(u:TUnit)(hk:0<u.kids.length)(hn:nU u≤2^20)(ht:∀x,x∈bu u→x.head.length≤2^20∧x.words.length≤2^20):kC 29 [eU u] (av [wg u,wy])
    (fun v h=>∃y:Nat×Nat×List TUnit,(y.2.1=u.kids.length∧y.2.2=u.kids)∧v=Dh u (.slice 5 y.1 0 y.2.1 none)∧h=av [wg u,wy,UM u 3 4 (.slice 5 y.1 0 y.2.1 none),BT u.head,BT u.words,.row 8 true y.1 (y.2.2.map aV)]):=by
  have hkl:=bf u
  have c1:=(ht u (dh u)).1
  have c2:=(ht u (dh u)).2
  have ihk:∀k,k∈u.kids→kP 29 [eU k] (eU k):=fun k hk=>Hx k (bT (tK (iH hk)) hn) (fun x hx=>⟨mp (ht x (bH hk hx)).1 (by omega),mp (ht x (bH hk hx)).2 (by omega)⟩)
  let q1:=[ay [iV u.act,iV u.item,iV u.n,iV u.kind,aj u.label,aW (u.head.map aQ),aW (u.words.map aQ),aW (u.kids.map aV)]];let q2:=[ay [iV 0,iV 0,iV 0,iV 0,aj [],ab,ab,ab]];let q3:=aZ 8 false 0 q2;let q4:=aZ 8 false 0 q1;let q5:=List.map aQ u.head;let q6:=aZ 4 true 0 q5;exact qY Tryz.func29 fun a=>Mg 3<|M3 (.efx true (AV.sl0 4 0 u.head.length none)<|av [aZ 8 false 0 q1,aZ 8 false 0 q2,aZ 8 false 0 q1,aZ 8 false 0 q2,aZ 4 true 0 q5]) (vS rt rt rt rt ti) (vS (aY<|some q3) (aY<|some q4) (aY<|some q3) (aY<|some q4) ti) (cl4 u.head c1 q4 q3 q4 q3)<|Mg 1<|M3 (.efx true (AV.sl0 5 0 u.words.length none)<|av [aZ 8 false 0 q1,aZ 8 false 0 q2,aZ 8 false 0 q1,aZ 8 false 0 q2,aZ 4 true 0 q5,aZ 4 true 0<|u.words.map aQ]) (re (tR 4 true 0 5<|aX iM u.head) rt rt rt rt ti) (re (aY<|some q6) (aY<|some q3) (aY<|some q4) (aY<|some q3) (aY<|some q4) ti) (Z9 u.words c2 q4 q3 q4 q3 q6)<|Kl 7 16 (ln aV u.kids)<|Mg 0<|kr Nat Nat (List TUnit) aV u.kids [1,2,3,15,16,17] (fun a _=>([bJ 2 0 0 0,bJ 3 0 0 0,ab,aW<|u.kids.map aV,nV u.kids.length,nV a],[aZ 8 false 0 [ay [iV u.act,iV u.item,iV u.n,iV u.kind,aj u.label,aW<|u.head.map aQ,aW<|u.words.map aQ,aW<|u.kids.map aV]],aZ 8 false 0 [ay [iV 0,iV 0,iV 0,iV 0,aj [],ab,ab,ab]],aZ 8 false 0 [ay [iV u.act,iV u.item,iV u.n,iV u.kind,aj u.label,AV.sl0 4 0 u.head.length none,AV.sl0 5 0 u.words.length none,aW<|u.kids.map aV]],aZ 8 false 0 [ay [iV 0,iV 0,iV 0,iV 0,aj [],ab,ab,ab]],aZ 4 true 0<|u.head.map aQ,aZ 4 true 0<|u.words.map aQ])) (fun a _ b c d=>([bJ 2 0 0 0,bJ 3 0 0 0,aE 6 b 0 c none,aW<|u.kids.map aV,nV u.kids.length,nV a],[aZ 8 false 0 [ay [iV u.act,iV u.item,iV u.n,iV u.kind,aj u.label,aW<|u.head.map aQ,aW<|u.words.map aQ,aW<|u.kids.map aV]],aZ 8 false 0 [ay [iV 0,iV 0,iV 0,iV 0,aj [],ab,ab,ab]],aZ 8 false 0 [ay [iV u.act,iV u.item,iV u.n,iV u.kind,aj u.label,AV.sl0 4 0 u.head.length none,AV.sl0 5 0 u.words.length none,aW<|u.kids.map aV]],aZ 8 false 0 [ay [iV 0,iV 0,iV 0,iV 0,aj [],ab,ab,ab]],aZ 4 true 0<|u.head.map aQ,aZ 4 true 0<|u.words.map aQ,aZ 8 true b<|d.map aV])) (fun a=>a=u.kids) (fun a _ b c=>b=c.length∧(0:Nat)<c.length∧c++a=u.kids∧c.length+a.length=u.kids.length) (by rfl) (fun _ _ _ _ _ a _=>Kh 0 a<|Mg 4<|Mw .abs (sA:False)) (fun a _ _ b c d _ e f g _ i _=>have i:=(i).trans<|congrArg some<|aO c;have b:=ch (J:=fun a _=>a=u.kids) (a:=()) f b;Kt 0 g<|Mx i<|Kp 4 (ihk c gR)<|K1 1 (.obj 7<|aZ 8 true 0<|List.map aV [c]) (congrArg (aZ 8 true 0)<|F4 (f:=aV) (g:=Go.Ev.eU) (ws:=[c]) aO)<|Kl 1 26 (dq a)<|Mg 0<|Mw (.ren [0,1,2,3,4,5,7,6] [4,5,7] [1,2,3,15,16,17]<|.frz 7 [1,2,3,15,16,17] .fin)<|vS (tS 4 true 0<|aX iM u.head) (tS 4 true 0<|aX iM u.words) (tS 8 true 0<|aX iY [c]) (Z8 (tR 8 true 0 7<|aX iY [c]) (tR 4 true 0 7<|aX iM u.words) (tR 4 true 0 7<|aX iM u.head) rt rt rt rt ti)<|e 0 1 [c]<|by(refine⟨rfl,by simp,?_,?_⟩<;>(rw[←b])<;>(first|rfl|grind))) (fun _ _ b c d _ _ _ e _=>Kh 0 e<|Mg 4<|Mw (.ren [0,1,3,4,5,6,2] [4,5,6] [2]<|.frz 6 [2] .fin)<|vS (tS 4 true 0<|aX iM u.head) (tS 4 true 0<|aX iM u.words) (tS 8 true b<|aX iY d) (D9 (tR 8 true b 6<|aX iY d) (tR 4 true 0 6<|aX iM u.words) (tR 4 true 0 6<|aX iM u.head) rt rt rt ti)<|a (b,c,d) sA) fun a _ b c d _ e f g _ i j l _ n _=>have n:=(n).trans<|congrArg some<|aO f;have e:=ch (J:=fun a b=>b.2.1=b.2.2.length∧(0:Nat)<b.2.2.length∧b.2.2++a=u.kids∧b.2.2.length+a.length=u.kids.length) (a:=(b,c,d)) j e;Kt 0 l<|Mx n<|Kp 4 (ihk f gR)<|K1 0 .app (b6 (aY b) (sA:c=(d.map aV).length) (by(refine aM (m:=2^21) ?_ ?_ ?_<;>omega):small (c+1) 120=true))<|M1 (.obj 6<|aZ 8 true (b+1)<|(d++[f]).map aV) (congrArg (aZ 8 true<|b+1)<|yJ (f:=aV) (g:=Go.Ev.eU) (l:=d) (ws:=[f]) aO)<|Kl 1 26 (dq a)<|K1 0 (.frz 7 [1,2,3,15,16,17]) (Z8 (tR 8 true (b+1) 7<|aX iY<|d++[f]) (tR 4 true 0 7<|aX iM u.words) (tR 4 true 0 7<|aX iM u.head) rt rt rt rt ti)<|Mf<|i (b+1) (c+1) (d++[f])<|by(refine⟨by simp_all,by simp,?_,?_⟩<;>first|(rw[←e.2.2.1];simp;done)|grind)
theorem YG(u:TUnit)(hk:u.kids=[])(ht:∀x,x∈bu u→x.head.length≤2^20∧x.words.length≤2^20):kD 29 [eU u] (av [wg u,wy]) (Dh u .nils) (av [wg u,wy,UM u 3 4 .nils,BT u.head,BT u.words]):=by
  have c1:=(ht u (dh u)).1
  have c2:=(ht u (dh u)).2
  have hz:aC 0 (Int.ofNat u.kids.length)=false:=by rw[hk];rfl
  let q:=[ay [iV u.act,iV u.item,iV u.n,iV u.kind,aj u.label,aW (u.head.map aQ),aW (u.words.map aQ),aW (u.kids.map aV)]];let q1:=[ay [iV 0,iV 0,iV 0,iV 0,aj [],ab,ab,ab]];let q2:=[aZ 8 false 0 q,aZ 8 false 0 q1,aZ 8 false 0 [ay [iV u.act,iV u.item,iV u.n,iV u.kind,aj u.label,AV.sl0 4 0 u.head.length none,AV.sl0 5 0 u.words.length none,aW (u.kids.map aV)]],aZ 8 false 0 q1,aZ 4 true 0 (u.head.map aQ),aZ 4 true 0 (u.words.map aQ)];let q3:=aZ 8 false 0 q1;let q4:=aZ 8 false 0 q;let q5:=[bJ 2 0 0 0,bJ 3 0 0 0,ab,aW (u.kids.map aV),nV u.kids.length,iV 0];let q6:=List.map aQ u.head;let q7:=aZ 4 true 0 q6;exact eg Tryz.func29 fun a=>Mg 3<|M3 (.efx true (AV.sl0 4 0 u.head.length none)<|av [aZ 8 false 0 q,aZ 8 false 0 q1,aZ 8 false 0 q,aZ 8 false 0 q1,aZ 4 true 0 q6]) (vS rt rt rt rt ti) (vS (aY<|some q3) (aY<|some q4) (aY<|some q3) (aY<|some q4) ti) (cl4 u.head c1 q4 q3 q4 q3)<|Mg 1<|M3 (.efx true (AV.sl0 5 0 u.words.length none)<|av [aZ 8 false 0 q,aZ 8 false 0 q1,aZ 8 false 0 q,aZ 8 false 0 q1,aZ 4 true 0 q6,aZ 4 true 0<|u.words.map aQ]) (re (tR 4 true 0 5<|aX iM u.head) rt rt rt rt ti) (re (aY<|some q7) (aY<|some q3) (aY<|some q4) (aY<|some q3) (aY<|some q4) ti) (Z9 u.words c2 q4 q3 q4 q3 q7)<|Kl 7 16 (ln aV u.kids)<|Mg 0<|ZJ [1,2,3,15,16,17] (q5,q2) True 0 ti fun _ _=>Kh 0 hz<|Mg 4<|M2 (.ren [0,1,3,4,5,2] [4,5] [2]) (tS 4 true 0<|aX iM u.head) (tS 4 true 0<|aX iM u.words)<|M1 (.frz 5 [2]) (re (tR 4 true 0 5<|aX iM u.words) (tR 4 true 0 5<|aX iM u.head) rt rt rt ti)<|Mf a
noncomputable abbrev Zk(ep:Nat)(l:List TUnit):AObj:=.row 8 true ep (l.map aV)
theorem K5(u:TUnit){k k':AV}(h:Le k k')(h2:cL k=true):Le (Dh u k) (Dh u k'):=bQ (.cons (Le.refl _) (.cons (Le.refl _) (.cons (Le.refl _) (.cons (Le.refl _) (.cons (Le.refl _) (.cons (Le.refl _) (.cons (Le.refl _) (.cons h .nil)))))))) (by simp only[List.all_cons,List.all_nil,h2];rfl)
theorem YE(u:TUnit)(hn:nU u≤2^20)(ht:∀x,x∈bu u→x.head.length≤2^20∧x.words.length≤2^20):kC 29 [eU u] (av [wg u,wy])
    (fun v h=>∃ep:Nat,True∧v=Dh u (.sl0 5 ep u.kids.length none)∧h=av [wg u,wy,.dead,BT u.head,BT u.words,Zk ep u.kids]):=by
  rcases Nat.eq_zero_or_pos u.kids.length with hk|hk
  · have hk:=List.length_eq_zero_iff.1 hk
    refine aH.dead (i:=2) (Jp (Ψ':=fun v h=>v=Dh u (.sl0 5 0 0 none)∧h=av [wg u,wy,UM u 3 4 .nils,BT u.head,BT u.words,Zk 0 u.kids]) (Zk 0 u.kids) (YG u hk ht) fun v h' ⟨h1,h2⟩=>⟨Dh u (.sl0 5 0 0 none),h1▸K5 u Le.sl0n rfl,rfl,?_⟩) (ao 2) (by omega) fun v h' ⟨h1,h2⟩=>⟨0,trivial,by simp_all,?_⟩
    · rw[h2];kernel_rfl
    · rw[h2];kernel_rfl
  · refine aH.dead (i:=2) (aH.less (Ψ':=fun v h=>∃ep:Nat,v=Dh u (.sl0 5 ep u.kids.length none)∧h=av [wg u,wy,UM u 3 4 (.slice 5 ep 0 u.kids.length none),BT u.head,BT u.words,Zk ep u.kids]) (YF u hk hn ht) fun v h' ⟨y,⟨e1,e2⟩,h1,h2⟩=>⟨Dh u (.sl0 5 y.1 u.kids.length none),?_,y.1,rfl,?_⟩) (ao 2) (by omega) fun v h' ⟨ep,h1,h2⟩=>⟨ep,trivial,h1,?_⟩
    · rw[h1,e1];exact K5 u Le.sl0 rfl
    · simp_all
    · rw[h2];kernel_rfl
/-- The first 'i' elements changed by 'f'. -/
def kE{α:Type}(f:α→α)(l:List α)(i:Nat):List α:=(l.take i).map f++l.drop i
theorem vF{α:Type}{f:α→α}{l:List α}{i:Nat}:(kE f l i).length=l.length:=by
  grind[kE]
theorem vG{α:Type}{f:α→α}{l:List α}{i:Nat}(h:l.length≤i):kE f l i=l.map f:=by
  grind[kE,List.take_of_length_le]
theorem zo{α:Type}[Inhabited α]{f:α→α}{l:List α}{i:Nat}(h:i<l.length):gD (kE f l i) i=gD l i:=by
  have e:((l.take i).map f).length=i:=by grind
  simp_all[kE,gD,pC]
theorem Cm{α:Type}[Inhabited α]{f:α→α}{l:List α}{i:Nat}(h:i<l.length):(kE f l i).set i (f (gD l i))=kE f l (i+1):=by
  have e:((l.take i).map f).length=i:=by grind
  have hg:gD l i=l[i]:=by unfold gD;simp_all
  unfold kE
  rw[List.set_append_right _ _ (by omega),e,Nat.sub_self,hg,Oy h,List.set_cons_zero,Oa h,pt,nh]
  rfl
theorem zn{l:List PWord}{i:Nat}(h:i<l.length):(kE gS l i).set i ⟨(gD (kE gS l i) i).text,0,0,0⟩=kE gS l (i+1):=by
  rw[zo h];exact Cm h
theorem O0:∀u:TUnit,nU u≤2^20→(∀x,x∈bu u→x.head.length≤2^20∧x.words.length≤2^20)→kP 261 [eU u] (eU (cN u)):=by
  refine TUnit.ind fun u ih hn ht=>?_
  have hkl:=bf u
  have c1:=(ht u (dh u)).1
  have c2:=(ht u (dh u)).2
  have hc:=YE u hn ht
  have ihk:∀k,k∈u.kids→kP 261 [eU k] (eU (cN k)):=fun k hk=>ih k hk (bT (tK (iH hk)) hn) (fun x hx=>ht x (bH hk hx))
  rw[md]
  have rr0 b' (h:(List.map aQ (TUnit.mk 0 0 0 u.kind u.label (u.head.map gS) (u.words.map gS) (u.kids.map cN)).head)=b':=by(rw[hx1.2,vG (by(simp only[oN]at *;omega))];rfl)):=h;have rr1 b' (h:(List.map aQ (TUnit.mk 0 0 0 u.kind u.label (u.head.map gS) (u.words.map gS) (u.kids.map cN)).words)=b':=by(rw[hx2.2,vG (by(simp only[oN]at *;omega))];rfl)):=h;have rr2 b' (h:(List.map aV (TUnit.mk 0 0 0 u.kind u.label (u.head.map gS) (u.words.map gS) (u.kids.map cN)).kids)=b':=by(rw[hx3.2,vG (by(simp only[oN]at *;omega))];rfl)):=h;exact bM Tryz.func261<|Mg 2<|Mq hc fun a _=>Mg 10<|M0 (.un 2)<|Mg 7<|LO (0:Nat) u.head [1,2,4,15,16,17,22,23] (fun b c=>([bJ 0 0 0 0,bJ 1 0 0 0,AV.sl0 3 0 u.head.length none,i7 [AV.sl0 3 0 u.head.length none,AV.sl0 4 0 u.words.length none] true,iV 2,iV 0,nV u.head.length,nV b],[aZ 8 false 0 [ay [iV 0,iV 0,iV 0,iV u.kind,aj u.label,AV.sl0 3 0 u.head.length none,AV.sl0 4 0 u.words.length none,AV.sl0 5 a u.kids.length none]],aZ 8 false 0 [ay [iV 0,iV 0,iV 0,iV 0,aj [],ab,ab,ab]],AObj.dead,aZ 4 true 0<|c.map aQ,aZ 4 true 0<|u.words.map aQ,aZ 8 true a<|u.kids.map aV])) (fun a b=>a≤u.head.length∧b=kE gS u.head a) (fun a _=>u.head.length-a) (by exact⟨bN _,rfl⟩) fun b c hx1 d=>have hx1:b≤u.head.length∧c=kE gS u.head b:=hx1;have:c.length=u.head.length:=(by grind[vF]);Ka 0 (Int.ofNat b) (Int.ofNat u.head.length) (fun _ _=>K1 4 .rix (et (aY 0) (sA:b<u.head.length))<|K1 0 (.rst (aQ<|gD c b)<|(c.set b<|PWord.mk (gD c b).text 0 0 0).map aQ) (b6 (aY 0) (aI aQ (sA:b<(c).length))<|jC (f:=aQ) (l:=c) (i:=b) (w:=PWord.mk (gD c b).text 0 0 0))<|Kl 0 31 (gc b)<|Kf 0<|d (b+1) (c.set b<|PWord.mk (gD c b).text 0 0 0) (by grind[zn]) gR) fun _ _=>Mg 9<|LO (0:Nat) u.words [1,2,4,15,16,17,22,23] (fun b d=>([bJ 0 0 0 0,bJ 1 0 0 0,AV.sl0 4 0 u.words.length none,i7 [AV.sl0 3 0 u.head.length none,AV.sl0 4 0 u.words.length none] true,iV 2,iV 1,nV u.words.length,nV b],[aZ 8 false 0 [ay [iV 0,iV 0,iV 0,iV u.kind,aj u.label,AV.sl0 3 0 u.head.length none,AV.sl0 4 0 u.words.length none,AV.sl0 5 a u.kids.length none]],aZ 8 false 0 [ay [iV 0,iV 0,iV 0,iV 0,aj [],ab,ab,ab]],AObj.dead,aZ 4 true 0<|c.map aQ,aZ 4 true 0<|d.map aQ,aZ 8 true a<|u.kids.map aV])) (fun a b=>a≤u.words.length∧b=kE gS u.words a) (fun a _=>u.words.length-a) (by exact⟨bN _,rfl⟩) fun b d hx2 e=>have hx2:b≤u.words.length∧d=kE gS u.words b:=hx2;have:d.length=u.words.length:=(by grind[vF]);Ka 0 (Int.ofNat b) (Int.ofNat u.words.length) (fun _ _=>K1 4 .rix (et (aY 0) (sA:b<u.words.length))<|K1 0 (.rst (aQ<|gD d b)<|(d.set b<|PWord.mk (gD d b).text 0 0 0).map aQ) (b6 (aY 0) (aI aQ (sA:b<(d).length))<|jC (f:=aQ) (l:=d) (i:=b) (w:=PWord.mk (gD d b).text 0 0 0))<|Kl 0 31 (gc b)<|Kf 0<|e (b+1) (d.set b<|PWord.mk (gD d b).text 0 0 0) (by grind[zn]) gR) fun _ _=>Mg 7<|LO (0:Nat) u.kids [1,2,35,36] (fun b e=>([bJ 0 0 0 0,bJ 1 0 0 0,nV u.kids.length,nV b],[aZ 8 false 0 [ay [iV 0,iV 0,iV 0,iV u.kind,aj u.label,AV.sl0 3 0 u.head.length none,AV.sl0 4 0 u.words.length none,AV.sl0 5 a u.kids.length none]],aZ 8 false 0 [ay [iV 0,iV 0,iV 0,iV 0,aj [],ab,ab,ab]],AObj.dead,aZ 4 true 0<|c.map aQ,aZ 4 true 0<|d.map aQ,aZ 8 true a<|e.map aV])) (fun a b=>a≤u.kids.length∧b=kE cN u.kids a) (fun a _=>u.kids.length-a) (by exact⟨bN _,rfl⟩) fun b e hx3 f=>have hx3:b≤u.kids.length∧e=kE cN u.kids b:=hx3;have:e.length=u.kids.length:=(by grind[vF]);have g:b<u.kids.length→kP (261:FuncId) [eU (gD e b)] (eU (cN (gD e b))):=fun h=>ihk _ (by grind[zo,gx]);Ka 0 (Int.ofNat b) (Int.ofNat u.kids.length) (fun _ _=>K1 7 .rix (et (aY a) (sA:b<u.kids.length))<|Mr (et (aY a)<|rU aV (g:=Go.Ev.eU) aO (sA:b<(e).length))<|Mp (g sA)<|M1 .rix (et (aY a) (sA:b<u.kids.length))<|M3 (.rst (ay [iV (gD e b).act,iV (gD e b).item,iV (gD e b).n,iV (gD e b).kind,aj (gD e b).label,aW<|List.map aQ (gD e b).head,aW<|List.map aQ (gD e b).words,aW<|List.map aV (gD e b).kids])<|(e.set b<|cN<|gD e b).map aV) rt (iX (tR 8 true a 6<|aX iY e) rt) (b6 (aY a) (rU aV (g:=Go.Ev.eU) aO (sA:b<(e).length))<|Dc (f:=aV) (g:=Go.Ev.eU) aO (l:=e) (i:=b) (w:=cN<|gD e b))<|Kl 0 49 (gc b)<|Kf 0<|f (b+1) (e.set b<|cN<|gD e b) (by grind[zo,Cm]) gR) fun _ _=>M2 (.fza 0 7 5 [1,2]<|e.map aV) (re (tR 4 true 0 5<|aX iM d) (tR 4 true 0 5<|aX iM c) rt rt rt ti) (b6 (aY a) (tA aV e u.kids.length (oA:(e).length=u.kids.length))<|aX iY e)<|M2 (.fza 0 6 4 [1,2]<|d.map aQ) (vS (tR 4 true 0 4<|aX iM c) rt rt rt ti) (b6 (aY 0) (tA aQ d u.words.length (oA:(d).length=u.words.length))<|aX iM d)<|M2 (.fza 0 5 3 [1,2]<|c.map aQ) (jc rt rt rt ti) (b6 (aY 0) (tA aQ c u.head.length (oA:(c).length=u.head.length))<|aX iM c)<|Kf 1 (bQ (lc<|lc<|lc<|lc<|lc<|.cons (cV<|rr0<|c.map aQ)<|.cons (cV<|rr1<|d.map aQ)<|.cons (cV<|rr2<|e.map aV) .nil)<|by kernel_rfl:Le _ (AV.agg [iV 0,iV 0,iV 0,iV u.kind,AV.str u.label,AV.ls (c.map aQ),AV.ls (d.map aQ),AV.ls (e.map aV)]))
theorem QW:Go.Proofs.Builder.Extra Tryz.prog Tryz.ljoin_ren:=by
  repeat' (first|kernel_rfl|(intro w;kernel_rfl)|decide|constructor)
theorem TN(l:List aT)(sep:aT)(h1:l.length≤140737488355328)(h2:(Lib.join l sep).length≤140737488355328):kP 237 [.ls (l.map nW),.str sep] (.str (Lib.join l sep)):=Ny (Go.Proofs.enters_of Tryz.func237 (by kernel_rfl) rfl) (fun a b c d e f g h i j k=>Go.Proofs.Any.strings_Join Go.Proofs.Tryz.ljoin QW a b c d e f g h i j k) (fun a b c d=>Go.Proofs.Any.strings_Join_none Go.Proofs.Tryz.ljoin QW a b c d) l sep h1 h2
theorem Yz:Go.Proofs.Builder.Extra Tryz.prog Tryz.lrep_ren:=by
  repeat' (first|kernel_rfl|(intro w;kernel_rfl)|decide|constructor)
theorem V5(s:aT)(c:Nat)(h1:c≤9223372036854775807)(h2:s.length*c≤140737488355328):kP 278 [.str s,nV c] (.str (Lib.repeatL s c)):=Fo (Go.Proofs.enters_of Tryz.func278 (by kernel_rfl) rfl) (fun a b d e f=>Go.Proofs.Any.strings_Repeat Go.Proofs.Tryz.lrep Yz a b d e f) s c h1 h2
theorem Pe(s:aT)(ws:List PWord)(hw:∀w,w∈ws→1≤w.text.length∧w.text.length≤24)(hb:s.length+26*ws.length≤2^40)(hn:ws.length≤2^20):kP 280 [.str s,.ls (ws.map aQ)] (.str (mX s ws)):=by
  have rr0 b' (h:(mX s ws)=b':=by first|rfl|(exact hj0.1.symm)):=h;exact bM Tryz.func280<|Kl 2 8 (ln aQ ws)<|Mg 0<|VW (0:Nat) ws s [0,7,8,9] (fun a _ b=>([aj b,aW<|ws.map aQ,nV ws.length,nV a],[])) (fun a b c=>(ws).drop a=b∧mX c b=mX s ws∧List.length c+26*b.length≤2^40) (fun _ a _=>a.length) (et rfl<|by first|rfl|(first|simp_all|(refine⟨by(rw[←hj0.1,oD];first|rw[Er h1]|rw[Ep h1 h2]|rw[Eo h1 h2]),?_⟩;have q:=hj0.2;simp only[lA,lC,lN]at *;omega))) fun a b c d e=>Mc b (fun a=>have b:=fK d.1 a;have hj0:=gP (J:=fun a b=>mX b a=mX s ws∧List.length b+26*a.length≤2^40) (a:=c) a d.2;Kh 0 b<|Kf 1<|Le.str<|rr0 c) fun b f g=>let i:=[aZ 4 false 0 [ay [aj b.text,iV b.act,iV b.item,iV b.at_]]];have j:=ft d.1 g;have:=al j;have k:=fJ (enc:=aQ) d.1 g;have hj0:=ch (J:=fun a b=>mX b a=mX s ws∧List.length b+26*a.length≤2^40) (a:=c) g d.2;have:=hw b<|aN d.1 g;Kt 0 j<|Mx k<|Kv 3 (jJ (s:=c) (u:=[32]) (H:=av i) (by(first|first|assumption|omega|grind):(c).length+([32]).length≤2^62))<|K1 2 (.chr<|gD b.text 0) (zy (by first|omega|(simp only[oN,lM,lS]at *;omega)|(simp only[oN,lM,lS,lA,lR,lC,lN]at * <;>omega):0<(b.text).length))<|Kj 1 (Int.ofNat (gD b.text 0).toNat) 124 (fun j _=>Mt j<|Mt j<|Mt j<|MV j<|Kv 1 (jJ (s:=c++[32]) (u:=[92]) (H:=av i) (by(first|first|assumption|omega|grind):(c++[32]).length+([92]).length≤2^62))<|Kv 3 (jJ (s:=c++[32]++[92]) (u:=b.text) (H:=av i) (by(first|first|assumption|omega|grind):(c++[32]++[92]).length+(b.text).length≤2^62))<|Kl 1 31 (dq a)<|K1 0 (.frz 0 [0,7,8,9]) ti<|Mf<|e (a+1) f (c++[32]++[92]++b.text) (et (bW d.1 g)<|by first|exact⟨rfl,hb⟩|(refine⟨by(rw[←hj0.1,oD];first|rw[Er j]|rw[Ep j h2]|rw[Eo j h2]),?_⟩;grind))<|dt g) fun j _=>Kh 0 j<|Kh 0 j<|M1 (.chr<|gD b.text 0) (zy (by first|omega|(simp only[oN,lM,lS]at *;omega)|(simp only[oN,lM,lS,lA,lR,lC,lN]at * <;>omega):0<(b.text).length))<|Mh j<|Kw 0 j<|Mb (ah (Int.ofNat (gD b.text 0).toNat) 92) (fun k=>have:=kh k;Kv 0 (jJ (s:=c++[32]) (u:=[92]) (H:=av i) (by(first|first|assumption|omega|grind):(c++[32]).length+([92]).length≤2^62))<|Kv 3 (jJ (s:=c++[32]++[92]) (u:=b.text) (H:=av i) (by(first|first|assumption|omega|grind):(c++[32]++[92]).length+(b.text).length≤2^62))<|Kl 1 31 (dq a)<|K1 0 (.frz 0 [0,7,8,9]) ti<|Mf<|e (a+1) f (c++[32]++[92]++b.text) (et (bW d.1 g)<|by first|exact⟨rfl,hb⟩|(refine⟨by(rw[←hj0.1,oD];first|rw[Er j]|grind[Ep]|rw[Eo j k]),?_⟩;grind))<|dt g) fun k=>have:=G3 k;Kv 2 (jJ (s:=c++[32]) (u:=b.text) (H:=av i) (by(first|first|assumption|omega|grind):(c++[32]).length+(b.text).length≤2^62))<|Kl 1 31 (dq a)<|K1 0 (.frz 0 [0,7,8,9]) ti<|Mf<|e (a+1) f (c++[32]++b.text) (et (bW d.1 g)<|by first|exact⟨rfl,hb⟩|(refine⟨by(rw[←hj0.1,oD];first|rw[Er j]|rw[Ep j k]|grind[Eo]),?_⟩;grind))<|dt g
theorem se{u:TUnit}(h:mD u):mD (cN u):=by
  obtain⟨h1,h2⟩:=MX u
  refine⟨by rw[h1];exact h.1,fun x hx=>?_⟩
  obtain⟨y,hy,rfl⟩:=h2 x hx
  obtain⟨a,b,c,d,e⟩:=h.2 y hy
  rw[md]
  refine⟨by grind[TUnit.head],by grind[TUnit.words],c,fun w hw=>?_,fun w hw=>?_⟩
  · obtain⟨v,hv,rfl⟩:=j9.1 hw;exact d v hv
  · obtain⟨v,hv,rfl⟩:=j9.1 hw;exact e v hv
theorem CQ{u:TUnit}(h:rS u):mD (tu u):=by
  have e:bu (tu u)=[tu u]:=by rw[da];exact congrArg _ fT
  refine⟨by rw[jq];exact bT (rN (congrArg (1+ ·) mq)) (by omega),fun x hx=>?_⟩
  rw[e]at hx
  rw[mr.1 hx];exact h
theorem Dw(u:TUnit)(h:mD u):kP 261 [eU u] (eU (cN u)):=
  O0 u (bT h.1 (by omega)) fun x hx=>⟨bT (h.2 x hx).1 (by omega),bT (h.2 x hx).2.1 (by omega)⟩
theorem QQ(u:TUnit)(d:Nat)(hd:d≤2^20)(h:rS u):kP 277 [eU u,nV d] (.bool (DE u d)):=by
  have h1:=Dw (tu u) (CQ h)
  have h2:=xG (cN (tu u)) (se (CQ h))
  have hz:=WU d
  have rr0 b' (h:(DE u d)=b':=by first|rfl|(unfold DE;simp only[aS,ax,bS, *];done)):=h;exact bM Tryz.func277<|Kn 13 (aC 8<|Int.ofNat d) (fun a=>Kt 0 (bo a)<|Mp (aR.onArgs (.cons (bQ (lc<|lc<|lc<|lc<|lc<|lc<|lc<|.cons bL .nil)<|by kernel_rfl) .nil) h1:kP 261 [ay [iV 0,iV 0,iV 0,iV u.kind,aj u.label,aW (u.head.map aQ),aW (u.words.map aQ),ab]] _)<|Mt (bo a)<|Mp h2<|MV (bo a)<|Kf 0<|cb<|rr0<|kO<|cN<|tu u) fun a=>Mh (bw a)<|Mh (bw a)<|My (bw a)<|Ky 0<|rr0 false
theorem We(u:TUnit)(d:Nat)(hd:d≤2^20)(h:rS u)(hm:DE u d=false):kP 263 [eU u,nV d] (.str (gX u d)):=by
  have h1:=QQ u d hd h
  rw[hm]at h1
  have e:gX u d=[]:=by unfold gX;simp_all
  rw[e]
  exact bM Tryz.func263<|Kp 3 h1<|Kf 2<|bp<|aj []
def Nv(u:TUnit)(d:Nat)(z18:aT):Prop:=(z18=bif ax (ah u.kind (0:Int))then Lib.repeatL [(32:UInt8),(32:UInt8)] d++dX u.kind++([(32:UInt8)]++u.label)else Lib.repeatL [(32:UInt8),(32:UInt8)] d++dX u.kind)∧List.length z18≤(40:Nat)
noncomputable def Nw(u:TUnit)(d:Nat)(z18:aT):List AV×List AObj:=([AV.ptr 0 0 0 0,AV.str z18],[AObj.row 8 false 0 [AV.agg [iV u.act,iV u.item,iV u.n,iV u.kind,AV.str u.label,AV.ls (u.head.map aQ),AV.ls (u.words.map aQ),AV.ls (u.kids.map aV)]]])
def Nk(u:TUnit)(z18:aT)(z27:aT):Prop:=(z27=bif aC (0:Int) (Int.ofNat u.head.length)then mX (z18++[(58:UInt8)]) u.head else z18)∧List.length z27≤(6700:Nat)
noncomputable def Nj(u:TUnit)(z18:aT)(z27:aT):List AV×List AObj:=([AV.ptr 0 0 0 0,AV.str z27],[AObj.row 8 false 0 [AV.agg [iV u.act,iV u.item,iV u.n,iV u.kind,AV.str u.label,AV.ls (u.head.map aQ),AV.ls (u.words.map aQ),AV.ls (u.kids.map aV)]]])
theorem Wd(u:TUnit)(d:Nat)(hd:d≤2^20)(h:rS u)(hm:DE u d=true):kP 263 [eU u,nV d] (.str (gX u d)):=by
  have h1:=QQ u d hd h
  obtain⟨hd8,hlb,⟨hh1,hh2⟩,hw1,hw2⟩:=KO hm
  have hrl:=Lib.repeatL_length [32,32] d
  simp only[lC,lN]at hrl
  have h2:=V5 [32,32] d (by omega) (by grind)
  have hk:=wO u.kind
  have hkl:=zH u.kind
  have hp1:∀s:aT,s.length≤2^14→kP 280 [.str s,.ls (u.head.map aQ)] (.str (mX s u.head)):=fun s hs=>Pe s u.head hh2 (by omega) (by omega)
  have hp2:∀s:aT,s.length≤2^14→kP 280 [.str s,.ls (u.words.map aQ)] (.str (mX s u.words)):=fun s hs=>Pe s u.words hw2 (by omega) (by omega)
  rw[hm]at h1
  have rr0 b' (h:(gX u d)=b':=by first|rfl|(unfold gX;rw[hm];simp only[ax,cond_false];rw[←hz18.1,←hz27.1];first|(rw[h3];rfl)|(rw[h4];rfl)|(rw[h5];rfl)|(rw[h6];rfl)|(rw[h7];rfl))):=h;let q1:=[aZ 8 false 0 [ay [iV u.act,iV u.item,iV u.n,iV u.kind,aj u.label,aW (u.head.map aQ),aW (u.words.map aQ),aW (u.kids.map aV)]]];exact bM Tryz.func263<|Kp 3 h1<|Kp 2 h2<|Kp 1 hk<|Mv (jJ (s:=Lib.repeatL [32,32] d) (u:=dX u.kind) (H:=AHeap.mk 1000000 Tr.nil) (by(first|first|assumption|((try simp only[lA,lC,lN]);omega)|(simp only[lA,lC,lN]at *;omega)):(Lib.repeatL [32,32] d).length+(dX u.kind).length≤2^62))<|Mg 0<|Mj aT [2,5] (Nw u d) (Nv u d) (fun a=>Kn 2 (ah u.kind 0) (fun _=>Kv 2 (jJ (s:=[32]) (u:=u.label) (H:=av q1) (by(first|first|assumption|((try simp only[lA,lC,lN]);omega)|(simp only[lA,lC,lN]at *;omega)):([32]).length+(u.label).length≤2^62))<|Mv (jJ (s:=Lib.repeatL [32,32] d++dX u.kind) (u:=32::u.label) (H:=av q1) (by(first|first|assumption|((try simp only[lA,lC,lN]);omega)|(simp only[lA,lC,lN]at *;omega)):(Lib.repeatL [32,32] d++dX u.kind).length+(32::u.label).length≤2^62))<|Kf 0<|a (Lib.repeatL [32,32] d++dX u.kind++32::u.label) (by(refine⟨by first|simp_all|(rw[h2];rfl)|(rw[h3];rfl)|(rw[h0];rfl),?_⟩;grind):(Lib.repeatL [(32:UInt8),(32:UInt8)] d++dX u.kind++(32:UInt8)::u.label=bif ax (ah u.kind (0:Int))then Lib.repeatL [(32:UInt8),(32:UInt8)] d++dX u.kind++([(32:UInt8)]++u.label)else Lib.repeatL [(32:UInt8),(32:UInt8)] d++dX u.kind)∧(Lib.repeatL [(32:UInt8),(32:UInt8)] d++dX u.kind++(32:UInt8)::u.label).length≤40)) fun _=>Mf<|a (Lib.repeatL [32,32] d++dX u.kind) (by(refine⟨by first|simp_all|(rw[h2];rfl)|(rw[h3];rfl)|(rw[h0];rfl),?_⟩;grind):(Lib.repeatL [(32:UInt8),(32:UInt8)] d++dX u.kind=bif ax (ah u.kind (0:Int))then Lib.repeatL [(32:UInt8),(32:UInt8)] d++dX u.kind++([(32:UInt8)]++u.label)else Lib.repeatL [(32:UInt8),(32:UInt8)] d++dX u.kind)∧(Lib.repeatL [(32:UInt8),(32:UInt8)] d++dX u.kind).length≤40)) fun a hz18=>have hz18:(a=bif ax (ah u.kind (0:Int))then Lib.repeatL [(32:UInt8),(32:UInt8)] d++dX u.kind++([(32:UInt8)]++u.label)else Lib.repeatL [(32:UInt8),(32:UInt8)] d++dX u.kind)∧List.length a≤40:=hz18;Mj aT [2,5] (Nj u a) (Nk u a) (fun b=>Kl 2 26 (ln aQ u.head)<|Kb 0 (aC 0<|Int.ofNat u.head.length) (fun h3=>Kv 0 (jJ (s:=a) (u:=[58]) (H:=av q1) (by(first|first|assumption|((try simp only[lA,lC,lN]);omega)|(simp only[lA,lC,lN]at *;omega)):(a).length+([58]).length≤2^62))<|Kp 1 (hp1 (a++[58])<|by first|assumption|((try simp only[lA,lC,lN]);omega))<|Kf 0<|b (mX (a++[58]) u.head) (by(refine⟨by first|simp_all|(rw[h2];rfl)|(rw[h4];rfl)|(rw[h5];rfl),?_⟩;first|omega|(have q:=vJ (fun w hw=>(hh2 w hw).2) (a++[58]);grind)):(mX (a++[(58:UInt8)]) u.head=bif aC (0:Int) (Int.ofNat u.head.length)then mX (a++[(58:UInt8)]) u.head else a)∧List.length (mX (a++[(58:UInt8)]) u.head)≤6700)) fun h3=>Mf<|b a (by(refine⟨by first|simp_all|(rw[h2];rfl)|(rw[h4];rfl)|(rw[h5];rfl),?_⟩;first|omega|(have q:=vJ (fun w hw=>(hh2 w hw).2) (a++[58]);simp only[lA,lC,lN]at q;omega)):(a=bif aC (0:Int) (Int.ofNat u.head.length)then mX (a++[(58:UInt8)]) u.head else a)∧List.length a≤6700)) fun b hz27=>have hz27:(b=bif aC (0:Int) (Int.ofNat u.head.length)then mX (a++[(58:UInt8)]) u.head else a)∧List.length b≤6700:=hz27;Kl 2 35 (ln aQ u.words)<|Kb 0 (aC 0<|Int.ofNat u.words.length) (fun h4=>Kv 0 (jJ (s:=b) (u:=[32,124]) (H:=av q1) (by(first|first|assumption|((try simp only[lA,lC,lN]);omega)|(simp only[lA,lC,lN]at *;omega)):(b).length+([32,124]).length≤2^62))<|Kp 1 (hp2 (b++[32,124])<|by first|assumption|((try simp only[lA,lC,lN]);omega))<|Kf 2<|Le.str<|rr0<|mX (b++[32,124]) u.words) fun h4=>Kf 1<|Le.str<|rr0 b
theorem K4(u:TUnit)(d:Nat)(hd:d≤2^20)(h:rS u):kP 263 [eU u,nV d] (.str (gX u d)):=by
  grind[We,Wd]
noncomputable abbrev Hi(ep n:Nat):AObj:=.row 1 false 0 [.slice 2 ep 0 n none]
noncomputable abbrev Ec:AObj:=.row 1 false 0 [.func (.func 262) [] [.ptr 0 0 0 0,.ptr 1 0 0 0]]
noncomputable abbrev FX(ep:Nat)(l:List aT):AObj:=.row 1 true ep (l.map nW)
def sN(u:TUnit)(d:Nat)(l:List aT)(x0:Nat×List TUnit×Nat×Nat×List aT):Prop:=(u.kids).drop x0.1=x0.2.1∧x0.2.2.2.1=x0.2.2.2.2.length∧x0.2.2.2.2++dJ (d+(1:Nat)) x0.2.1=l++[gX u d]++dJ (d+(1:Nat)) u.kids∧x0.2.2.2.2.length+eV x0.2.1≤2^20
noncomputable def sM(u:TUnit)(d:Nat)(l:List aT)(x0:Nat×List TUnit×Nat×Nat×List aT):List AV×List AObj:=([nV d,AV.ptr 1 0 0 0,AV.ls (u.kids.map aV),nV u.kids.length,nV x0.1],[AObj.row 1 false 0 [AV.slice 2 x0.2.2.1 0 x0.2.2.2.1 none],AObj.row 1 false 0 [AV.func (Fn.func 262) [] [AV.ptr 0 0 0 0,AV.ptr 1 0 0 0]],AObj.row 1 true x0.2.2.1 (x0.2.2.2.2.map nW)])
theorem Yx:∀(u:TUnit)(d ep n:Nat)(l:List aT),n=l.length→l.length+nU u≤2^20→d+nU u≤2^20→(∀x,x∈bu u→rS x)→kC 262 [eU u,nV d,.ptr 0 0 0 0,.ptr 1 0 0 0] (av [Hi ep n,Ec,FX ep l])
    (fun v h=>∃y:Nat×Nat×List aT,(y.2.1=y.2.2.length∧y.2.2=l++eY d u)∧v=.tuple []∧h=av [Hi y.1 y.2.1,Ec,FX y.1 y.2.2]):=by
  refine TUnit.ind fun u ih d ep n l hn hl hd ht=>?_
  have hq:=jq u
  have hkl:=bf u
  have hf:=K4 u d (by omega) (ht u (dh u))
  have ihk:∀k,k∈u.kids→∀(d ep n:Nat)(l:List aT),n=l.length→l.length+nU k≤2^20→d+nU k≤2^20→kC 262 [eU k,nV d,.ptr 0 0 0 0,.ptr 1 0 0 0] (av [Hi ep n,Ec,FX ep l])
    (fun v h=>∃y:Nat×Nat×List aT,(y.2.1=y.2.2.length∧y.2.2=l++eY d k)∧v=.tuple []∧h=av [Hi y.1 y.2.1,Ec,FX y.1 y.2.2]):=fun k hk d ep n l a b c=>ih k hk d ep n l a b c (fun x hx=>ht x (bH hk hx))
  exact qY Tryz.func262 fun e=>Kp 3 hf<|Mg 0<|Mw (.apx ((l++[gX u d]).map nW)<|.go 3<|.le 16 (nV u.kids.length)<|.go 0<|.frz 3 [1,3,15,16,17]<|.loop (Nat×List TUnit×Nat×Nat×List aT) [1,3,15,16,17] (sM u d l) (sN u d l) (fun e=>e.2.1.length) (0,u.kids,(ep+1,n+1,l++[gX u d])) fun e=>.cs TUnit e.2.1 (.go 0<|.ff .fin) fun f _=>.go 0<|.tt<|.elem (eU f)<|.go 6<|.le 24 (nV<|d+1)<|.frz 3 [1,3,15,16,17,21,22,24]<|.eff (Nat×Nat×List aT) (fun _=>b9 []) (fun e=>av [Hi e.1 e.2.1,Ec,FX e.1 e.2.2]) (fun g=>g.2.1=g.2.2.length∧g.2.2=e.2.2.2.2++eY (d+1) f) fun _=>.go 0<|.le 26 (nV<|e.1+1)<|.go 0 .fin)<|et9 rt (iX (tR 1 true ep 4<|aX Jq l) rt) (et (mJ _ _:([aj (gX u d)]:List AV)≠[]) rt) (et (b6 (aY ep) (by first|assumption|omega|simp_all|(refine aM (m:=2^31) ?_ ?_ ?_<;>(try simp only[lM,lC,lN])<;>omega):n=(l.map nW).length) (by first|assumption|omega|(simp only[lM];omega)|(refine aM (m:=2^31) ?_ ?_ ?_<;>(try simp only[lM,lC,lN])<;>omega):small (n+([AV.str (gX u d)]).length) 16=true))<|co (f:=nW) (l:=l) (ws:=[gX u d])) (ln aV u.kids) (jc (tR 1 true (ep+1) 3<|aX Jq<|l++[gX u d]) rt rt ti) (aY<|sM u d l (0,u.kids,(ep+1,n+1,l++[gX u d]))) (et (rfl:List.drop 0 (u.kids)=u.kids) (by first|rfl|(first|grind|(have h1:=hj0.2.1;have h2:=hj0.2.2;rw[be]at h2;rw[mz]at h1;exact⟨hy1.1,(by rw[hy1.2,←h1];simp),(by rw[hy1.2,lA,kT];omega)⟩)):(n+1=(l++[gX u d]).length∧l++[gX u d]++dJ (d+1) u.kids=l++[gX u d]++dJ (d+1) u.kids∧(l++[gX u d]).length+eV u.kids≤2^20))) fun(f:Nat×List TUnit×Nat×Nat×List aT)(g:(sN u d l) f)=>et (fun(i:f.2.1=[])=>have j:=fK g.1 i;have:=gP (J:=fun e f=>f.2.1=f.2.2.length∧f.2.2++dJ (d+1) e=l++[gX u d]++dJ (d+1) u.kids∧f.2.2.length+eV e≤2^20) (a:=f.2.2) i g.2;et j<|e (f.2.2.1,f.2.2.2.1,f.2.2.2.2)<|by first|grind[wL,Co]|rfl) fun(e:TUnit)(i:List TUnit)(j:f.2.1=e::i)=>have o:=ft g.1 j;have:=al o;have p:=(fJ (enc:=aV) g.1 j).trans<|congrArg some<|aO e;have:=ch (J:=fun e f=>f.2.1=f.2.2.length∧f.2.2++dJ (d+1) e=l++[gX u d]++dJ (d+1) u.kids∧f.2.2.length+eV e≤2^20) (a:=f.2.2) j g.2;have q:=aN g.1 j;have r:f.2.2.2.2.length+nU e≤2^20:=(by grind[be]);have s:d+1+nU e≤2^20:=(by have:=iH q;omega);re o p (gc d) (jc (tR 1 true f.2.2.1 3<|aX Jq f.2.2.2.2) rt rt ti) (ihk e q (d+1) f.2.2.1 f.2.2.2.1 f.2.2.2.2 (by first|assumption|omega|(simp only[lM];omega)|(refine aM (m:=2^31) ?_ ?_ ?_<;>(try simp only[lM,lC,lN])<;>omega)) r s) fun(o:Nat×Nat×List aT)(_:o.2.1=o.2.2.length∧o.2.2=f.2.2.2.2++eY (d+1) e)=>et (gc f.1)<|Nx.mk (I:=sN u d l) (m:=fun e=>e.2.1.length) (S:=sM u d l) (x:=f) (f.1+1,i,(o.1,o.2.1,o.2.2)) (et (bW g.1 j) (by first|exact⟨by simp[hn],rfl,by simp;omega⟩|grind[be,mz,kT]:(o.2.1=o.2.2.length∧o.2.2++dJ (d+1) i=l++[gX u d]++dJ (d+1) u.kids∧o.2.2.length+eV i≤2^20)))<|dt j
theorem Yj(u:TUnit)(d:Nat)(hl:nU u≤2^19)(hd:d+nU u≤2^20)(ht:∀x,x∈bu u→rS x):kC 262 [eU u,nV d,.ptr 0 0 0 0,.ptr 1 0 0 0] (av [.row 1 false 0 [.nils],Ec])
    (fun v h=>∃y:Nat×Nat×List aT,(y.2.1=y.2.2.length∧y.2.2=eY d u)∧v=.tuple []∧h=av [Hi y.1 y.2.1,Ec,FX y.1 y.2.2]):=by
  have hq:=jq u
  have hkl:=bf u
  have hf:=K4 u d (by omega) (ht u (dh u))
  have ihk:∀k,k∈u.kids→∀(d ep n:Nat)(l:List aT),n=l.length→l.length+nU k≤2^20→d+nU k≤2^20→kC 262 [eU k,nV d,.ptr 0 0 0 0,.ptr 1 0 0 0] (av [Hi ep n,Ec,FX ep l])
    (fun v h=>∃y:Nat×Nat×List aT,(y.2.1=y.2.2.length∧y.2.2=l++eY d k)∧v=.tuple []∧h=av [Hi y.1 y.2.1,Ec,FX y.1 y.2.2]):=fun k hk d ep n l a b c=>Yx k d ep n l a b c (fun x hx=>ht x (bH hk hx))
  exact qY Tryz.func262 fun e=>Kp 3 hf<|Kl 5 16 (ln aV u.kids)<|Mg 0<|M0 (.ren [0,1,3,2] [] [1,3,15,16,17])<|M1 (.frz 3 [1,3,15,16,17]) (jc rt rt rt ti)<|VX aV u.kids (0:Nat) (1:Nat) ([gX u d]:List aT) [1,3,15,16,17] (fun e _ f g i=>([nV d,bJ 1 0 0 0,aW<|u.kids.map aV,nV u.kids.length,nV e],[aZ 1 false 0 [aE 2 f 0 g none],aZ 1 false 0 [bU (bY 262) [] [bJ 0 0 0 0,bJ 1 0 0 0]],aZ 1 true f<|i.map nW])) (fun e _ f g=>f=g.length∧g++dJ (d+1) e=[gX u d]++dJ (d+1) u.kids∧g.length+eV e≤2^20) (by first|rfl|(first|grind|(have h1:=hj0.2.1;have h2:=hj0.2.2;rw[be]at h2;rw[mz]at h1;exact⟨hy1.1,(by rw[hy1.2,←h1];simp),(by rw[hy1.2,lA,kT];omega)⟩))) (fun _ _ f g i _ _ _ j _=>Kh 0 j<|Mf<|e (f,g,i)<|by first|grind[wL,Co]|rfl) fun e _ f g i j m o p q r s _ t _=>have t:=(t).trans<|congrArg some<|aO o;have:=ch (J:=fun e f=>f.2.1=f.2.2.length∧f.2.2++dJ (d+1) e=[gX u d]++dJ (d+1) u.kids∧f.2.2.length+eV e≤2^20) (a:=(f,g,i)) r m;have j:=aN j r;have m:i.length+nU o≤2^20:=(by grind[be]);have r:d+1+nU o≤2^20:=(by have:=iH j;omega);Kt 0 s<|Mx t<|Kl 6 24 (gc d)<|M1 (.frz 3 [1,3,15,16,17,21,22,24]) (jc (tR 1 true f 3<|aX Jq i) rt rt ti)<|Mq (ihk o j (d+1) f g i (by first|assumption|omega) m r) fun f _=>Kl 0 26 (gc e)<|Kf 0<|q f.1 f.2.1 f.2.2<|by first|exact⟨by simp[hl],rfl,by simp;omega⟩|grind[be,mz,kT]
theorem Wc(u:TUnit)(h:mD u)(hv:kO (cN u)=false):kP 236 [eU u] (.ls (([]:List aT).map nW)):=by
  have h1:=Dw u h
  have h2:=xG (cN u) (se h)
  exact bM Tryz.func236<|Kp 2 h1<|Mp h2<|Kt 0 (bo hv)<|Kf 0 bL
theorem Wb(u:TUnit)(h:mD u)(hv:kO (cN u)=true):kP 236 [eU u] (.ls ((eY 0 u).map nW)):=by
  have h1:=Dw u h
  have h2:=xG (cN u) (se h)
  have h3:=Yj u 0 h.1 (by have:=h.1;omega) h.2
  have rr0 b' (h:((eY 0 u).map nW)=b':=by first|rfl|(rw[hy0.2])):=h;exact bM Tryz.func236<|Kp 2 h1<|Mp h2<|Kh 0 (bw hv)<|Mg 5<|M0 (.ren [1,2,0] [] [3,10,11])<|M1 (.frz 2 [3,10,11]) (b6 rt rt ti)<|Mq h3 fun a hy0=>Mg 1<|M2 (.fsl 0 [] 2<|a.2.2.map nW) ti (b6 (aY a.1) (tA nW a.2.2 a.2.1 (by first|assumption|omega:(a.2.2).length=a.2.1))<|aX Jq a.2.2)<|Ml 2 (eT (a.2.2.map nW) false<|aX Jq a.2.2)<|Mf<|cV<|rr0<|a.2.2.map nW
theorem Yf(u:TUnit)(h:mD u)(hv:kO (cN u)=false):kP 214 [eU u] (.tuple [.str (xr u).1,iV (xr u).2]):=by
  have h1:=Wc u h hv
  have e:xr u=([],1):=by unfold xr;simp_all
  rw[e]
  exact bM Tryz.func214<|Kp 3 h1<|Kf 6<|bp<|b9 [aj [],iV 1]
theorem Ye(u:TUnit)(h:mD u)(hv:kO (cN u)=true):kP 214 [eU u] (.tuple [.str (xr u).1,iV (xr u).2]):=by
  have h1:=Wb u h hv
  have hlen:=kT 0 u
  have hq:=jq u
  have hm:=h.1
  have hjl:=Qk (sep:=[10]) (B:=2^14) (l:=eY 0 u) (fun s hs=>zE 0 u s hs)
  rw[hlen]at hjl
  have hj2:(Lib.join (eY 0 u) [10]).length≤140737488355328:=bT hjl (bT (ei _ hm) (by grind))
  have hj3:(Lib.join (eY 0 u) [10]).length≤2^40:=bT hjl (bT (ei _ hm) (by grind))
  have hj:=TN (eY 0 u) [10] (by omega) hj2
  have hz:ah (.ofNat (eY 0 u).length) 0=false:=by grind[Rx]
  have e:xr u=(bif aC 16384 (.ofNat (Lib.join (eY 0 u) [10]++[10]).length)then([],6)else(Lib.join (eY 0 u) [10]++[10],0)):=by unfold xr;simp_all
  rw[e]
  clear e
  generalize Lib.join (eY 0 u) [10]=J at *
  cases hb:aC 16384 (.ofNat (J++[10]).length)
  · have hb2:aC 16384 (.ofNat (J++[10]).length)=false:=hb
    exact bM Tryz.func214<|Kp 3 h1<|Kl 2 9 (ln nW<|eY 0 u)<|Kh 0 hz<|Kp 0 hj<|Mv (jJ (s:=J) (u:=[10]) (H:=av [aZ 8 false 0 [ay [iV u.act,iV u.item,iV u.n,iV u.kind,aj u.label,aW<|u.head.map aQ,aW<|u.words.map aQ,aW<|u.kids.map aV]]]) (by(first|first|assumption|grind|omega|(simp only[lA,lC,lN]at *;omega)):(J).length+([10]).length≤2^62))<|Kh 3 hb<|Kf 2<|bp<|b9 [aj<|J++[10],iV 0]
  · have hb2:aC 16384 (.ofNat (J++[10]).length)=true:=hb
    exact bM Tryz.func214<|Kp 3 h1<|Kl 2 9 (ln nW<|eY 0 u)<|Kh 0 hz<|Kp 0 hj<|Mv (jJ (s:=J) (u:=[10]) (H:=av [aZ 8 false 0 [ay [iV u.act,iV u.item,iV u.n,iV u.kind,aj u.label,aW<|u.head.map aQ,aW<|u.words.map aQ,aW<|u.kids.map aV]]]) (by(first|first|assumption|grind|omega|(simp only[lA,lC,lN]at *;omega)):(J).length+([10]).length≤2^62))<|Kt 3 hb<|Kf 1<|bp<|b9 [aj [],iV 6]
theorem WI(u:TUnit)(h:mD u):kP 214 [eU u] (.tuple [.str (xr u).1,iV (xr u).2]):=by
  grind[Yf,Ye]
def Wl(u:TUnit):Bool:=Hp u&&(ax (ah u.kind 0)&&ah (xr u).2 0)
theorem Wi(u:TUnit)(h:mD u):kP 164 [eU u] (.bool (Wl u)):=by
  have q1:=WI u h
  have q2:=Xd u h
  have rr0 b' (h:(Wl u)=b':=by first|rfl|(unfold Wl;rw[h0];rfl)|(unfold Wl;rw[h0,h1];rfl)|(unfold Wl;rw[h0,h1,h2];rfl)):=h;exact bM Tryz.func164<|Kp 2 q1<|Kp 5 q2<|Kb 0 (Hp u) (fun h0=>Kt 0 h0<|Kt 0 h0<|Ku 0 h0<|Kn 0 (ah u.kind 0) (fun h1=>Kt 0 (bo h1)<|Ku 0 (bo h1)<|Kf 0<|cb<|rr0<|ah (xr u).2 0) fun h1=>Mh (bw h1)<|My (bw h1)<|Ky 0<|rr0 false) fun h0=>Mh h0<|Mh h0<|My h0<|Ky 2<|rr0 false
/-- What an item must be, so that the walks can count. -/
def x9(x:PItem):Prop:=nb x∧(x.at_.length<2^40∧∀s,s∈x.at_→s.label.length≤2^39)∧(x.to.length<2^40∧∀s,s∈x.to→s.label.length≤2^39)∧(x.old.length<2^40∧∀s,s∈x.old→s.length≤2^39)∧(x.new.length<2^40∧∀s,s∈x.new→s.length≤2^39)∧x.label.length≤2^39∧x.for_.length≤2^39∧x.start.event.length≤2^39∧mD x.unit
/-- What a valid item is known to be. -/
def AX(x:PItem):Prop:=(x.kind=0∨x.kind=6→iD x.where_=true)∧(x.kind=0→Wl x.unit=true)∧(x.kind=2∨x.kind=3→qb x.old=true∧Bl x.nth_=true)∧(x.kind=2∨x.kind=3∨x.kind=4→qb x.new=true)
theorem qv{l:List aT}{n:Int}(h:qa l n=true):qb l=true:=by
  simp_all[qa]
theorem VC(x:PItem)(hx:x9 x)(h0:0≤x.kind)(h6:x.kind≤6):∃b,kP 113 [eI x] (.bool b)∧(b=true→AX x):=by
  obtain⟨k,a,t,w,n,u,o,ne,l,f,s,ac,im,d,e,bs⟩:=x
  obtain⟨hf,⟨ha,has⟩,⟨ht,hts⟩,⟨ho,hos⟩,⟨hn,hns⟩,hl,hfo,hse,hu⟩:=hx
  have hz:mb bd:=⟨by grind,by grind,by grind,trivial⟩
  have n0:(0:Nat)<2^60:=by omega
  obtain⟨f1,f2,f3,f4,f5,f6,f7⟩:=hf
  have hff:∀k w n,nb ⟨k,a,t,w,n,u,o,ne,l,f,s,ac,im,d,e,bs⟩:=fun _ _ _=>⟨f1,f2,f3,f4,f5,f6,f7⟩
  have h0:0≤k:=h0
  have h6:k≤6:=h6
  have hk:k=0∨k=1∨k=2∨k=3∨k=4∨k=5∨k=6:=by omega
  rcases hk with rfl|rfl|rfl|rfl|rfl|rfl|rfl
  · refine⟨_,oO ⟨0,a,t,w,n,u,o,ne,l,f,s,ac,im,d,e,bs⟩ (n9 ⟨0,a,t,w,n,u,o,ne,l,f,s,ac,im,d,e,bs⟩ 0) 161 162 _ _ rfl rfl (UD _) (sT _ (hff _ _ _) (xQ ⟨0,a,t,w,n,u,o,ne,l,f,s,ac,im,d,e,bs⟩ (n9 ⟨0,a,t,w,n,u,o,ne,l,f,s,ac,im,d,e,bs⟩ 0)) ⟨f1,n0,n0,n0,n0,f6,trivial⟩) (TD a t w n u o ne l f s ac im d e bs (Wl u) (Wi u hu)) ha has hfo hse,fun h=>?_⟩
    simp only[bz]at h
    exact⟨fun _=>h.2.2.2.2.1,fun _=>h.2.2.2.2.2,fun q=>(by rcases q with q|q<;>cases q),fun q=>(by rcases q with q|q|q<;>cases q)⟩
  · refine⟨_,oO ⟨1,a,t,w,n,u,o,ne,l,f,s,ac,im,d,e,bs⟩ (n9 ⟨1,a,t,w,n,u,o,ne,l,f,s,ac,im,d,e,bs⟩ 1) 165 166 _ _ rfl rfl (UC _) (sT _ (hff _ _ _) (xQ ⟨1,a,t,w,n,u,o,ne,l,f,s,ac,im,d,e,bs⟩ (n9 ⟨1,a,t,w,n,u,o,ne,l,f,s,ac,im,d,e,bs⟩ 1)) ⟨f1,n0,n0,n0,n0,hz,trivial⟩) (TC a t w n u o ne l f s ac im d e bs) ha has hfo hse,fun h=>?_⟩
    exact⟨fun q=>(by rcases q with q|q<;>cases q),fun q=>(by cases q),fun q=>(by rcases q with q|q<;>cases q),fun q=>(by rcases q with q|q|q<;>cases q)⟩
  · refine⟨_,oO ⟨2,a,t,w,n,u,o,ne,l,f,s,ac,im,d,e,bs⟩ (n9 ⟨2,a,t,w,n,u,o,ne,l,f,s,ac,im,d,e,bs⟩ 2) 167 168 _ _ rfl rfl (UB _) (sT _ (hff _ _ _) (xQ ⟨2,a,t,w,n,u,o,ne,l,f,s,ac,im,d,e,bs⟩ (n9 ⟨2,a,t,w,n,u,o,ne,l,f,s,ac,im,d,e,bs⟩ 2)) ⟨f1,n0,f3,f4,n0,hz,trivial⟩) (TB a t w n u o ne l f s ac im d e bs ho hn hos hns) ha has hfo hse,fun h=>?_⟩
    simp only[bz]at h
    exact⟨fun q=>(by rcases q with q|q<;>cases q),fun q=>(by cases q),fun _=>⟨qv h.2.2.2.2.1,h.2.2.2.2.2.2⟩,fun _=>qv h.2.2.2.2.2.1⟩
  · refine⟨_,oO ⟨3,a,t,w,n,u,o,ne,l,f,s,ac,im,d,e,bs⟩ (n9 ⟨3,a,t,w,n,u,o,ne,l,f,s,ac,im,d,e,bs⟩ 3) 171 172 _ _ rfl rfl (UA _) (sT _ (hff _ _ _) (xQ ⟨3,a,t,w,n,u,o,ne,l,f,s,ac,im,d,e,bs⟩ (n9 ⟨3,a,t,w,n,u,o,ne,l,f,s,ac,im,d,e,bs⟩ 3)) ⟨f1,n0,f3,f4,n0,hz,trivial⟩) (TA a t w n u o ne l f s ac im d e bs ho hn hos hns) ha has hfo hse,fun h=>?_⟩
    simp only[bz]at h
    exact⟨fun q=>(by rcases q with q|q<;>cases q),fun q=>(by cases q),fun _=>⟨qv h.2.2.2.2.1,h.2.2.2.2.2.2.1⟩,fun _=>qv h.2.2.2.2.2.1⟩
  · refine⟨_,oO ⟨4,a,t,w,n,u,o,ne,l,f,s,ac,im,d,e,bs⟩ (n9 ⟨4,a,t,w,n,u,o,ne,l,f,s,ac,im,d,e,bs⟩ 4) 173 174 _ _ rfl rfl (Uu _) (sT _ (hff _ _ _) (xQ ⟨4,a,t,w,n,u,o,ne,l,f,s,ac,im,d,e,bs⟩ (n9 ⟨4,a,t,w,n,u,o,ne,l,f,s,ac,im,d,e,bs⟩ 4)) ⟨f1,n0,n0,f4,n0,hz,trivial⟩) (Tu a t w n u o ne l f s ac im d e bs hn hns) ha has hfo hse,fun h=>?_⟩
    simp only[bz]at h
    exact⟨fun q=>(by rcases q with q|q<;>cases q),fun q=>(by cases q),fun q=>(by rcases q with q|q<;>cases q),fun _=>qv h.2.2.2.2⟩
  · refine⟨_,oO ⟨5,a,t,w,n,u,o,ne,l,f,s,ac,im,d,e,bs⟩ (n9 ⟨5,a,t,w,n,u,o,ne,l,f,s,ac,im,d,e,bs⟩ 5) 175 176 _ _ rfl rfl (Ut _) (sT _ (hff _ _ _) (xQ ⟨5,a,t,w,n,u,o,ne,l,f,s,ac,im,d,e,bs⟩ (n9 ⟨5,a,t,w,n,u,o,ne,l,f,s,ac,im,d,e,bs⟩ 5)) ⟨f1,n0,n0,n0,n0,hz,trivial⟩) (Tt a t w n u o ne l f s ac im d e bs hl) ha has hfo hse,fun h=>?_⟩
    exact⟨fun q=>(by rcases q with q|q<;>cases q),fun q=>(by cases q),fun q=>(by rcases q with q|q<;>cases q),fun q=>(by rcases q with q|q|q<;>cases q)⟩
  · refine⟨_,oO ⟨6,a,t,w,n,u,o,ne,l,f,s,ac,im,d,e,bs⟩ (n9 ⟨6,a,t,w,n,u,o,ne,l,f,s,ac,im,d,e,bs⟩ 6) 178 179 _ _ rfl rfl (Us _) (sT _ (hff _ _ _) (xQ ⟨6,a,t,w,n,u,o,ne,l,f,s,ac,im,d,e,bs⟩ (n9 ⟨6,a,t,w,n,u,o,ne,l,f,s,ac,im,d,e,bs⟩ 6)) ⟨f1,f2,n0,n0,n0,hz,trivial⟩) (Ts a t w n u o ne l f s ac im d e bs ht hts) ha has hfo hse,fun h=>?_⟩
    simp only[bz]at h
    exact⟨fun _=>h.2.2.2.2.1,fun q=>(by cases q),fun q=>(by rcases q with q|q<;>cases q),fun q=>(by rcases q with q|q|q<;>cases q)⟩
theorem wG{u:TUnit}(h:OkB u):∀x,x∈bu u→x.head.length<2^30∧x.words.length<2^30:=fun x hx=>⟨mp (h.w x hx).1 (by omega),mp (h.w x hx).2 (by omega)⟩
theorem Dn(p:PId)(u:TUnit)(hn:nU u≤1024): -1≤pM p u∧pM p u≤2^20:=by
  cases h:iK p u with
  |false=>rw[Ps h];omega
  | true=>
    obtain⟨q,i,h1,_,h3,h4,_⟩:=vo u h
    have:=dP h1
    grind[bf]
theorem yK(w:Int)(u:TUnit)(p:PId)(hn:nU u≤1024): -1≤(dc w u p).1.at_∧(dc w u p).1.at_≤2^41:=by
  have hb:=Dn p u hn
  have key:∀n:Int,0≤n→n≤1→ -1≤(nL u p n).1.at_∧(nL u p n).1.at_≤2^41:=fun n h0 h1=>by
    unfold nL
    cases iK p u
    · exact⟨by show(-1:Int)≤0;omega,by show(0:Int)≤_;omega⟩
    grind
  unfold dc
  cases ah w 0
  · cases ah w 1
    · grind
    · show -1≤Int.ofNat _∧Int.ofNat _≤2^41
      have:(dA p u).kids.length≤1024:=by
        cases h:bB p u with
        | true=>
          have:=dP (su h).1
          grind[bf]
        |false=>unfold dA;rw[h];exact bN _
      grind
  simp_all
theorem m0{u:TUnit}(hu:OkB u)(p:PId):kP 17 [eU u,aK p] (.tuple [eU (dA p u),.bool (bB p u)]):=Q7 p u (bT hu.n (by omega)) (wG hu)
theorem gp{u:TUnit}(hu:OkB u)(p:PId):kP 18 [eU u,aK p] (.tuple [aK (rF p u),iV (pM p u),.bool (iK p u)]):=Po p u (bT hu.n (by omega))
theorem wF{u:TUnit}(hu:OkB u)(p:List PStep)(hp:p.length<2^40∧∀s,s∈p→s.label.length≤2^39):kP 114 [eU u,.ls (p.map az)] (.tuple [aK (aF u p).1,iV (aF u p).2]):=
  Nm u p (Uj u p (bT hu.n (by omega)) hp.1 hp.2) (bT hu.n (by omega))
theorem K9{u:TUnit}(hu:OkB u)(p:PId):kP 251 [eU u,aK p] (.tuple [fq (dc 0 u p).1,iV (dc 0 u p).2]):=Qz u _ p _ (m0 hu p)
theorem K8{u:TUnit}(hu:OkB u)(p:PId):kP 254 [eU u,aK p] (.tuple [fq (dc 1 u p).1,iV (dc 1 u p).2]):=Qq u _ p _ (m0 hu p)
theorem K7{u:TUnit}(hu:OkB u)(p:PId):kP 256 [eU u,aK p] (.tuple [fq (dc 2 u p).1,iV (dc 2 u p).2]):=QU u p _ _ _ (gp hu p) (by have:=Dn p u hu.n;omega)
theorem K6{u:TUnit}(hu:OkB u)(p:PId):kP 258 [eU u,aK p] (.tuple [fq (dc 3 u p).1,iV (dc 3 u p).2]):=QY u p _ _ _ (gp hu p) (by have:=Dn p u hu.n;omega)
theorem wb{w:Int}(h:iD w=true):w=0∨w=1∨w=2∨w=3:=by
  unfold iD at h
  rw[bz]at h
  have h1:=gr h.1
  have h2:=gr h.2
  omega
/-- Where a unit is inserted. -/
theorem Tj{u:TUnit}(hu:OkB u)(p:List PStep)(hp:p.length<2^40∧∀s,s∈p→s.label.length≤2^39)(w:Int)(hw:iD w=true):kP 194 [eU u,.ls (p.map az),iV w]
    (.tuple [aK (Cq (aF u p).2 (dc w u (aF u p).1).1 (dc w u (aF u p).1).2).1.id,iV (Cq (aF u p).2 (dc w u (aF u p).1).1 (dc w u (aF u p).1).2).1.at_,iV (Cq (aF u p).2 (dc w u (aF u p).1).1 (dc w u (aF u p).1).2).2]):=by
  rcases wb hw with rfl|rfl|rfl|rfl
  · exact rK 0 _ rfl rfl u p _ _ _ _ (wF hu p hp) (K9 hu _)
  · exact rK 1 _ rfl rfl u p _ _ _ _ (wF hu p hp) (K8 hu _)
  · exact rK 2 _ rfl rfl u p _ _ _ _ (wF hu p hp) (K7 hu _)
  · exact rK 3 _ rfl rfl u p _ _ _ _ (wF hu p hp) (K6 hu _)
theorem WD{u:TUnit}(hu:OkB u)(p q:PId)(w:Int)(hw:iD w=true):∃bs,kP 196 [eU u,aK p,aK q,iV w]
    (.tuple [fq (n7 p q (rF p u) (pM p u) (iK p u) ((pR q u).any (bj p)) bs (dc w u q).1 (dc w u q).2).1,iV (n7 p q (rF p u) (pM p u) (iK p u) ((pR q u).any (bj p)) bs (dc w u q).1 (dc w u q).2).2]):=by
  have hb:=Dn p u hu.n
  have hb: -1≤pM p u∧pM p u≤2^40:=by omega
  have hn:nU u≤2^20:=bT hu.n (by omega)
  have hal:(pR q u).length<2^40:=by
    grind[mY,pR]
  have hC:=Lt (pR q u) p hal
  rcases wb hw with rfl|rfl|rfl|rfl
  · exact⟨_,Gl 0 _ rfl rfl rfl u p q _ _ _ _ _ _ _ hb (yK 0 u q hu.n) (gp hu p) (HA q u hn) hC (K9 hu q)⟩
  · exact⟨_,Gl 1 _ rfl rfl rfl u p q _ _ _ _ _ _ _ hb (yK 1 u q hu.n) (gp hu p) (HA q u hn) hC (K8 hu q)⟩
  · exact⟨_,QI u p q _ _ _ _ _ _ _ hb (yK 2 u q hu.n) (gp hu p) (HA q u hn) hC (K7 hu q)⟩
  · exact⟨_,QH u p q _ _ _ _ _ _ _ hb (yK 3 u q hu.n) (gp hu p) (HA q u hn) hC (K6 hu q)⟩
theorem GD{B:Nat}:∀{l:List TUnit},(∀x,x∈l→(ni x).length≤B)→(l.flatMap ni).length≤B*l.length
  |[],_=>bN _
  | x::r,h=>by
    have h1:=h x e9
    have h2:=GD (l:=r) fun y hy=>h y (fk _ hy)
    rw[List.flatMap_cons,lA,lC,Nat.mul_succ];omega
theorem OS{u:TUnit}(h:mD u):(nq u).length≤2^29:=by
  rw[Sw]
  have h1:∀x,x∈bu u→(ni x).length≤600:=fun x hx=>by
    obtain⟨a,b,_⟩:=h.2 x hx
    unfold ni;rw[lA];omega
  have h2:=GD h1
  have h3:(bu u).length=nU u:=by rw[l9];unfold dj;rw[lM]
  rw[h3]at h2
  have:=h.1
  omega
theorem X4{e:Int}{sp:PSpot}{e2:Int}(h:(Cq e sp e2).2=0):e=0∧e2=0∧(Cq e sp e2).1=sp:=by
  unfold Cq at h ⊢
  cases h1:ah e 0 with
  |false=>rw[h1]at h;rw[show e=0 from h]at h1;cases h1
  | true=>
    rw[h1]at h
    cases h2:ah e2 0 with
    |false=>rw[h2]at h;rw[show e2=0 from h]at h2;cases h2
    |true=>exact⟨kh h1,kh h2,rfl⟩
theorem TT{u u2:TUnit}{te:Int}{full cf:Bool}:(Nb u te full cf u2).1=u∨(full=false∧cf=false∧(Nb u te full cf u2).1=u2):=by
  unfold Nb;cases ah te 0<;>cases full<;>cases cf<;>first|exact .inl rfl|exact .inr ⟨rfl,rfl,rfl⟩
/-- What an outcome is known to be. -/
def Bk(u:TUnit)(d:PDeed)(v:TUnit):Prop:=OkB v∧Rt u v
theorem Bk.refl{u:TUnit}(hu:OkB u){d:PDeed}:Bk u d u:=⟨hu,rfl⟩
/-- An insertion has an outcome. -/
theorem Vg{u:TUnit}(hu:OkB u)(f:TUnit)(d:PDeed)(hd:x9 d.it)(hg:AX d.it)(hk:d.it.kind=0):∃r:pS,kP 124 [eU u,eU f,aU d] (eE r)∧Bk u d r.1:=by
  have hw:=hg.1 (.inl hk)
  have hD:=Rc u d.it _ _ _ (by rw[hk];rfl) (Tj hu d.it.at_ hd.2.1 d.it.where_ hw)
  cases he:ah (Cq (aF u d.it.at_).2 (dc d.it.where_ u (aF u d.it.at_).1).1 (dc d.it.where_ u (aF u d.it.at_).1).2).2 0 with
  |false=>exact⟨(u,_),T1 u f d _ _ _ he hD,.refl hu⟩
  | true=>
    have e0:=kh he
    obtain⟨e1,e2,e3⟩:=X4 e0
    obtain⟨n,n1,n2,n3⟩:=GQ hu (qB e1) e2
    rw[e0,e3,n1]at hD
    have ht:=hd.2.2.2.2.2.2.2.2
    have hS:=O8 d.act d.item d.it.unit (bT ht.1 (by decide)) (OS ht) (fun x hx=>⟨bT (ht.2 x hx).1 (by decide),bT (ht.2 x hx).2.1 (by decide)⟩)
    have hsn:=O9 d.act d.item d.it.unit 0 0
    have hsi:=vw d.act d.item d.it.unit 0 0
    have hsw:=J2 d.act d.item 300 d.it.unit 0 0 (fun x hx=>⟨(ht.2 x hx).1,(ht.2 x hx).2.1⟩)
    generalize c9 d.act d.item d.it.unit 0 0=X at *
    have hn:=hu.n
    have hm:=ht.1
    have hX:nU X≤2^19:=by omega
    have hkp:(dA (dc d.it.where_ u (aF u d.it.at_).1).1.id u).kids.length<2^40:=by
      cases h:bB (dc d.it.where_ u (aF u d.it.at_).1).1.id u with
      |true=>have:=dP (su h).1;have:=bf (dA (dc d.it.where_ u (aF u d.it.at_).1).1.id u);omega
      |false=>unfold dA;rw[h];exact mp (bN 0) (by decide)
    have hiu:(dj u).length<2^40:=by rw[←l9];omega
    have hix:(dj X).length<2^40:=by rw[←l9];omega
    refine⟨_,TP u f _ X _ d _ n (nU u) (nU X) _ _ _ _ (dj u) (dj X) (by omega) (by omega) hD (m0 hu _) hS (yA _ X hkp) (Ll u X _ (by omega) (by omega)) (EU u (by omega)) (EU X (by omega)) (Qu u (by omega)) (Qu X (by omega)) (cfX (dj X) (dj u) hiu hix) (Oi _ n X u (by omega) (wG hu) n3),?_⟩
    rcases TT (u:=u) (u2:=dK (dc d.it.where_ u (aF u d.it.at_).1).1.id (dC n X) u) (te:=yB (dA (dc d.it.where_ u (aF u d.it.at_).1).1.id u) X) (full:=ax (aC (Int.ofNat (dA (dc d.it.where_ u (aF u d.it.at_).1).1.id u).kids.length) 64)||(Rl u (dc d.it.where_ u (aF u d.it.at_).1).1.id X||aC 1024 (Int.ofNat (nU u+nU X)))) (cf:=(dj X).any fun i=>(dj u).any (bj i))with q|⟨q1,q2,q3⟩
    · rw[q];exact .refl hu
    · rw[q3]
      rw[BH,BH]at q1
      have q4:=aD q1.2.2
      simp only[oN]at q4
      refine⟨hu.ins (by rw[hsi];exact PZ _ _ _ _) (fun p hp hq=>?_) (by omega) hsw,KV (f:=dC n X) (fun _=>rfl) u⟩
      rw[List.any_eq_false]at q2
      have:=q2 p hp
      exact this (List.any_eq_true.2 ⟨p,hq,m8 p⟩)
/-- A unit is taken away. -/
theorem Vw{u:TUnit}(hu:OkB u){p:PId}(hp:iK p u=true):∃q i,q∈bu u∧rF p u=bq q∧pM p u=Int.ofNat i∧i<q.kids.length∧bq (gD q.kids i)=p∧kP 152 [eU u,aK p] (eU (dK (bq q) (gG i) u)):=by
  obtain⟨q,i,h1,h2,h3,h4,h5⟩:=vo u hp
  have hP:=gp hu p
  rw[h2,h3,hp]at hP
  exact⟨q,i,h1,h2,h3,h4,h5,yh u _ p _ i hP (Om (bq q) i u (bT hu.n (by decide)) (wG hu) fun v hv hid=>by rw[hu.uni hv h1 ((gu _ v).1 hid)];exact h4)⟩
theorem XR{u x:TUnit}(hu:OkB u)(d:PDeed)(hp:iK (bq x) u=true):∃r:pS,kP 125 [eU u,eU x,aU d] (eE r)∧Bk u d r.1:=by
  obtain⟨q,i,h1,h2,h3,h4,h5,h6⟩:=Vw hu hp
  exact⟨_,TX u x _ d h6,(hu.del h1 h4).1,KV (f:=gG i) (fun _=>rfl) u⟩
theorem Di(l:List PWord):(vi l).length≤256:=by
  unfold vi
  cases h:aC 256 (Int.ofNat l.length)with
  |true=>exact bN _
  |false=>have:=aD h;simp only[oN]at this;show l.length≤256;omega
theorem Pw(a b:Int)(w:List PWord)(old new:List aT)(n:Int):(Fm a b w old new n).1.length≤256:=by
  unfold Fm
  cases ah (Int.ofNat old.length) 0
  · cases ah (Int.ofNat (n4 (uK (b7 w) old) n).length) 0
    · exact Di _
    · exact bN _
  · exact bN _
theorem TR(a b:Int)(w:List PWord)(part new:List aT)(n:Int):(DN a b w part new n).1.length≤256:=by
  unfold DN
  cases(ah (Int.ofNat new.length) 0||(ah (Int.ofNat part.length) 0&&ax (ah n 0)))
  · cases ah (Int.ofNat part.length) 0
    · cases ah (Int.ofNat (n4 (uK (b7 w) part) n).length) 0
      · exact Di _
      · exact bN _
    · exact Di _
  · exact bN _
theorem tF{l:List aT}(h:qb l=true):l.length≤256:=by
  unfold qb at h
  rw[bz]at h
  have:=gr h.1
  simp only[oN]at this
  omega
theorem KH{n:Int}(h:Bl n=true):0≤n∧n≤256:=by
  unfold Bl at h
  rw[bz]at h
  exact⟨gr h.1,gr h.2⟩
theorem Cy{u:TUnit}(hu:OkB u)(q:PId){l:List PWord}(hl:l.length≤300):OkB (dK q (mV l) u):=hu.keep (fun _=>⟨rfl,rfl⟩) fun v hv=>⟨(hu.w v hv).1,hl⟩
theorem PR{u:TUnit}(hu:OkB u)(q:PId){l:List PWord}(hl:l.length≤300):OkB (dK q (z8 l) u):=hu.keep (fun _=>⟨rfl,rfl⟩) fun v hv=>⟨hl,(hu.w v hv).2⟩
theorem NX{u:TUnit}(hu:OkB u)(q:PId)(s:aT):OkB (dK q (pz s) u):=hu.keep (fun _=>⟨rfl,rfl⟩) fun v hv=>hu.w v hv
theorem JD{u u2:TUnit}{d:PDeed}{e:Int}(h:OkB u)(h2:Bk u d u2):Bk u d (ES u e u2).1:=by
  have h:=Bk.refl h (d:=d)
  unfold ES;cases ah e 0;exact h;exact h2
theorem Xr{u x:TUnit}(hu:OkB u)(hx:x∈bu u)(hp:iK (bq x) u=true)(d:PDeed)(hg:AX d.it)(hk:d.it.kind=2):∃r:pS,kP 126 [eU u,eU x,aU d] (eE r)∧Bk u d r.1:=by
  obtain⟨h1,h2⟩:=hg.2.2.1 (.inl hk)
  have h3:=tF h1
  have h4:=tF (hg.2.2.2 (.inl hk))
  obtain⟨h5,h6⟩:=KH h2
  have h7:=(hu.w x hx).2
  have hR:=TZ d.act d.item x.words d.it.old d.it.new d.it.nth_ (by omega) (by omega) (by omega) h5 (by omega) (kw h5)
  exact⟨_,Sp u x _ d _ _ hR (Od (bq x) _ u (bT hu.n (by decide)) (wG hu)),JD hu ⟨Cy hu _ (bT (Pw ..) (by decide)),KK hp⟩⟩
theorem X1{u x:TUnit}(hu:OkB u)(hx:x∈bu u)(hp:iK (bq x) u=true)(d:PDeed)(hg:AX d.it)(hk:d.it.kind=3):∃r:pS,kP 127 [eU u,eU x,aU d] (eE r)∧Bk u d r.1:=by
  obtain⟨h1,h2⟩:=hg.2.2.1 (.inr hk)
  have h3:=tF h1
  have h4:=tF (hg.2.2.2 (.inr (.inl hk)))
  obtain⟨h5,h6⟩:=KH h2
  have h7:=(hu.w x hx).2
  have hR:=Yk d.act d.item x.words d.it.old d.it.new d.it.nth_ (by omega) (by omega) (by omega) h5 (by omega)
  exact⟨_,TY u x _ d _ _ hR (Of (bq x) _ u (bT hu.n (by decide)) (wG hu)),JD hu ⟨Cy hu _ (bT (TR ..) (by decide)),KK hp⟩⟩
theorem Ya{u x:TUnit}(hu:OkB u)(hp:iK (bq x) u=true)(d:PDeed)(hg:AX d.it)(hk:d.it.kind=4):∃r:pS,kP 128 [eU u,eU x,aU d] (eE r)∧Bk u d r.1:=by
  have h4:=tF (hg.2.2.2 (.inr (.inr hk)))
  have hM:=yW d.it.new d.act d.item 0 (by omega) (by decide)
  exact⟨_,UX u x _ d _ hM (Ol (bq x) _ u (bT hu.n (by decide)) (wG hu)),PR hu _ (by rw[f8];omega),KK hp⟩
theorem Vc{u:TUnit}(hu:OkB u)(p:PId):(dA p u).kids.length<2^40:=by
  have hn:=hu.n
  cases h:bB p u with
  |true=>have:=dP (su h).1;have:=bf (dA p u);omega
  |false=>unfold dA;rw[h];exact mp (bN 0) (by decide)
theorem XT{u x:TUnit}(hu:OkB u)(hp:iK (bq x) u=true)(d:PDeed):∃r:pS,kP 129 [eU u,eU x,aU d] (eE r)∧Bk u d r.1:=by
  refine⟨_,TJ u x _ _ d _ _ _ _ _ (gp hu (bq x)) (m0 hu _) (yA _ _ (Vc hu _)) (Oe (bq x) d u (bT hu.n (by decide)) (wG hu)),?_⟩
  unfold TK
  cases ah (yB (dA (rF (bq x) u) u) (pz d.it.label x)) 10
  · exact⟨NX hu _ _,KK hp⟩
  · exact .refl hu
theorem Th{u u2:TUnit}{d:PDeed}{te:Int}{full:Bool}(h:OkB u)(h2:Bk u d u2):Bk u d (P8 u te full u2).1:=by
  have h:=Bk.refl h (d:=d)
  unfold P8;cases ah te 0<;>cases full<;>first|exact h|exact h2
theorem Yl{e2 e3:Int}{sp:PSpot}(h:(HK 0 e2 sp e3).2=0):e2=0∧e3=0∧(HK 0 e2 sp e3).1=sp:=by
  unfold HK at h ⊢
  rw[show ah 0 0=true from rfl]at h ⊢
  simp only[cond_true]at h ⊢
  cases h1:ah e2 0 with
  |false=>rw[h1]at h;rw[show e2=0 from h]at h1;cases h1
  | true=>
    rw[h1]at h
    cases h2:ah e3 0 with
    |false=>rw[h2]at h;rw[show e3=0 from h]at h2;cases h2
    |true=>exact⟨kh h1,kh h2,rfl⟩
/-- A move has an outcome. -/
theorem YV{u x:TUnit}(hu:OkB u)(hx:x∈bu u)(d:PDeed)(hd:x9 d.it)(hg:AX d.it)(hk:d.it.kind=6)(h0:(aF u d.it.at_).2=0)(hid:(aF u d.it.at_).1=bq x)(hp:iK (bq x) u=true):∃r:pS,kP 130 [eU u,eU x,aU d] (eE r)∧Bk u d r.1:=by
  have hw:=hg.1 (.inr hk)
  have hF:=wF hu d.it.at_ hd.2.1
  rw[h0,hid]at hF
  obtain⟨bs,hG⟩:=WD hu (bq x) (aF u d.it.to).1 d.it.where_ hw
  obtain⟨q,i,h1,h2,h3,h4,h5,h6⟩:=Vw hu hp
  have hD:=Rb u d.it _ _ _ _ _ _ (by rw[hk];rfl) (by rw[hk];rfl) hw hF (wF hu d.it.to hd.2.2.1) hG
  rw[h2,h3,hp]at hD
  cases he:ah (HK 0 (aF u d.it.to).2 (n7 (bq x) (aF u d.it.to).1 (bq q) (Int.ofNat i) true ((pR (aF u d.it.to).1 u).any (bj (bq x))) bs (dc d.it.where_ u (aF u d.it.to).1).1 (dc d.it.where_ u (aF u d.it.to).1).2).1 (n7 (bq x) (aF u d.it.to).1 (bq q) (Int.ofNat i) true ((pR (aF u d.it.to).1 u).any (bj (bq x))) bs (dc d.it.where_ u (aF u d.it.to).1).1 (dc d.it.where_ u (aF u d.it.to).1).2).2).2 0 with
  |false=>exact⟨(u,_),Ti u x d _ _ _ he hD,.refl hu⟩
  | true=>
    have e0:=kh he
    obtain⟨e1,e2,e3⟩:=Yl e0
    obtain⟨n,n1,n2,n3⟩:=QG hu h1 h4 (qB e1) e2
    rw[e0,e3,n1]at hD
    obtain⟨hr,hpm⟩:=hu.del h1 h4
    have hkx:gD q.kids i=x:=hu.uni (jX h1 (bH (gx h4) (dh _))) hx h5
    rw[hkx]at hpm
    have hnr:=hr.n
    have hnx:=dP hx
    have hn:=hu.n
    refine⟨_,Tg u x _ _ _ d _ _ n _ _ _ _ _ hD (gp hu (bq x)) h6 (m0 hr _) (yA _ x (Vc hr _)) (Ll _ x _ (by omega) (by omega)) (Og _ n x _ (by omega) (wG hr) n3),Th hu ?_⟩
    have hnd:=List.nodup_append.1 (hpm.nodup_iff.1 hu.nd)
    have hlen:=hpm.length_eq
    rw[lA,←l9,←l9,←l9]at hlen
    exact⟨hr.ins hnd.2.1 (fun p hp hq=>hnd.2.2 p hq p hp rfl) (by omega) (fun y hy=>hu.w y (jX hx hy)),(KV (f:=dC _ _) (fun _=>rfl) _).trans (KV (f:=gG i) (fun _=>rfl) u)⟩
/-- An item's doer. -/
theorem ZH{u x:TUnit}(hu:OkB u)(hx:x∈bu u)(d:PDeed)(hd:x9 d.it)(hg:AX d.it)(hk0:0≤d.it.kind)(hk6:d.it.kind≤6)(h0:(aF u d.it.at_).2=0)(hid:(aF u d.it.at_).1=bq x)(hp:iK (bq x) u=true):∃r:pS,kP (Vn d.it.kind) [eU u,eU x,aU d] (eE r)∧Bk u d r.1:=by
  have hk:d.it.kind=0∨d.it.kind=1∨d.it.kind=2∨d.it.kind=3∨d.it.kind=4∨d.it.kind=5∨d.it.kind=6:=by omega
  rcases hk with h|h|h|h|h|h|h<;>rw[h]
  · exact Vg hu x d hd hg h
  · exact XR hu d hp
  · exact Xr hu hx hp d hg h
  · exact X1 hu hx hp d hg h
  · exact Ya hu hp d hg h
  · exact XT hu hp d
  · exact YV hu hx d hd hg h h0 hid hp
/-- An amendment has one outcome. -/
theorem US {u:TUnit}(hu:OkB u)(d:PDeed)(hd:x9 d.it)(hk0:0≤d.it.kind)(hk6:d.it.kind≤6):∃r:pS,kP 97 [eU u,aU d] (eE r)∧Bk u d r.1:=by
  obtain⟨b,hV,hg⟩:=VC d.it hd hk0 hk6
  have hl:=Wa d hk0 hk6
  cases b with
  |false=>exact⟨_,UT u d _ hl hV,.refl hu⟩
  | true=>
    have hg:=hg rfl
    have hF:=wF hu d.it.at_ hd.2.1
    cases he:ah (aF u d.it.at_).2 0 with
    |false=>exact⟨_,U1 u d _ _ _ hl hV he hF,.refl hu⟩
    | true=>
      have e0:=kh he
      have hh:=qB e0
      obtain⟨hx,hxi⟩:=su hh
      rw[e0]at hF
      have hX:=m0 hu (aF u d.it.at_).1
      cases hi:(ah (aF u d.it.at_).1.a u.act&&(ah (aF u d.it.at_).1.i u.item&&ah (aF u d.it.at_).1.n u.n))with
      | true=>
        cases hk:ah d.it.kind 0 with
        | true=>
          have hk:=kh hk
          obtain⟨r,h1,h2⟩:=Vg hu (dA (aF u d.it.at_).1 u) d hd hg hk
          exact⟨r,SX u _ d _ _ _ r hl hV hF hX hi (by rw[hk];rfl) (by rw[hk];exact h1),h2⟩
        |false=>exact⟨_,U0 u _ d _ _ _ _ _ hl hV hF hX hi hk (wF hu d.it.to hd.2.2.1),.refl hu⟩
      | false=>
        have hni:fL (aF u d.it.at_).1 u=false:=by
          cases q:fL (aF u d.it.at_).1 u with
          |false=>rfl
          | true=>
            have:=(gu _ u).1 q
            rw[←this]at hi
            have e:(ah (bq u).a u.act&&(ah (bq u).i u.item&&ah (bq u).n u.n))=true:=by
              show(ah u.act u.act&&(ah u.item u.item&&ah u.n u.n))=true
              rw[bx,bx,bx];rfl
            rw[e]at hi;cases hi
        obtain⟨r,h1,h2⟩:=ZH hu hx d hd hg hk0 hk6 e0 hxi.symm (by rw[hxi];exact UJ hh hni)
        exact⟨r,U2 u _ d _ _ _ r hl hV hF hX hi h1,h2⟩
theorem Sx{k:Int}(h:qN k=true):0≤k∧k≤6:=by
  unfold qN at h;rw[bz]at h;exact⟨gr h.1,gr h.2⟩
/-- What an amendment makes of a book: the one outcome there is. -/
structure AppOk(u:TUnit)(d:PDeed):Prop where
  b:OkB u
  i:x9 d.it
  a:qN d.it.kind=true
theorem SQ{u:TUnit}{d:PDeed}(h:AppOk u d):∃r:pS,kP 97 [eU u,aU d] (eE r)∧Bk u d r.1:=US h.b d h.i (Sx h.a).1 (Sx h.a).2
open Classical in
noncomputable def jG(u:TUnit)(d:PDeed):pS:=if h:AppOk u d then(SQ h).choose else(u,0)
theorem LG{u:TUnit}{d:PDeed}(h:AppOk u d):kP 97 [eU u,aU d] (.tuple [eU (jG u d).1,iV (jG u d).2])∧Bk u d (jG u d).1:=by
  unfold jG;rw[dif_pos h];exact(SQ h).choose_spec
theorem ru{u:TUnit}{d:PDeed}(h:AppOk u d):kP 97 [eU u,aU d] (.tuple [eU (jG u d).1,iV (jG u d).2])∧OkB (jG u d).1:=⟨(LG h).1,(LG h).2.1⟩
theorem Vt(u:TUnit)(d:PDeed)(h1:OkB u)(h2:x9 d.it)(h3:qN d.it.kind=true):kP 97 [eU u,aU d] (.tuple [eU (jG u d).1,iV (jG u d).2]):=(ru ⟨h1,h2,h3⟩).1
noncomputable def tf(u:TUnit)(d:PDeed):TUnit:=bif qN d.it.kind then(jG u d).1 else u
noncomputable def Ci(u:TUnit)(d:PDeed):List PFail:=bif qN d.it.kind then(bif ah (jG u d).2 0 then[]else[⟨d.act,d.item,(jG u d).2⟩])else[]
theorem O7{u:TUnit}{d:PDeed}(h1:OkB u)(h2:x9 d.it):OkB (tf u d):=by
  unfold tf
  cases h:qN d.it.kind with
  |false=>exact h1
  |true=>exact(ru ⟨h1,h2,h⟩).2
noncomputable def dg:TUnit→List PDeed→TUnit
  |u,[]=>u
  |u,d::r=>dg (tf u d) r
noncomputable def fe:TUnit→List PDeed→List PFail
  |_,[]=>[]
  |u,d::r=>Ci u d++fe (tf u d) r
theorem Hm:∀{l:List PDeed}{u:TUnit},OkB u→(∀d,d∈l→x9 d.it)→OkB (dg u l)
  |[],_,h,_=>h
  |d::r,u,h,hl=>Hm (l:=r) (u:=tf u d) (O7 h (hl d (e9 ..))) fun x hx=>hl x (fk _ hx)
theorem CI:∀(l:List PDeed)(u:TUnit),(fe u l).length≤l.length
  |[],_=>ao _
  | d::r,u=>by
    have:=CI r (tf u d)
    have h:(Ci u d).length≤1:=by
      unfold Ci
      cases qN d.it.kind<;>cases ah (jG u d).2 0<;>simp
    rw[fe,lA,lC];omega
theorem XI{u:TUnit}{d:PDeed}{r:List PDeed}(h:qN d.it.kind=false):dg u (d::r)=dg u r∧fe u (d::r)=fe u r:=by
  rw[dg,fe,tf,Ci,h];exact⟨rfl,rfl⟩
theorem SO{u:TUnit}{d:PDeed}{r:List PDeed}(h:qN d.it.kind=true)(h2:ah (jG u d).2 0=true):dg u (d::r)=dg (jG u d).1 r∧fe u (d::r)=fe (jG u d).1 r:=by
  rw[dg,fe,tf,Ci,h,h2];exact⟨rfl,rfl⟩
theorem SN{u:TUnit}{d:PDeed}{r:List PDeed}(h:qN d.it.kind=true)(h2:ah (jG u d).2 0=false):dg u (d::r)=dg (jG u d).1 r∧fe u (d::r)=⟨d.act,d.item,(jG u d).2⟩::fe (jG u d).1 r:=by
  rw[dg,fe,tf,Ci,h,h2];exact⟨rfl,rfl⟩
mutual
theorem J8:∀(u:TUnit)(deep most:Int),mF u deep most≤most→Int.ofNat (nU u)≤mF u deep most
  | ⟨_,_,_,_,_,_,_,kids⟩,deep,most,h=>by
    rw[mF]at h ⊢
    cases hd:aC 20 deep with
    |true=>rw[hd]at h;simp only at h;omega
    | false=>
      rw[hd]at h
      have:=J9 kids deep most 1 h
      rw[nU]
      simp only[oN]at *
      omega
theorem J9:∀(l:List TUnit)(deep most n:Int),mG l deep most n≤most→n+Int.ofNat (eV l)≤mG l deep most n
  |[],_,_,n,_=>by rw[mG,eV];exact Int.le_of_eq (Int.add_zero n)
  | k::r,deep,most,n,h=>by
    rw[mG]at h ⊢
    cases hd:aC most n with
    |true=>rw[hd]at h;have:=al hd;simp only at h;omega
    | false=>
      rw[hd]at h
      have h2:=J9 r deep most _ h
      have h1:=J8 k (deep+1) (most-n) (by simp only[oN]at *;omega)
      rw[eV]
      simp only[oN]at *
      omega
end
theorem Fw{l:List PWord}(h:mH l=true):l.length≤300∧∀w,w∈l→w.text.length≤100:=by
  unfold mH at h
  obtain⟨h1,h2⟩:=oZ.1 h
  refine⟨by have:=gr h2;simp only[oN]at this;omega,fun w hw=>?_⟩
  have:=gr (mK.1 h1 w hw)
  simp only[oN]at this;omega
theorem HS:∀(u:TUnit),kL u=true→∀x,x∈bu u→rS x:=by
  refine TUnit.ind fun u ih h x hx=>?_
  rw[BR]at h
  simp only[bz]at h
  obtain⟨⟨⟨h0,h1⟩,h2⟩,h3⟩:=h
  rw[da]at hx
  rcases fE.1 hx with rfl|hx
  · have h0:=gr h0
    simp only[oN]at h0
    have q1:=Fw h1
    have q2:=Fw h2
    exact⟨q1.1,q2.1,by omega,fun w hw=>bT (q1.2 w hw) (by decide),fun w hw=>bT (q2.2 w hw) (by decide)⟩
  · obtain⟨k,hk,hx⟩:=mg hx
    exact ih k hk (mK.1 h3 k hk) x hx
theorem WR{u:TUnit}{n:Nat}(h:GP u (.ofNat n)=true):nU u≤n∧∀x,x∈bu u→rS x:=by
  unfold GP at h
  obtain⟨h1,h2⟩:=oZ.1 h
  refine⟨?_,HS u h2⟩
  have h3:=gr h1
  have:=J8 u 0 (.ofNat n) h3
  simp only[oN]at *
  omega
theorem PP{x:PItem}(hf:nb x)(h:m7 x=true):x9 x:=by
  rw[D8]at h
  unfold yU at h
  simp only[bz]at h
  obtain⟨⟨⟨⟨⟨⟨⟨⟨⟨⟨a1,a2⟩,a3⟩,a4⟩,a5⟩,a6⟩,a7⟩,a8⟩,a9⟩,a10⟩,b1,b2,b3,b4,b5⟩:=h
  have a1:=gr a1
  have a2:=gr a2
  have a3:=gr a3
  have a4:=gr a4
  have a5:=gr a5
  have a6:=gr a6
  have a7:=gr a7
  simp only[oN]at a1 a2 a3 a4 a5 a6 a7
  have hs:∀{l:List aT},l.all xn=true→∀s,s∈l→s.length≤2^39:=fun h s hs=>by
    have:=gr (mK.1 h s hs);simp only[oN]at this;omega
  have ht:∀{l:List PStep},l.all xm=true→∀s,s∈l→s.label.length≤2^39:=fun h s hs=>by
    have:=gr (mK.1 h s hs);simp only[oN]at this;omega
  have hu:=WR (n:=30) a10
  exact⟨hf,⟨by omega,ht b3⟩,⟨by omega,ht b4⟩,⟨by omega,hs b1⟩,⟨by omega,hs b2⟩,by omega,by omega,by omega,bT hu.1 (by decide),hu.2⟩
theorem JQ{u v:TUnit}{l r:List PDeed}{xs:List PFail}(h:fe u l=xs++fe v r):xs.length≤l.length:=by
  grind[CI]
theorem SY(u:TUnit)(l:List PDeed)(hu:OkB u)(hl:l.length<2^30)(ho:∀d,d∈l→x9 d.it):kP 63 [eU u,.ls (l.map aU)] (.tuple [eU (dg u l),.ls ((fe u l).map iC)]):=by
  have rr0 b' (h:((dg u l).act)=b':=by first|(rw[hj0.2.1];rfl)|(rw[hj0.2.2];rfl)|(rw[hj0.2.2.1];rfl)|(rw[hj0.2.2.2];simp only[fe,ec])|exact aX gK _):=h;have rr1 b' (h:((dg u l).item)=b':=by first|(rw[hj0.2.1];rfl)|(rw[hj0.2.2];rfl)|(rw[hj0.2.2.1];rfl)|(rw[hj0.2.2.2];simp only[fe,ec])|exact aX gK _):=h;have rr2 b' (h:((dg u l).n)=b':=by first|(rw[hj0.2.1];rfl)|(rw[hj0.2.2];rfl)|(rw[hj0.2.2.1];rfl)|(rw[hj0.2.2.2];simp only[fe,ec])|exact aX gK _):=h;have rr3 b' (h:((dg u l).kind)=b':=by first|(rw[hj0.2.1];rfl)|(rw[hj0.2.2];rfl)|(rw[hj0.2.2.1];rfl)|(rw[hj0.2.2.2];simp only[fe,ec])|exact aX gK _):=h;have rr4 b' (h:((dg u l).label)=b':=by first|(rw[hj0.2.1];rfl)|(rw[hj0.2.2];rfl)|(rw[hj0.2.2.1];rfl)|(rw[hj0.2.2.2];simp only[fe,ec])|exact aX gK _):=h;have rr5 b' (h:(List.map aQ (dg u l).head)=b':=by first|(rw[hj0.2.1];rfl)|(rw[hj0.2.2];rfl)|(rw[hj0.2.2.1];rfl)|(rw[hj0.2.2.2];simp only[fe,ec])|exact aX gK _):=h;have rr6 b' (h:(List.map aQ (dg u l).words)=b':=by first|(rw[hj0.2.1];rfl)|(rw[hj0.2.2];rfl)|(rw[hj0.2.2.1];rfl)|(rw[hj0.2.2.2];simp only[fe,ec])|exact aX gK _):=h;have rr7 b' (h:(List.map aV (dg u l).kids)=b':=by first|(rw[hj0.2.1];rfl)|(rw[hj0.2.2];rfl)|(rw[hj0.2.2.1];rfl)|(rw[hj0.2.2.2];simp only[fe,ec])|exact aX gK _):=h;have rr8 b' (h:((fe u l).map iC)=b':=by first|(rw[hj0.2.1];rfl)|(rw[hj0.2.2];rfl)|(rw[hj0.2.2.1];rfl)|(rw[hj0.2.2.2];simp only[fe,ec])|exact aX gK _):=h;exact bM Tryz.func63<|Kl 2 5 bL<|Kl 2 12 (ln aU l)<|Mg 0<|ZX TUnit Nat Nat (List PFail) aU l u [2,4,6,11,12,13] (fun a _ b=>([bJ 0 0 0 0,bJ 1 0 0 0,ab,aW<|l.map aU,nV l.length,nV a],[aZ 8 false 0 [ay [iV b.act,iV b.item,iV b.n,iV b.kind,aj b.label,aW<|b.head.map aQ,aW<|b.words.map aQ,aW<|b.kids.map aV]],aZ 8 false 0 [ay [iV 0,iV 0,iV 0,iV 0,aj [],ab,ab,ab]]])) (fun a _ b c e f=>([bJ 0 0 0 0,bJ 1 0 0 0,aE 2 c 0 e none,aW<|l.map aU,nV l.length,nV a],[aZ 8 false 0 [ay [iV b.act,iV b.item,iV b.n,iV b.kind,aj b.label,aW<|b.head.map aQ,aW<|b.words.map aQ,aW<|b.kids.map aV]],aZ 8 false 0 [ay [iV 0,iV 0,iV 0,iV 0,aj [],ab,ab,ab]],aZ 3 true c<|f.map iC])) (fun a b=>OkB b∧dg u l=dg b a∧fe u l=fe b a) (fun a b _ c e=>OkB b∧c=e.length∧dg u l=dg b a∧fe u l=e++fe b a) sA (fun _ _ a _ _ _ b hj0=>Kh 0 b<|Kl 3 5 bL<|Mf<|cH<|.cons (bQ (.cons (li<|rr0 a.act)<|.cons (li<|rr1 a.item)<|.cons (li<|rr2 a.n)<|.cons (li<|rr3 a.kind)<|.cons (Le.str<|rr4 a.label)<|.cons (cV<|rr5<|a.head.map aQ)<|.cons (cV<|rr6<|a.words.map aQ)<|.cons (cV<|rr7<|a.kids.map aV) .nil)<|by kernel_rfl)<|.cons (cV<|rr8 []) .nil) (fun a _ b c _ e f g i j k _ n hj0=>have c:=ho _<|aN c j;Kt 0 k<|Mx n<|Kp 5 (Jl e.it.kind)<|Kn 0 (qN e.it.kind) (fun _=>Kl 0 40 (dq a)<|K1 0 (.frz 2 [2,4,6,11,12,13]) (b6 rt rt ti)<|Mf<|g b<|by grind[XI]) fun j=>Kp 1 (Vt b e sA c j)<|Kc 7 (jG b e).2 0 (fun _ _=>Kl 12 40 (dq a)<|Mg 0<|M0 (.ren [0,1,4,2,3] [] [2,4,6,11,12,13])<|M1 (.frz 3 [2,4,6,11,12,13]) (jc rt rt rt ti)<|Mf<|i (jG b e).1 0 1 [PFail.mk e.act e.item (jG b e).2]<|by exact⟨(ru ⟨hj0.1,c,by omega⟩).2,rfl,hj0.2.1.trans (SN (by omega) (by omega)).1,hj0.2.2.trans (SN (by omega) (by omega)).2⟩) fun _ _=>Kl 2 40 (dq a)<|K1 0 (.frz 2 [2,4,6,11,12,13]) (b6 rt rt ti)<|Mf<|g (jG b e).1<|by exact⟨(ru ⟨hj0.1,c,by omega⟩).2,hj0.2.1.trans (SO (by omega) (by omega)).1,hj0.2.2.trans (SO (by omega) (by omega)).2⟩) (fun _ _ a b c e _ _ _ f hj0=>Kh 0 f<|Mg 3<|M2 (.fsl 2 [4] 5<|e.map iC) (b6 rt rt ti) (b6 (aY b) (tA iC e c (oA:(e).length=c))<|aX gK e)<|Ml 5 (eT (e.map iC) false<|aX gK e)<|Mf<|cH<|.cons (bQ (.cons (li<|rr0 a.act)<|.cons (li<|rr1 a.item)<|.cons (li<|rr2 a.n)<|.cons (li<|rr3 a.kind)<|.cons (Le.str<|rr4 a.label)<|.cons (cV<|rr5<|a.head.map aQ)<|.cons (cV<|rr6<|a.words.map aQ)<|.cons (cV<|rr7<|a.kids.map aV) .nil)<|by kernel_rfl)<|.cons (cV<|rr8<|e.map iC) .nil) fun a _ b c e f g _ i j _ k n o _ p hj0=>have g:=ho _<|aN g n;Kt 0 o<|Mx p<|Kp 5 (Jl i.it.kind)<|Kn 0 (qN i.it.kind) (fun _=>Kl 0 40 (dq a)<|K1 0 (.frz 3 [2,4,6,11,12,13]) (jc (tR 3 true c 3<|aX gK f) rt rt ti)<|Mf<|k b c e f<|by grind[XI]) fun n=>Kp 1 (Vt b i sA g n)<|Kc 7 (jG b i).2 0 (fun _ _=>K1 7 .app (b6 (aY c) (sA:e=(f.map iC).length) (by(have z:=JQ hj0.2.2.2;have z2:=hj0.2.1;refine aM (m:=2^31) ?_ ?_ ?_<;>omega):small (e+1) 24=true))<|M1 (.obj 2<|aZ 3 true (c+1)<|(f++[PFail.mk i.act i.item (jG b i).2]).map iC) (congrArg (aZ 3 true<|c+1)<|co (f:=iC) (l:=f) (ws:=[PFail.mk i.act i.item (jG b i).2]))<|Kl 3 40 (dq a)<|K1 0 (.frz 3 [2,4,6,11,12,13]) (jc (tR 3 true (c+1) 3<|aX gK<|f++[PFail.mk i.act i.item (jG b i).2]) rt rt ti)<|Mf<|k (jG b i).1 (c+1) (e+1) (f++[PFail.mk i.act i.item (jG b i).2])<|by exact⟨(ru ⟨hj0.1,g,by omega⟩).2,by simp_all,hj0.2.2.1.trans (SN (by omega) (by omega)).1,hj0.2.2.2.trans (by grind[SN])⟩) fun _ _=>Kl 2 40 (dq a)<|K1 0 (.frz 3 [2,4,6,11,12,13]) (jc (tR 3 true c 3<|aX gK f) rt rt ti)<|Mf<|k (jG b i).1 c e f<|by exact⟨(ru ⟨hj0.1,g,by omega⟩).2,hj0.2.1,hj0.2.2.1.trans (SO (by omega) (by omega)).1,hj0.2.2.2.trans (by grind[SO])⟩
end Go.Proofs.YtjokefckffbpeaaGreatDoor
