/- Functions walked: what each of them answers, for Each item of an act that is in force either takes effect or is reported as a failure with the reason that consolidation reports: part 5. Conditions: those that each theorem names. -/
import Derived.Test.YtiodnhiainjfgaaGreatDoorH4
namespace Go.Proofs.YtiodnhiainjfgaaGreatDoor
open Go Go.Ev
noncomputable abbrev BK(l:List PWord):AObj:=.row 4 true 0 (l.map aQ)
noncomputable def Em:TypeInfo:=(Tryz.prog.info? 256).getD default
theorem El:Tryz.prog.info? 256=some Em:=by kernel_rfl
theorem xS:Em.size=4:=by kernel_rfl
theorem vE:Em.bytes=40:=by kernel_rfl
theorem Uo(l:List PWord):dh 4 (l.map aQ)=true:=gj (fun w=>by cases w;rfl) l
/-- A copy of words: a row of its own. -/
theorem ZY(ws:List PWord)(hl:ws.length≤2^20)(a b c d:AObj):kD 206 [.ls (ws.map aQ)] (ay [a,b,c,d]) (.sl0 4 0 ws.length none) (ay [a,b,c,d,BK ws]):=by
  by_cases hne:ws=[]
  · subst hne
    have hE:(ay [a,b,c,d]).push (BK [])=ay [a,b,c,d,BK []]:=by kernel_rfl
    have h:=aE.psh (o:=BK []) (u:=.sl0 4 0 0 none) (rQ [] (by omega) (ay [a,b,c,d])) D9
    simp_all
  have hn:ws.map aQ≠[]:=fun h=>hne (List.map_eq_nil_iff.1 h)
  have hf:=Uo ws
  have hsm:small (ws.map aQ).length 40=true:=by grind[aC]
  have hlen:ws.length=(ws.map aQ).length:=(b6 ..).symm
  unfold BK
  rw[hlen]
  generalize ws.map aQ=L at hn hf hsm
  refine(aE.less (Ψ:=fun v h=>v=.slice 4 0 0 L.length none∧h=ay [a,b,c,d,.row 4 true 0 L]) ?_ fun v h ⟨h1,h2⟩=>⟨_,h1▸Le.sl0,rfl,h2⟩)
  refine aE.enter 2 (fn:=Tryz.f206) Tryz.func206 (by kernel_rfl) rfl ⟨by kernel_rfl,by kernel_rfl⟩ ?_
  refine al.seq (al.mono (Dy mh gF (ev 40) (s':=⟨dM 8 [(0,.ls L),(2,.nils)],ay [a,b,c,d]⟩) (.go 0 .fin) (by kernel_rfl)) ?_)
  rintro _ _ ⟨rfl,rfl⟩
  refine al.seq (al.seq (al.mono (xb gF (ev 40) (Ψ:=fun s=>s=⟨dM 8 [(0,.ls L),(2,.nils),(3,.ps L false),(4,.bool false)],ay [a,b,c,d]⟩) (.go 0 (.nz 3 .abs (.go 0 .fin)))
    (W:=(L=[]→False)∧(⟨dM 8 [(0,.ls L),(2,.nils),(3,.ps L false),(4,.bool false)],ay [a,b,c,d]⟩:St)=⟨dM 8 [(0,.ls L),(2,.nils),(3,.ps L false),(4,.bool false)],ay [a,b,c,d]⟩) ⟨hn,rfl⟩ (by kernel_rfl)) ?_))
  rintro _ _ ⟨rfl,rfl⟩
  refine al.cond (t:=false) (by kernel_rfl) (fun h=>by grind) fun _=>al.skip ?_
  refine al.seq (al.region ?_)
  show cJ _ _ _ _ [_,_,_,_] _ _
  refine cJ.one (s':=⟨dM 8 [(0,.ls L),(2,.nils),(3,.ps L false),(4,.bool false),(5,.ps [] true)],ay [a,b,c,d]⟩) (ev 40) (by kernel_rfl) ?_
  refine cJ.one (s':=⟨dM 8 [(0,.ls L),(2,.nils),(3,.ps L false),(4,.bool false),(5,.ps [] true),(6,.ls L)],ay [a,b,c,d]⟩) (ev 40) (by kernel_rfl) ?_
  refine rY (I:=fun k:Nat=>k=0) (r:=fun _=>.slice 4 0 0 L.length none) (H:=fun _=>ay [a,b,c,d,.row 4 true 0 L]) (by kernel_rfl)
    (fun pl M a w g1 g2 g3=>wE (z:=aQ ⟨[],0,0,0⟩) (z0:=aQ ⟨[],0,0,0⟩) (xs:=L) (t:=35) (tx:=35) (e:=256) (i:=Em) xS vE (by kernel_rfl) ⟨256,by kernel_rfl⟩ El (by kernel_rfl) (Le.refl _) (by kernel_rfl) (by kernel_rfl) hn hf (by kernel_rfl) hsm (by omega) pl M a w g1 g2 g3) fun k _=>?_
  refine⟨dM 8 [(0,.ls L),(2,.nils),(3,.ps L false),(4,.bool false),(5,.ps [] true),(6,.ls L),(7,.slice 4 0 0 L.length none)],by kernel_rfl,?_⟩
  refine cJ.one (s':=⟨dM 8 [(0,.ls L),(2,.slice 4 0 0 L.length none),(3,.ps L false),(4,.bool false),(5,.ps [] true),(6,.ls L),(7,.slice 4 0 0 L.length none)],ay [a,b,c,d,.row 4 true 0 L]⟩) (ev 40) (by kernel_rfl) (cJ.nil (al.ret ⟨fun id h=>(by grind),.slice 4 0 0 L.length none,by kernel_rfl,by kernel_rfl,by kernel_rfl⟩))
theorem ZV(ws:List PWord)(hl:ws.length≤2^20)(a b c d e:AObj):kD 206 [.ls (ws.map aQ)] (ay [a,b,c,d,e]) (.sl0 5 0 ws.length none) (ay [a,b,c,d,e,BK ws]):=by
  by_cases hne:ws=[]
  · subst hne
    have hE:(ay [a,b,c,d,e]).push (BK [])=ay [a,b,c,d,e,BK []]:=by kernel_rfl
    have h:=aE.psh (o:=BK []) (u:=.sl0 5 0 0 none) (rQ [] (by omega) (ay [a,b,c,d,e])) D9
    simp_all
  have hn:ws.map aQ≠[]:=fun h=>hne (List.map_eq_nil_iff.1 h)
  have hf:=Uo ws
  have hsm:small (ws.map aQ).length 40=true:=by grind[aC]
  have hlen:ws.length=(ws.map aQ).length:=(b6 ..).symm
  unfold BK
  rw[hlen]
  generalize ws.map aQ=L at hn hf hsm
  refine(aE.less (Ψ:=fun v h=>v=.slice 5 0 0 L.length none∧h=ay [a,b,c,d,e,.row 4 true 0 L]) ?_ fun v h ⟨h1,h2⟩=>⟨_,h1▸Le.sl0,rfl,h2⟩)
  refine aE.enter 2 (fn:=Tryz.f206) Tryz.func206 (by kernel_rfl) rfl ⟨by kernel_rfl,by kernel_rfl⟩ ?_
  refine al.seq (al.mono (Dy mh gF (ev 40) (s':=⟨dM 8 [(0,.ls L),(2,.nils)],ay [a,b,c,d,e]⟩) (.go 0 .fin) (by kernel_rfl)) ?_)
  rintro _ _ ⟨rfl,rfl⟩
  refine al.seq (al.seq (al.mono (xb gF (ev 40) (Ψ:=fun s=>s=⟨dM 8 [(0,.ls L),(2,.nils),(3,.ps L false),(4,.bool false)],ay [a,b,c,d,e]⟩) (.go 0 (.nz 3 .abs (.go 0 .fin)))
    (W:=(L=[]→False)∧(⟨dM 8 [(0,.ls L),(2,.nils),(3,.ps L false),(4,.bool false)],ay [a,b,c,d,e]⟩:St)=⟨dM 8 [(0,.ls L),(2,.nils),(3,.ps L false),(4,.bool false)],ay [a,b,c,d,e]⟩) ⟨hn,rfl⟩ (by kernel_rfl)) ?_))
  rintro _ _ ⟨rfl,rfl⟩
  refine al.cond (t:=false) (by kernel_rfl) (fun h=>by grind) fun _=>al.skip ?_
  refine al.seq (al.region ?_)
  show cJ _ _ _ _ [_,_,_,_] _ _
  refine cJ.one (s':=⟨dM 8 [(0,.ls L),(2,.nils),(3,.ps L false),(4,.bool false),(5,.ps [] true)],ay [a,b,c,d,e]⟩) (ev 40) (by kernel_rfl) ?_
  refine cJ.one (s':=⟨dM 8 [(0,.ls L),(2,.nils),(3,.ps L false),(4,.bool false),(5,.ps [] true),(6,.ls L)],ay [a,b,c,d,e]⟩) (ev 40) (by kernel_rfl) ?_
  refine rY (I:=fun k:Nat=>k=0) (r:=fun _=>.slice 5 0 0 L.length none) (H:=fun _=>ay [a,b,c,d,e,.row 4 true 0 L]) (by kernel_rfl)
    (fun pl M a w g1 g2 g3=>wE (z:=aQ ⟨[],0,0,0⟩) (z0:=aQ ⟨[],0,0,0⟩) (xs:=L) (t:=35) (tx:=35) (e:=256) (i:=Em) xS vE (by kernel_rfl) ⟨256,by kernel_rfl⟩ El (by kernel_rfl) (Le.refl _) (by kernel_rfl) (by kernel_rfl) hn hf (by kernel_rfl) hsm (by omega) pl M a w g1 g2 g3) fun k _=>?_
  refine⟨dM 8 [(0,.ls L),(2,.nils),(3,.ps L false),(4,.bool false),(5,.ps [] true),(6,.ls L),(7,.slice 5 0 0 L.length none)],by kernel_rfl,?_⟩
  refine cJ.one (s':=⟨dM 8 [(0,.ls L),(2,.slice 5 0 0 L.length none),(3,.ps L false),(4,.bool false),(5,.ps [] true),(6,.ls L),(7,.slice 5 0 0 L.length none)],ay [a,b,c,d,e,.row 4 true 0 L]⟩) (ev 40) (by kernel_rfl) (cJ.nil (al.ret ⟨fun id h=>(by grind),.slice 5 0 0 L.length none,by kernel_rfl,by kernel_rfl,by kernel_rfl⟩))
noncomputable abbrev C0(u:TUnit)(k:AV):AV:=.agg [iV u.act,iV u.item,iV u.n,iV u.kind,.str u.label,.sl0 3 0 u.head.length none,.sl0 4 0 u.words.length none,k]
noncomputable abbrev TT(u:TUnit)(i j:Nat)(k:AV):AObj:=.row 8 false 0 [.agg [iV u.act,iV u.item,iV u.n,iV u.kind,.str u.label,.sl0 i 0 u.head.length none,.sl0 j 0 u.words.length none,k]]
theorem X4(u:TUnit)(hk:0<u.kids.length)(hn:nU u≤2^20)(ht:∀x,x∈bg u→x.head.length≤2^20∧x.words.length≤2^20):kC 141 [eU u] (ay [vG u,vB])
    (fun v h=>∃y:Nat×Nat×List TUnit,(y.2.1=u.kids.length∧y.2.2=u.kids)∧v=C0 u (.slice 5 y.1 0 y.2.1 none)∧h=ay [vG u,vB,TT u 3 4 (.slice 5 y.1 0 y.2.1 none),BK u.head,BK u.words,.row 8 true y.1 (y.2.2.map aV)]):=by
  have hkl:=bd u
  have c1:=(ht u (dY u)).1
  have c2:=(ht u (dY u)).2
  have ihk:∀k,k∈u.kids→kP 141 [eU k] (eU k):=fun k hk=>GD k (bN (sn (ib hk)) hn) (fun x hx=>⟨pY (ht x (bC hk hx)).1 (by omega),pY (ht x (bC hk hx)).2 (by omega)⟩)
  let q1:=[aw [iV u.act,iV u.item,iV u.n,iV u.kind,aj u.label,aW (u.head.map aQ),aW (u.words.map aQ),aW (u.kids.map aV)]];let q2:=[aw [iV 0,iV 0,iV 0,iV 0,aj [],aa,aa,aa]];let q3:=aZ 8 false 0 q2;let q4:=aZ 8 false 0 q1;let q5:=List.map aQ u.head;let q6:=aZ 4 true 0 q5;exact pD Tryz.func141 fun a=>Mg 3<|M3 (.efx true (AV.sl0 4 0 u.head.length none)<|ay [aZ 8 false 0 q1,aZ 8 false 0 q2,aZ 8 false 0 q1,aZ 8 false 0 q2,aZ 4 true 0 q5]) (CV rt rt rt rt ti) (CV (aU<|some q3) (aU<|some q4) (aU<|some q3) (aU<|some q4) ti) (ZY u.head c1 q4 q3 q4 q3)<|Mg 1<|M3 (.efx true (AV.sl0 5 0 u.words.length none)<|ay [aZ 8 false 0 q1,aZ 8 false 0 q2,aZ 8 false 0 q1,aZ 8 false 0 q2,aZ 4 true 0 q5,aZ 4 true 0<|u.words.map aQ]) (xo (tR 4 true 0 5<|aX ig u.head) rt rt rt rt ti) (xo (aU<|some q6) (aU<|some q3) (aU<|some q4) (aU<|some q3) (aU<|some q4) ti) (ZV u.words c2 q4 q3 q4 q3 q6)<|Kl 7 16 (ln aV u.kids)<|Mg 0<|lk Nat Nat (List TUnit) aV u.kids [1,2,3,15,16,17] (fun a _=>([bY 2 0 0 0,bY 3 0 0 0,aa,aW<|u.kids.map aV,nV u.kids.length,nV a],[aZ 8 false 0 [aw [iV u.act,iV u.item,iV u.n,iV u.kind,aj u.label,aW<|u.head.map aQ,aW<|u.words.map aQ,aW<|u.kids.map aV]],aZ 8 false 0 [aw [iV 0,iV 0,iV 0,iV 0,aj [],aa,aa,aa]],aZ 8 false 0 [aw [iV u.act,iV u.item,iV u.n,iV u.kind,aj u.label,AV.sl0 4 0 u.head.length none,AV.sl0 5 0 u.words.length none,aW<|u.kids.map aV]],aZ 8 false 0 [aw [iV 0,iV 0,iV 0,iV 0,aj [],aa,aa,aa]],aZ 4 true 0<|u.head.map aQ,aZ 4 true 0<|u.words.map aQ])) (fun a _ b c d=>([bY 2 0 0 0,bY 3 0 0 0,aG 6 b 0 c none,aW<|u.kids.map aV,nV u.kids.length,nV a],[aZ 8 false 0 [aw [iV u.act,iV u.item,iV u.n,iV u.kind,aj u.label,aW<|u.head.map aQ,aW<|u.words.map aQ,aW<|u.kids.map aV]],aZ 8 false 0 [aw [iV 0,iV 0,iV 0,iV 0,aj [],aa,aa,aa]],aZ 8 false 0 [aw [iV u.act,iV u.item,iV u.n,iV u.kind,aj u.label,AV.sl0 4 0 u.head.length none,AV.sl0 5 0 u.words.length none,aW<|u.kids.map aV]],aZ 8 false 0 [aw [iV 0,iV 0,iV 0,iV 0,aj [],aa,aa,aa]],aZ 4 true 0<|u.head.map aQ,aZ 4 true 0<|u.words.map aQ,aZ 8 true b<|d.map aV])) (fun a=>a=u.kids) (fun a _ b c=>b=c.length∧(0:Nat)<c.length∧c++a=u.kids∧c.length+a.length=u.kids.length) (by rfl) (fun _ _ _ _ _ a _=>Kh 0 a<|Mg 4<|Mw .abs (sA:False)) (fun a _ _ b c d _ e f g _ i _=>have i:=(i).trans<|congrArg some<|aO c;have b:=cH (J:=fun a _=>a=u.kids) (a:=()) f b;Kt 0 g<|Mx i<|Kp 4 (ihk c gR)<|K1 1 (.obj 7<|aZ 8 true 0<|List.map aV [c]) (congrArg (aZ 8 true 0)<|SG (f:=aV) (g:=Go.Ev.eU) (ws:=[c]) aO)<|Kl 1 26 (de a)<|Mg 0<|Mw (.ren [0,1,2,3,4,5,7,6] [4,5,7] [1,2,3,15,16,17]<|.frz 7 [1,2,3,15,16,17] .fin)<|CV (tS 4 true 0<|aX ig u.head) (tS 4 true 0<|aX ig u.words) (tS 8 true 0<|aX gN [c]) (ZK (tR 8 true 0 7<|aX gN [c]) (tR 4 true 0 7<|aX ig u.words) (tR 4 true 0 7<|aX ig u.head) rt rt rt rt ti)<|e 0 1 [c]<|by(refine⟨rfl,by simp,?_,?_⟩<;>(rw[←b])<;>(first|rfl|grind))) (fun _ _ b c d _ _ _ e _=>Kh 0 e<|Mg 4<|Mw (.ren [0,1,3,4,5,6,2] [4,5,6] [2]<|.frz 6 [2] .fin)<|CV (tS 4 true 0<|aX ig u.head) (tS 4 true 0<|aX ig u.words) (tS 8 true b<|aX gN d) (MA (tR 8 true b 6<|aX gN d) (tR 4 true 0 6<|aX ig u.words) (tR 4 true 0 6<|aX ig u.head) rt rt rt ti)<|a (b,c,d) sA) fun a _ b c d _ e f g _ i j l _ n _=>have n:=(n).trans<|congrArg some<|aO f;have e:=cH (J:=fun a b=>b.2.1=b.2.2.length∧(0:Nat)<b.2.2.length∧b.2.2++a=u.kids∧b.2.2.length+a.length=u.kids.length) (a:=(b,c,d)) j e;Kt 0 l<|Mx n<|Kp 4 (ihk f gR)<|K1 0 .app (cn (aU b) (sA:c=(d.map aV).length) (by(refine aC (m:=2^21) ?_ ?_ ?_<;>omega):small (c+1) 120=true))<|M1 (.obj 6<|aZ 8 true (b+1)<|(d++[f]).map aV) (congrArg (aZ 8 true<|b+1)<|xh (f:=aV) (g:=Go.Ev.eU) (l:=d) (ws:=[f]) aO)<|Kl 1 26 (de a)<|K1 0 (.frz 7 [1,2,3,15,16,17]) (ZK (tR 8 true (b+1) 7<|aX gN<|d++[f]) (tR 4 true 0 7<|aX ig u.words) (tR 4 true 0 7<|aX ig u.head) rt rt rt rt ti)<|Mf<|i (b+1) (c+1) (d++[f])<|by(refine⟨by simp_all,by simp,?_,?_⟩<;>first|(rw[←e.2.2.1];simp;done)|grind)
theorem X5(u:TUnit)(hk:u.kids=[])(ht:∀x,x∈bg u→x.head.length≤2^20∧x.words.length≤2^20):kD 141 [eU u] (ay [vG u,vB]) (C0 u .nils) (ay [vG u,vB,TT u 3 4 .nils,BK u.head,BK u.words]):=by
  have c1:=(ht u (dY u)).1
  have c2:=(ht u (dY u)).2
  have hz:ap 0 (Int.ofNat u.kids.length)=false:=by rw[hk];rfl
  let q:=[aw [iV u.act,iV u.item,iV u.n,iV u.kind,aj u.label,aW (u.head.map aQ),aW (u.words.map aQ),aW (u.kids.map aV)]];let q1:=[aw [iV 0,iV 0,iV 0,iV 0,aj [],aa,aa,aa]];let q2:=[aZ 8 false 0 q,aZ 8 false 0 q1,aZ 8 false 0 [aw [iV u.act,iV u.item,iV u.n,iV u.kind,aj u.label,AV.sl0 4 0 u.head.length none,AV.sl0 5 0 u.words.length none,aW (u.kids.map aV)]],aZ 8 false 0 q1,aZ 4 true 0 (u.head.map aQ),aZ 4 true 0 (u.words.map aQ)];let q3:=aZ 8 false 0 q1;let q4:=aZ 8 false 0 q;let q5:=[bY 2 0 0 0,bY 3 0 0 0,aa,aW (u.kids.map aV),nV u.kids.length,iV 0];let q6:=List.map aQ u.head;let q7:=aZ 4 true 0 q6;exact fq Tryz.func141 fun a=>Mg 3<|M3 (.efx true (AV.sl0 4 0 u.head.length none)<|ay [aZ 8 false 0 q,aZ 8 false 0 q1,aZ 8 false 0 q,aZ 8 false 0 q1,aZ 4 true 0 q6]) (CV rt rt rt rt ti) (CV (aU<|some q3) (aU<|some q4) (aU<|some q3) (aU<|some q4) ti) (ZY u.head c1 q4 q3 q4 q3)<|Mg 1<|M3 (.efx true (AV.sl0 5 0 u.words.length none)<|ay [aZ 8 false 0 q,aZ 8 false 0 q1,aZ 8 false 0 q,aZ 8 false 0 q1,aZ 4 true 0 q6,aZ 4 true 0<|u.words.map aQ]) (xo (tR 4 true 0 5<|aX ig u.head) rt rt rt rt ti) (xo (aU<|some q7) (aU<|some q3) (aU<|some q4) (aU<|some q3) (aU<|some q4) ti) (ZV u.words c2 q4 q3 q4 q3 q7)<|Kl 7 16 (ln aV u.kids)<|Mg 0<|WF [1,2,3,15,16,17] (q5,q2) True 0 ti fun _ _=>Kh 0 hz<|Mg 4<|M2 (.ren [0,1,3,4,5,2] [4,5] [2]) (tS 4 true 0<|aX ig u.head) (tS 4 true 0<|aX ig u.words)<|M1 (.frz 5 [2]) (xo (tR 4 true 0 5<|aX ig u.words) (tR 4 true 0 5<|aX ig u.head) rt rt rt ti)<|Mf a
noncomputable abbrev Yf(ep:Nat)(l:List TUnit):AObj:=.row 8 true ep (l.map aV)
theorem JP(u:TUnit){k k':AV}(h:Le k k')(h2:cA k=true):Le (C0 u k) (C0 u k'):=aL (.cons (Le.refl _) (.cons (Le.refl _) (.cons (Le.refl _) (.cons (Le.refl _) (.cons (Le.refl _) (.cons (Le.refl _) (.cons (Le.refl _) (.cons h .nil)))))))) (by simp only[List.all_cons,List.all_nil,h2];rfl)
theorem X3(u:TUnit)(hn:nU u≤2^20)(ht:∀x,x∈bg u→x.head.length≤2^20∧x.words.length≤2^20):kC 141 [eU u] (ay [vG u,vB])
    (fun v h=>∃ep:Nat,True∧v=C0 u (.sl0 5 ep u.kids.length none)∧h=ay [vG u,vB,.dead,BK u.head,BK u.words,Yf ep u.kids]):=by
  rcases Nat.eq_zero_or_pos u.kids.length with hk|hk
  · have hk:=List.length_eq_zero_iff.1 hk
    refine aE.dead (i:=2) (IP (Ψ':=fun v h=>v=C0 u (.sl0 5 0 0 none)∧h=ay [vG u,vB,TT u 3 4 .nils,BK u.head,BK u.words,Yf 0 u.kids]) (Yf 0 u.kids) (X5 u hk ht) fun v h' ⟨h1,h2⟩=>⟨C0 u (.sl0 5 0 0 none),h1▸JP u Le.sl0n rfl,rfl,?_⟩) (ah 2) (by omega) fun v h' ⟨h1,h2⟩=>⟨0,trivial,by simp_all,?_⟩
    · rw[h2];kernel_rfl
    · rw[h2];kernel_rfl
  · refine aE.dead (i:=2) (aE.less (Ψ':=fun v h=>∃ep:Nat,v=C0 u (.sl0 5 ep u.kids.length none)∧h=ay [vG u,vB,TT u 3 4 (.slice 5 ep 0 u.kids.length none),BK u.head,BK u.words,Yf ep u.kids]) (X4 u hk hn ht) fun v h' ⟨y,⟨e1,e2⟩,h1,h2⟩=>⟨C0 u (.sl0 5 y.1 u.kids.length none),?_,y.1,rfl,?_⟩) (ah 2) (by omega) fun v h' ⟨ep,h1,h2⟩=>⟨ep,trivial,h1,?_⟩
    · rw[h1,e1];exact JP u Le.sl0 rfl
    · simp_all
    · rw[h2];kernel_rfl
/-- The first 'i' elements changed by 'f'. -/
def kz{α:Type}(f:α→α)(l:List α)(i:Nat):List α:=(l.take i).map f++l.drop i
theorem u9{α:Type}{f:α→α}{l:List α}{i:Nat}:(kz f l i).length=l.length:=by
  grind[kz]
theorem vQ{α:Type}{f:α→α}{l:List α}{i:Nat}(h:l.length≤i):kz f l i=l.map f:=by
  grind[kz,List.take_of_length_le]
theorem y6{α:Type}[Inhabited α]{f:α→α}{l:List α}{i:Nat}(h:i<l.length):gD (kz f l i) i=gD l i:=by
  have e:((l.take i).map f).length=i:=by grind
  simp_all[kz,gD,pz]
theorem BH{α:Type}[Inhabited α]{f:α→α}{l:List α}{i:Nat}(h:i<l.length):(kz f l i).set i (f (gD l i))=kz f l (i+1):=by
  have e:((l.take i).map f).length=i:=by grind
  have hg:gD l i=l[i]:=by unfold gD;simp_all
  unfold kz
  rw[List.set_append_right _ _ (by omega),e,Nat.sub_self,hg,AR h,List.set_cons_zero,Np h,pn,nD]
  rfl
theorem yT{l:List PWord}{i:Nat}(h:i<l.length):(kz gr l i).set i ⟨(gD (kz gr l i) i).text,0,0,0⟩=kz gr l (i+1):=by
  rw[y6 h];exact BH h
theorem N5:∀u:TUnit,nU u≤2^20→(∀x,x∈bg u→x.head.length≤2^20∧x.words.length≤2^20)→kP 317 [eU u] (eU (ct u)):=by
  refine TUnit.ind fun u ih hn ht=>?_
  have hkl:=bd u
  have c1:=(ht u (dY u)).1
  have c2:=(ht u (dY u)).2
  have hc:=X3 u hn ht
  have ihk:∀k,k∈u.kids→kP 317 [eU k] (eU (ct k)):=fun k hk=>ih k hk (bN (sn (ib hk)) hn) (fun x hx=>ht x (bC hk hx))
  rw[lT]
  have rr0 b' (h:(List.map aQ (TUnit.mk 0 0 0 u.kind u.label (u.head.map gr) (u.words.map gr) (u.kids.map ct)).head)=b':=by(rw[hx1.2,vQ (by(simp only[oN]at *;omega))];rfl)):=h;have rr1 b' (h:(List.map aQ (TUnit.mk 0 0 0 u.kind u.label (u.head.map gr) (u.words.map gr) (u.kids.map ct)).words)=b':=by(rw[hx2.2,vQ (by(simp only[oN]at *;omega))];rfl)):=h;have rr2 b' (h:(List.map aV (TUnit.mk 0 0 0 u.kind u.label (u.head.map gr) (u.words.map gr) (u.kids.map ct)).kids)=b':=by(rw[hx3.2,vQ (by(simp only[oN]at *;omega))];rfl)):=h;exact bu Tryz.func317<|Mg 2<|Mq hc fun a _=>Mg 10<|M0 (.un 2)<|Mg 7<|K3 (0:Nat) u.head [1,2,4,15,16,17,22,23] (fun b c=>([bY 0 0 0 0,bY 1 0 0 0,AV.sl0 3 0 u.head.length none,kL [AV.sl0 3 0 u.head.length none,AV.sl0 4 0 u.words.length none] true,iV 2,iV 0,nV u.head.length,nV b],[aZ 8 false 0 [aw [iV 0,iV 0,iV 0,iV u.kind,aj u.label,AV.sl0 3 0 u.head.length none,AV.sl0 4 0 u.words.length none,AV.sl0 5 a u.kids.length none]],aZ 8 false 0 [aw [iV 0,iV 0,iV 0,iV 0,aj [],aa,aa,aa]],AObj.dead,aZ 4 true 0<|c.map aQ,aZ 4 true 0<|u.words.map aQ,aZ 8 true a<|u.kids.map aV])) (fun a b=>a≤u.head.length∧b=kz gr u.head a) (fun a _=>u.head.length-a) (by exact⟨bD _,rfl⟩) fun b c hx1 d=>have hx1:b≤u.head.length∧c=kz gr u.head b:=hx1;have:c.length=u.head.length:=(by grind[u9]);Ka 0 (Int.ofNat b) (Int.ofNat u.head.length) (fun _ _=>K1 4 .rix (et (aU 0) (sA:b<u.head.length))<|K1 0 (.rst (aQ<|gD c b)<|(c.set b<|PWord.mk (gD c b).text 0 0 0).map aQ) (cn (aU 0) (aT aQ (sA:b<(c).length))<|jk (f:=aQ) (l:=c) (i:=b) (w:=PWord.mk (gD c b).text 0 0 0))<|Kl 0 31 (iz b)<|Kf 0<|d (b+1) (c.set b<|PWord.mk (gD c b).text 0 0 0) (by grind[yT]) gR) fun _ _=>Mg 9<|K3 (0:Nat) u.words [1,2,4,15,16,17,22,23] (fun b d=>([bY 0 0 0 0,bY 1 0 0 0,AV.sl0 4 0 u.words.length none,kL [AV.sl0 3 0 u.head.length none,AV.sl0 4 0 u.words.length none] true,iV 2,iV 1,nV u.words.length,nV b],[aZ 8 false 0 [aw [iV 0,iV 0,iV 0,iV u.kind,aj u.label,AV.sl0 3 0 u.head.length none,AV.sl0 4 0 u.words.length none,AV.sl0 5 a u.kids.length none]],aZ 8 false 0 [aw [iV 0,iV 0,iV 0,iV 0,aj [],aa,aa,aa]],AObj.dead,aZ 4 true 0<|c.map aQ,aZ 4 true 0<|d.map aQ,aZ 8 true a<|u.kids.map aV])) (fun a b=>a≤u.words.length∧b=kz gr u.words a) (fun a _=>u.words.length-a) (by exact⟨bD _,rfl⟩) fun b d hx2 e=>have hx2:b≤u.words.length∧d=kz gr u.words b:=hx2;have:d.length=u.words.length:=(by grind[u9]);Ka 0 (Int.ofNat b) (Int.ofNat u.words.length) (fun _ _=>K1 4 .rix (et (aU 0) (sA:b<u.words.length))<|K1 0 (.rst (aQ<|gD d b)<|(d.set b<|PWord.mk (gD d b).text 0 0 0).map aQ) (cn (aU 0) (aT aQ (sA:b<(d).length))<|jk (f:=aQ) (l:=d) (i:=b) (w:=PWord.mk (gD d b).text 0 0 0))<|Kl 0 31 (iz b)<|Kf 0<|e (b+1) (d.set b<|PWord.mk (gD d b).text 0 0 0) (by grind[yT]) gR) fun _ _=>Mg 7<|K3 (0:Nat) u.kids [1,2,35,36] (fun b e=>([bY 0 0 0 0,bY 1 0 0 0,nV u.kids.length,nV b],[aZ 8 false 0 [aw [iV 0,iV 0,iV 0,iV u.kind,aj u.label,AV.sl0 3 0 u.head.length none,AV.sl0 4 0 u.words.length none,AV.sl0 5 a u.kids.length none]],aZ 8 false 0 [aw [iV 0,iV 0,iV 0,iV 0,aj [],aa,aa,aa]],AObj.dead,aZ 4 true 0<|c.map aQ,aZ 4 true 0<|d.map aQ,aZ 8 true a<|e.map aV])) (fun a b=>a≤u.kids.length∧b=kz ct u.kids a) (fun a _=>u.kids.length-a) (by exact⟨bD _,rfl⟩) fun b e hx3 f=>have hx3:b≤u.kids.length∧e=kz ct u.kids b:=hx3;have:e.length=u.kids.length:=(by grind[u9]);have g:b<u.kids.length→kP (317:FuncId) [eU (gD e b)] (eU (ct (gD e b))):=fun h=>ihk _ (by grind[y6,jZ]);Ka 0 (Int.ofNat b) (Int.ofNat u.kids.length) (fun _ _=>K1 7 .rix (et (aU a) (sA:b<u.kids.length))<|Mr (et (aU a)<|qE aV (g:=Go.Ev.eU) aO (sA:b<(e).length))<|Mp (g sA)<|M1 .rix (et (aU a) (sA:b<u.kids.length))<|M3 (.rst (aw [iV (gD e b).act,iV (gD e b).item,iV (gD e b).n,iV (gD e b).kind,aj (gD e b).label,aW<|List.map aQ (gD e b).head,aW<|List.map aQ (gD e b).words,aW<|List.map aV (gD e b).kids])<|(e.set b<|ct<|gD e b).map aV) rt (iX (tR 8 true a 6<|aX gN e) rt) (cn (aU a) (qE aV (g:=Go.Ev.eU) aO (sA:b<(e).length))<|CO (f:=aV) (g:=Go.Ev.eU) aO (l:=e) (i:=b) (w:=ct<|gD e b))<|Kl 0 49 (iz b)<|Kf 0<|f (b+1) (e.set b<|ct<|gD e b) (by grind[y6,BH]) gR) fun _ _=>M2 (.fza 0 7 5 [1,2]<|e.map aV) (xo (tR 4 true 0 5<|aX ig d) (tR 4 true 0 5<|aX ig c) rt rt rt ti) (cn (aU a) (tA aV e u.kids.length (oA:(e).length=u.kids.length))<|aX gN e)<|M2 (.fza 0 6 4 [1,2]<|d.map aQ) (CV (tR 4 true 0 4<|aX ig c) rt rt rt ti) (cn (aU 0) (tA aQ d u.words.length (oA:(d).length=u.words.length))<|aX ig d)<|M2 (.fza 0 5 3 [1,2]<|c.map aQ) (jF rt rt rt ti) (cn (aU 0) (tA aQ c u.head.length (oA:(c).length=u.head.length))<|aX ig c)<|Kf 1 (aL (lc<|lc<|lc<|lc<|lc<|.cons (cj<|rr0<|c.map aQ)<|.cons (cj<|rr1<|d.map aQ)<|.cons (cj<|rr2<|e.map aV) .nil)<|by kernel_rfl:Le _ (AV.agg [iV 0,iV 0,iV 0,iV u.kind,AV.str u.label,AV.ls (c.map aQ),AV.ls (d.map aQ),AV.ls (e.map aV)]))
theorem PV:Go.Proofs.Builder.Extra Tryz.prog Tryz.ljoin_ren:=by
  repeat' (first|kernel_rfl|(intro w;kernel_rfl)|decide|constructor)
theorem SO(l:List aP)(sep:aP)(h1:l.length≤140737488355328)(h2:(Lib.join l sep).length≤140737488355328):kP 101 [.ls (l.map mE),.str sep] (.str (Lib.join l sep)):=L1 (Go.Proofs.enters_of Tryz.func101 (by kernel_rfl) rfl) (fun a b c d e f g h i j k=>Go.Proofs.Any.strings_Join Go.Proofs.Tryz.ljoin PV a b c d e f g h i j k) (fun a b c d=>Go.Proofs.Any.strings_Join_none Go.Proofs.Tryz.ljoin PV a b c d) l sep h1 h2
theorem Xp:Go.Proofs.Builder.Extra Tryz.prog Tryz.lrep_ren:=by
  repeat' (first|kernel_rfl|(intro w;kernel_rfl)|decide|constructor)
theorem U6(s:aP)(c:Nat)(h1:c≤9223372036854775807)(h2:s.length*c≤140737488355328):kP 331 [.str s,nV c] (.str (Lib.repeatL s c)):=E6 (Go.Proofs.enters_of Tryz.func331 (by kernel_rfl) rfl) (fun a b d e f=>Go.Proofs.Any.strings_Repeat Go.Proofs.Tryz.lrep Xp a b d e f) s c h1 h2
theorem Oe(s:aP)(ws:List PWord)(hw:∀w,w∈ws→1≤w.text.length∧w.text.length≤24)(hb:s.length+26*ws.length≤2^40)(hn:ws.length≤2^20):kP 333 [.str s,.ls (ws.map aQ)] (.str (lm s ws)):=by
  have rr0 b' (h:(lm s ws)=b':=by first|rfl|(exact hj0.1.symm)):=h;exact bu Tryz.func333<|Kl 2 8 (ln aQ ws)<|Mg 0<|Uj (0:Nat) ws s [0,7,8,9] (fun a _ b=>([aj b,aW<|ws.map aQ,nV ws.length,nV a],[])) (fun a b c=>(ws).drop a=b∧lm c b=lm s ws∧List.length c+26*b.length≤2^40) (fun _ a _=>a.length) (et rfl<|by first|rfl|(first|simp_all|(refine⟨by(rw[←hj0.1,oY];first|rw[D7 h1]|rw[D6 h1 h2]|rw[D0 h1 h2]),?_⟩;have q:=hj0.2;simp only[lA,lC,lN]at *;omega))) fun a b c d e=>Mc b (fun a=>have b:=gn d.1 a;have hj0:=jv (J:=fun a b=>lm b a=lm s ws∧List.length b+26*a.length≤2^40) (a:=c) a d.2;Kh 0 b<|Kf 1<|Le.str<|rr0 c) fun b f g=>let i:=[aZ 4 false 0 [aw [aj b.text,iV b.act,iV b.item,iV b.at_]]];have j:=gp d.1 g;have:=ar j;have k:=gm (enc:=aQ) d.1 g;have hj0:=cH (J:=fun a b=>lm b a=lm s ws∧List.length b+26*a.length≤2^40) (a:=c) g d.2;have:=hw b<|aN d.1 g;Kt 0 j<|Mx k<|Kv 3 (iM (s:=c) (u:=[32]) (H:=ay i) (by(first|first|assumption|omega|grind):(c).length+([32]).length≤2^62))<|K1 2 (.chr<|gD b.text 0) (yE (by first|omega|(simp only[oN,lM,lS]at *;omega)|(simp only[oN,lM,lS,lA,lR,lC,lN]at * <;>omega):0<(b.text).length))<|Kj 1 (Int.ofNat (gD b.text 0).toNat) 124 (fun j _=>Mt j<|Mt j<|Mt j<|MV j<|Kv 1 (iM (s:=c++[32]) (u:=[92]) (H:=ay i) (by(first|first|assumption|omega|grind):(c++[32]).length+([92]).length≤2^62))<|Kv 3 (iM (s:=c++[32]++[92]) (u:=b.text) (H:=ay i) (by(first|first|assumption|omega|grind):(c++[32]++[92]).length+(b.text).length≤2^62))<|Kl 1 31 (de a)<|K1 0 (.frz 0 [0,7,8,9]) ti<|Mf<|e (a+1) f (c++[32]++[92]++b.text) (et (b7 d.1 g)<|by first|exact⟨rfl,hb⟩|(refine⟨by(rw[←hj0.1,oY];first|rw[D7 j]|rw[D6 j h2]|rw[D0 j h2]),?_⟩;grind))<|fF g) fun j _=>Kh 0 j<|Kh 0 j<|M1 (.chr<|gD b.text 0) (yE (by first|omega|(simp only[oN,lM,lS]at *;omega)|(simp only[oN,lM,lS,lA,lR,lC,lN]at * <;>omega):0<(b.text).length))<|Mh j<|Kw 0 j<|Mb (ab (Int.ofNat (gD b.text 0).toNat) 92) (fun k=>have:=iY k;Kv 0 (iM (s:=c++[32]) (u:=[92]) (H:=ay i) (by(first|first|assumption|omega|grind):(c++[32]).length+([92]).length≤2^62))<|Kv 3 (iM (s:=c++[32]++[92]) (u:=b.text) (H:=ay i) (by(first|first|assumption|omega|grind):(c++[32]++[92]).length+(b.text).length≤2^62))<|Kl 1 31 (de a)<|K1 0 (.frz 0 [0,7,8,9]) ti<|Mf<|e (a+1) f (c++[32]++[92]++b.text) (et (b7 d.1 g)<|by first|exact⟨rfl,hb⟩|(refine⟨by(rw[←hj0.1,oY];first|rw[D7 j]|grind[D6]|rw[D0 j k]),?_⟩;grind))<|fF g) fun k=>have:=Cq k;Kv 2 (iM (s:=c++[32]) (u:=b.text) (H:=ay i) (by(first|first|assumption|omega|grind):(c++[32]).length+(b.text).length≤2^62))<|Kl 1 31 (de a)<|K1 0 (.frz 0 [0,7,8,9]) ti<|Mf<|e (a+1) f (c++[32]++b.text) (et (b7 d.1 g)<|by first|exact⟨rfl,hb⟩|(refine⟨by(rw[←hj0.1,oY];first|rw[D7 j]|rw[D6 j k]|grind[D0]),?_⟩;grind))<|fF g
theorem rE{u:TUnit}(h:mU u):mU (ct u):=by
  obtain⟨h1,h2⟩:=LV u
  refine⟨by rw[h1];exact h.1,fun x hx=>?_⟩
  obtain⟨y,hy,rfl⟩:=h2 x hx
  obtain⟨a,b,c,d,e⟩:=h.2 y hy
  rw[lT]
  refine⟨by grind[TUnit.head],by grind[TUnit.words],c,fun w hw=>?_,fun w hw=>?_⟩
  · obtain⟨v,hv,rfl⟩:=jg.1 hw;exact d v hv
  · obtain⟨v,hv,rfl⟩:=jg.1 hw;exact e v hv
theorem Bj{u:TUnit}(h:ry u):mU (sM u):=by
  have e:bg (sM u)=[sM u]:=by rw[dJ];exact congrArg _ fu
  refine⟨by rw[iS];exact bN (vi (congrArg (1+ ·) lG)) (by omega),fun x hx=>?_⟩
  rw[e]at hx
  rw[mT.1 hx];exact h
theorem CF(u:TUnit)(h:mU u):kP 317 [eU u] (eU (ct u)):=
  N5 u (bN h.1 (by omega)) fun x hx=>⟨bN (h.2 x hx).1 (by omega),bN (h.2 x hx).2.1 (by omega)⟩
theorem PJ(u:TUnit)(d:Nat)(hd:d≤2^20)(h:ry u):kP 330 [eU u,nV d] (.bool (DV u d)):=by
  have h1:=CF (sM u) (Bj h)
  have h2:=xV (ct (sM u)) (rE (Bj h))
  have hz:=Vx d
  have rr0 b' (h:(DV u d)=b':=by first|rfl|(unfold DV;simp only[aS,ax,bS, *];done)):=h;exact bu Tryz.func330<|Kn 13 (ap 8<|Int.ofNat d) (fun a=>Kt 0 (cW a)<|Mp (aI.onArgs (.cons (aL (lc<|lc<|lc<|lc<|lc<|lc<|lc<|.cons bo .nil)<|by kernel_rfl) .nil) h1:kP 317 [aw [iV 0,iV 0,iV 0,iV u.kind,aj u.label,aW (u.head.map aQ),aW (u.words.map aQ),aa]] _)<|Mt (cW a)<|Mp h2<|MV (cW a)<|Kf 0<|cZ<|rr0<|kf<|ct<|sM u) fun a=>Mh (cQ a)<|Mh (cQ a)<|My (cQ a)<|Ky 0<|rr0 false
theorem Vm(u:TUnit)(d:Nat)(hd:d≤2^20)(h:ry u)(hm:DV u d=false):kP 319 [eU u,nV d] (.str (fH u d)):=by
  have h1:=PJ u d hd h
  rw[hm]at h1
  have e:fH u d=[]:=by unfold fH;simp_all
  rw[e]
  exact bu Tryz.func319<|Kp 3 h1<|Kf 2<|ba<|aj []
def L0(u:TUnit)(d:Nat)(z18:aP):Prop:=(z18=bif ax (ab u.kind (0:Int))then Lib.repeatL [(32:UInt8),(32:UInt8)] d++cN u.kind++([(32:UInt8)]++u.label)else Lib.repeatL [(32:UInt8),(32:UInt8)] d++cN u.kind)∧List.length z18≤(40:Nat)
noncomputable def LS(u:TUnit)(d:Nat)(z18:aP):List AV×List AObj:=([AV.ptr 0 0 0 0,AV.str z18],[AObj.row 8 false 0 [AV.agg [iV u.act,iV u.item,iV u.n,iV u.kind,AV.str u.label,AV.ls (u.head.map aQ),AV.ls (u.words.map aQ),AV.ls (u.kids.map aV)]]])
def LR(u:TUnit)(z18:aP)(z27:aP):Prop:=(z27=bif ap (0:Int) (Int.ofNat u.head.length)then lm (z18++[(58:UInt8)]) u.head else z18)∧List.length z27≤(6700:Nat)
noncomputable def LP(u:TUnit)(z18:aP)(z27:aP):List AV×List AObj:=([AV.ptr 0 0 0 0,AV.str z27],[AObj.row 8 false 0 [AV.agg [iV u.act,iV u.item,iV u.n,iV u.kind,AV.str u.label,AV.ls (u.head.map aQ),AV.ls (u.words.map aQ),AV.ls (u.kids.map aV)]]])
theorem Vl(u:TUnit)(d:Nat)(hd:d≤2^20)(h:ry u)(hm:DV u d=true):kP 319 [eU u,nV d] (.str (fH u d)):=by
  have h1:=PJ u d hd h
  obtain⟨hd8,hlb,⟨hh1,hh2⟩,hw1,hw2⟩:=JG hm
  have hrl:=Lib.repeatL_length [32,32] d
  simp only[lC,lN]at hrl
  have h2:=U6 [32,32] d (by omega) (by grind)
  have hk:=wV u.kind
  have hkl:=zV u.kind
  have hp1:∀s:aP,s.length≤2^14→kP 333 [.str s,.ls (u.head.map aQ)] (.str (lm s u.head)):=fun s hs=>Oe s u.head hh2 (by omega) (by omega)
  have hp2:∀s:aP,s.length≤2^14→kP 333 [.str s,.ls (u.words.map aQ)] (.str (lm s u.words)):=fun s hs=>Oe s u.words hw2 (by omega) (by omega)
  rw[hm]at h1
  have rr0 b' (h:(fH u d)=b':=by first|rfl|(unfold fH;rw[hm];simp only[ax,cond_false];rw[←hz18.1,←hz27.1];first|(rw[h3];rfl)|(rw[h4];rfl)|(rw[h5];rfl)|(rw[h6];rfl)|(rw[h7];rfl))):=h;let q1:=[aZ 8 false 0 [aw [iV u.act,iV u.item,iV u.n,iV u.kind,aj u.label,aW (u.head.map aQ),aW (u.words.map aQ),aW (u.kids.map aV)]]];exact bu Tryz.func319<|Kp 3 h1<|Kp 2 h2<|Kp 1 hk<|Mv (iM (s:=Lib.repeatL [32,32] d) (u:=cN u.kind) (H:=AHeap.mk 1000000 Tr.nil) (by(first|first|assumption|((try simp only[lA,lC,lN]);omega)|(simp only[lA,lC,lN]at *;omega)):(Lib.repeatL [32,32] d).length+(cN u.kind).length≤2^62))<|Mg 0<|Mj aP [2,5] (LS u d) (L0 u d) (fun a=>Kn 2 (ab u.kind 0) (fun _=>Kv 2 (iM (s:=[32]) (u:=u.label) (H:=ay q1) (by(first|first|assumption|((try simp only[lA,lC,lN]);omega)|(simp only[lA,lC,lN]at *;omega)):([32]).length+(u.label).length≤2^62))<|Mv (iM (s:=Lib.repeatL [32,32] d++cN u.kind) (u:=32::u.label) (H:=ay q1) (by(first|first|assumption|((try simp only[lA,lC,lN]);omega)|(simp only[lA,lC,lN]at *;omega)):(Lib.repeatL [32,32] d++cN u.kind).length+(32::u.label).length≤2^62))<|Kf 0<|a (Lib.repeatL [32,32] d++cN u.kind++32::u.label) (by(refine⟨by first|simp_all|(rw[h2];rfl)|(rw[h3];rfl)|(rw[h0];rfl),?_⟩;grind):(Lib.repeatL [(32:UInt8),(32:UInt8)] d++cN u.kind++(32:UInt8)::u.label=bif ax (ab u.kind (0:Int))then Lib.repeatL [(32:UInt8),(32:UInt8)] d++cN u.kind++([(32:UInt8)]++u.label)else Lib.repeatL [(32:UInt8),(32:UInt8)] d++cN u.kind)∧(Lib.repeatL [(32:UInt8),(32:UInt8)] d++cN u.kind++(32:UInt8)::u.label).length≤40)) fun _=>Mf<|a (Lib.repeatL [32,32] d++cN u.kind) (by(refine⟨by first|simp_all|(rw[h2];rfl)|(rw[h3];rfl)|(rw[h0];rfl),?_⟩;grind):(Lib.repeatL [(32:UInt8),(32:UInt8)] d++cN u.kind=bif ax (ab u.kind (0:Int))then Lib.repeatL [(32:UInt8),(32:UInt8)] d++cN u.kind++([(32:UInt8)]++u.label)else Lib.repeatL [(32:UInt8),(32:UInt8)] d++cN u.kind)∧(Lib.repeatL [(32:UInt8),(32:UInt8)] d++cN u.kind).length≤40)) fun a hz18=>have hz18:(a=bif ax (ab u.kind (0:Int))then Lib.repeatL [(32:UInt8),(32:UInt8)] d++cN u.kind++([(32:UInt8)]++u.label)else Lib.repeatL [(32:UInt8),(32:UInt8)] d++cN u.kind)∧List.length a≤40:=hz18;Mj aP [2,5] (LP u a) (LR u a) (fun b=>Kl 2 26 (ln aQ u.head)<|Kb 0 (ap 0<|Int.ofNat u.head.length) (fun h3=>Kv 0 (iM (s:=a) (u:=[58]) (H:=ay q1) (by(first|first|assumption|((try simp only[lA,lC,lN]);omega)|(simp only[lA,lC,lN]at *;omega)):(a).length+([58]).length≤2^62))<|Kp 1 (hp1 (a++[58])<|by first|assumption|((try simp only[lA,lC,lN]);omega))<|Kf 0<|b (lm (a++[58]) u.head) (by(refine⟨by first|simp_all|(rw[h2];rfl)|(rw[h4];rfl)|(rw[h5];rfl),?_⟩;first|omega|(have q:=uv (fun w hw=>(hh2 w hw).2) (a++[58]);grind)):(lm (a++[(58:UInt8)]) u.head=bif ap (0:Int) (Int.ofNat u.head.length)then lm (a++[(58:UInt8)]) u.head else a)∧List.length (lm (a++[(58:UInt8)]) u.head)≤6700)) fun h3=>Mf<|b a (by(refine⟨by first|simp_all|(rw[h2];rfl)|(rw[h4];rfl)|(rw[h5];rfl),?_⟩;first|omega|(have q:=uv (fun w hw=>(hh2 w hw).2) (a++[58]);simp only[lA,lC,lN]at q;omega)):(a=bif ap (0:Int) (Int.ofNat u.head.length)then lm (a++[(58:UInt8)]) u.head else a)∧List.length a≤6700)) fun b hz27=>have hz27:(b=bif ap (0:Int) (Int.ofNat u.head.length)then lm (a++[(58:UInt8)]) u.head else a)∧List.length b≤6700:=hz27;Kl 2 35 (ln aQ u.words)<|Kb 0 (ap 0<|Int.ofNat u.words.length) (fun h4=>Kv 0 (iM (s:=b) (u:=[32,124]) (H:=ay q1) (by(first|first|assumption|((try simp only[lA,lC,lN]);omega)|(simp only[lA,lC,lN]at *;omega)):(b).length+([32,124]).length≤2^62))<|Kp 1 (hp2 (b++[32,124])<|by first|assumption|((try simp only[lA,lC,lN]);omega))<|Kf 2<|Le.str<|rr0<|lm (b++[32,124]) u.words) fun h4=>Kf 1<|Le.str<|rr0 b
theorem JO(u:TUnit)(d:Nat)(hd:d≤2^20)(h:ry u):kP 319 [eU u,nV d] (.str (fH u d)):=by
  grind[Vm,Vl]
noncomputable abbrev GS(ep n:Nat):AObj:=.row 1 false 0 [.slice 2 ep 0 n none]
noncomputable abbrev DI:AObj:=.row 1 false 0 [.func (.func 318) [] [.ptr 0 0 0 0,.ptr 1 0 0 0]]
noncomputable abbrev Es(ep:Nat)(l:List aP):AObj:=.row 1 true ep (l.map mE)
def sY(u:TUnit)(d:Nat)(l:List aP)(x0:Nat×List TUnit×Nat×Nat×List aP):Prop:=(u.kids).drop x0.1=x0.2.1∧x0.2.2.2.1=x0.2.2.2.2.length∧x0.2.2.2.2++cP (d+(1:Nat)) x0.2.1=l++[fH u d]++cP (d+(1:Nat)) u.kids∧x0.2.2.2.2.length+dO x0.2.1≤2^20
noncomputable def sV(u:TUnit)(d:Nat)(l:List aP)(x0:Nat×List TUnit×Nat×Nat×List aP):List AV×List AObj:=([nV d,AV.ptr 1 0 0 0,AV.ls (u.kids.map aV),nV u.kids.length,nV x0.1],[AObj.row 1 false 0 [AV.slice 2 x0.2.2.1 0 x0.2.2.2.1 none],AObj.row 1 false 0 [AV.func (Fn.func 318) [] [AV.ptr 0 0 0 0,AV.ptr 1 0 0 0]],AObj.row 1 true x0.2.2.1 (x0.2.2.2.2.map mE)])
theorem Xr:∀(u:TUnit)(d ep n:Nat)(l:List aP),n=l.length→l.length+nU u≤2^20→d+nU u≤2^20→(∀x,x∈bg u→ry x)→kC 318 [eU u,nV d,.ptr 0 0 0 0,.ptr 1 0 0 0] (ay [GS ep n,DI,Es ep l])
    (fun v h=>∃y:Nat×Nat×List aP,(y.2.1=y.2.2.length∧y.2.2=l++dS d u)∧v=.tuple []∧h=ay [GS y.1 y.2.1,DI,Es y.1 y.2.2]):=by
  refine TUnit.ind fun u ih d ep n l hn hl hd ht=>?_
  have hq:=iS u
  have hkl:=bd u
  have hf:=JO u d (by omega) (ht u (dY u))
  have ihk:∀k,k∈u.kids→∀(d ep n:Nat)(l:List aP),n=l.length→l.length+nU k≤2^20→d+nU k≤2^20→kC 318 [eU k,nV d,.ptr 0 0 0 0,.ptr 1 0 0 0] (ay [GS ep n,DI,Es ep l])
    (fun v h=>∃y:Nat×Nat×List aP,(y.2.1=y.2.2.length∧y.2.2=l++dS d k)∧v=.tuple []∧h=ay [GS y.1 y.2.1,DI,Es y.1 y.2.2]):=fun k hk d ep n l a b c=>ih k hk d ep n l a b c (fun x hx=>ht x (bC hk hx))
  exact pD Tryz.func318 fun e=>Kp 3 hf<|Mg 0<|Mw (.apx ((l++[fH u d]).map mE)<|.go 3<|.le 16 (nV u.kids.length)<|.go 0<|.frz 3 [1,3,15,16,17]<|.loop (Nat×List TUnit×Nat×Nat×List aP) [1,3,15,16,17] (sV u d l) (sY u d l) (fun e=>e.2.1.length) (0,u.kids,(ep+1,n+1,l++[fH u d])) fun e=>.cs TUnit e.2.1 (.go 0<|.ff .fin) fun f _=>.go 0<|.tt<|.elem (eU f)<|.go 6<|.le 24 (nV<|d+1)<|.frz 3 [1,3,15,16,17,21,22,24]<|.eff (Nat×Nat×List aP) (fun _=>cV []) (fun e=>ay [GS e.1 e.2.1,DI,Es e.1 e.2.2]) (fun g=>g.2.1=g.2.2.length∧g.2.2=e.2.2.2.2++dS (d+1) f) fun _=>.go 0<|.le 26 (nV<|e.1+1)<|.go 0 .fin)<|Zm rt (iX (tR 1 true ep 4<|aX Im l) rt) (et (pK _ _:([aj (fH u d)]:List AV)≠[]) rt) (et (cn (aU ep) (by first|assumption|omega|simp_all|(refine aC (m:=2^31) ?_ ?_ ?_<;>(try simp only[lM,lC,lN])<;>omega):n=(l.map mE).length) (by first|assumption|omega|(simp only[lM];omega)|(refine aC (m:=2^31) ?_ ?_ ?_<;>(try simp only[lM,lC,lN])<;>omega):small (n+([AV.str (fH u d)]).length) 16=true))<|dz (f:=mE) (l:=l) (ws:=[fH u d])) (ln aV u.kids) (jF (tR 1 true (ep+1) 3<|aX Im<|l++[fH u d]) rt rt ti) (aU<|sV u d l (0,u.kids,(ep+1,n+1,l++[fH u d]))) (et (rfl:List.drop 0 (u.kids)=u.kids) (by first|rfl|(first|grind|(have h1:=hj0.2.1;have h2:=hj0.2.2;rw[bc]at h2;rw[lH]at h1;exact⟨hy1.1,(by rw[hy1.2,←h1];simp),(by rw[hy1.2,lA,kn];omega)⟩)):(n+1=(l++[fH u d]).length∧l++[fH u d]++cP (d+1) u.kids=l++[fH u d]++cP (d+1) u.kids∧(l++[fH u d]).length+dO u.kids≤2^20))) fun(f:Nat×List TUnit×Nat×Nat×List aP)(g:(sY u d l) f)=>et (fun(i:f.2.1=[])=>have j:=gn g.1 i;have:=jv (J:=fun e f=>f.2.1=f.2.2.length∧f.2.2++cP (d+1) e=l++[fH u d]++cP (d+1) u.kids∧f.2.2.length+dO e≤2^20) (a:=f.2.2) i g.2;et j<|e (f.2.2.1,f.2.2.2.1,f.2.2.2.2)<|by first|grind[wW,BL]|rfl) fun(e:TUnit)(i:List TUnit)(j:f.2.1=e::i)=>have o:=gp g.1 j;have:=ar o;have p:=(gm (enc:=aV) g.1 j).trans<|congrArg some<|aO e;have:=cH (J:=fun e f=>f.2.1=f.2.2.length∧f.2.2++cP (d+1) e=l++[fH u d]++cP (d+1) u.kids∧f.2.2.length+dO e≤2^20) (a:=f.2.2) j g.2;have q:=aN g.1 j;have r:f.2.2.2.2.length+nU e≤2^20:=(by grind[bc]);have s:d+1+nU e≤2^20:=(by have:=ib q;omega);xo o p (iz d) (jF (tR 1 true f.2.2.1 3<|aX Im f.2.2.2.2) rt rt ti) (ihk e q (d+1) f.2.2.1 f.2.2.2.1 f.2.2.2.2 (by first|assumption|omega|(simp only[lM];omega)|(refine aC (m:=2^31) ?_ ?_ ?_<;>(try simp only[lM,lC,lN])<;>omega)) r s) fun(o:Nat×Nat×List aP)(_:o.2.1=o.2.2.length∧o.2.2=f.2.2.2.2++dS (d+1) e)=>et (iz f.1)<|Nx.mk (I:=sY u d l) (m:=fun e=>e.2.1.length) (S:=sV u d l) (x:=f) (f.1+1,i,(o.1,o.2.1,o.2.2)) (et (b7 g.1 j) (by first|exact⟨by simp[hn],rfl,by simp;omega⟩|grind[bc,lH,kn]:(o.2.1=o.2.2.length∧o.2.2++cP (d+1) i=l++[fH u d]++cP (d+1) u.kids∧o.2.2.length+dO i≤2^20)))<|fF j
theorem Xs(u:TUnit)(d:Nat)(hl:nU u≤2^19)(hd:d+nU u≤2^20)(ht:∀x,x∈bg u→ry x):kC 318 [eU u,nV d,.ptr 0 0 0 0,.ptr 1 0 0 0] (ay [.row 1 false 0 [.nils],DI])
    (fun v h=>∃y:Nat×Nat×List aP,(y.2.1=y.2.2.length∧y.2.2=dS d u)∧v=.tuple []∧h=ay [GS y.1 y.2.1,DI,Es y.1 y.2.2]):=by
  have hq:=iS u
  have hkl:=bd u
  have hf:=JO u d (by omega) (ht u (dY u))
  have ihk:∀k,k∈u.kids→∀(d ep n:Nat)(l:List aP),n=l.length→l.length+nU k≤2^20→d+nU k≤2^20→kC 318 [eU k,nV d,.ptr 0 0 0 0,.ptr 1 0 0 0] (ay [GS ep n,DI,Es ep l])
    (fun v h=>∃y:Nat×Nat×List aP,(y.2.1=y.2.2.length∧y.2.2=l++dS d k)∧v=.tuple []∧h=ay [GS y.1 y.2.1,DI,Es y.1 y.2.2]):=fun k hk d ep n l a b c=>Xr k d ep n l a b c (fun x hx=>ht x (bC hk hx))
  exact pD Tryz.func318 fun e=>Kp 3 hf<|Kl 5 16 (ln aV u.kids)<|Mg 0<|M0 (.ren [0,1,3,2] [] [1,3,15,16,17])<|M1 (.frz 3 [1,3,15,16,17]) (jF rt rt rt ti)<|Ux aV u.kids (0:Nat) (1:Nat) ([fH u d]:List aP) [1,3,15,16,17] (fun e _ f g i=>([nV d,bY 1 0 0 0,aW<|u.kids.map aV,nV u.kids.length,nV e],[aZ 1 false 0 [aG 2 f 0 g none],aZ 1 false 0 [bJ (bW 318) [] [bY 0 0 0 0,bY 1 0 0 0]],aZ 1 true f<|i.map mE])) (fun e _ f g=>f=g.length∧g++cP (d+1) e=[fH u d]++cP (d+1) u.kids∧g.length+dO e≤2^20) (by first|rfl|(first|grind|(have h1:=hj0.2.1;have h2:=hj0.2.2;rw[bc]at h2;rw[lH]at h1;exact⟨hy1.1,(by rw[hy1.2,←h1];simp),(by rw[hy1.2,lA,kn];omega)⟩))) (fun _ _ f g i _ _ _ j _=>Kh 0 j<|Mf<|e (f,g,i)<|by first|grind[wW,BL]|rfl) fun e _ f g i j m o p q r s _ t _=>have t:=(t).trans<|congrArg some<|aO o;have:=cH (J:=fun e f=>f.2.1=f.2.2.length∧f.2.2++cP (d+1) e=[fH u d]++cP (d+1) u.kids∧f.2.2.length+dO e≤2^20) (a:=(f,g,i)) r m;have j:=aN j r;have m:i.length+nU o≤2^20:=(by grind[bc]);have r:d+1+nU o≤2^20:=(by have:=ib j;omega);Kt 0 s<|Mx t<|Kl 6 24 (iz d)<|M1 (.frz 3 [1,3,15,16,17,21,22,24]) (jF (tR 1 true f 3<|aX Im i) rt rt ti)<|Mq (ihk o j (d+1) f g i (by first|assumption|omega) m r) fun f _=>Kl 0 26 (iz e)<|Kf 0<|q f.1 f.2.1 f.2.2<|by first|exact⟨by simp[hl],rfl,by simp;omega⟩|grind[bc,lH,kn]
theorem Vi(u:TUnit)(h:mU u)(hv:kf (ct u)=false):kP 287 [eU u] (.ls (([]:List aP).map mE)):=by
  have h1:=CF u h
  have h2:=xV (ct u) (rE h)
  exact bu Tryz.func287<|Kp 2 h1<|Mp h2<|Kt 0 (cW hv)<|Kf 0 bo
theorem Vh(u:TUnit)(h:mU u)(hv:kf (ct u)=true):kP 287 [eU u] (.ls ((dS 0 u).map mE)):=by
  have h1:=CF u h
  have h2:=xV (ct u) (rE h)
  have h3:=Xs u 0 h.1 (by have:=h.1;omega) h.2
  have rr0 b' (h:((dS 0 u).map mE)=b':=by first|rfl|(rw[hy0.2])):=h;exact bu Tryz.func287<|Kp 2 h1<|Mp h2<|Kh 0 (cQ hv)<|Mg 5<|M0 (.ren [1,2,0] [] [3,10,11])<|M1 (.frz 2 [3,10,11]) (cn rt rt ti)<|Mq h3 fun a hy0=>Mg 1<|M2 (.fsl 0 [] 2<|a.2.2.map mE) ti (cn (aU a.1) (tA mE a.2.2 a.2.1 (by first|assumption|omega:(a.2.2).length=a.2.1))<|aX Im a.2.2)<|Ml 2 (fw (a.2.2.map mE) false<|aX Im a.2.2)<|Mf<|cj<|rr0<|a.2.2.map mE
theorem XL(u:TUnit)(h:mU u)(hv:kf (ct u)=false):kP 253 [eU u] (.tuple [.str (wS u).1,iV (wS u).2]):=by
  have h1:=Vi u h hv
  have e:wS u=([],1):=by unfold wS;simp_all
  rw[e]
  exact bu Tryz.func253<|Kp 3 h1<|Kf 6<|ba<|cV [aj [],iV 1]
theorem XI(u:TUnit)(h:mU u)(hv:kf (ct u)=true):kP 253 [eU u] (.tuple [.str (wS u).1,iV (wS u).2]):=by
  have h1:=Vh u h hv
  have hlen:=kn 0 u
  have hq:=iS u
  have hm:=h.1
  have hjl:=Pv (sep:=[10]) (B:=2^14) (l:=dS 0 u) (fun s hs=>zJ 0 u s hs)
  rw[hlen]at hjl
  have hj2:(Lib.join (dS 0 u) [10]).length≤140737488355328:=bN hjl (bN (eb _ hm) (by grind))
  have hj3:(Lib.join (dS 0 u) [10]).length≤2^40:=bN hjl (bN (eb _ hm) (by grind))
  have hj:=SO (dS 0 u) [10] (by omega) hj2
  have hz:ab (.ofNat (dS 0 u).length) 0=false:=by grind[Qa]
  have e:wS u=(bif ap 16384 (.ofNat (Lib.join (dS 0 u) [10]++[10]).length)then([],6)else(Lib.join (dS 0 u) [10]++[10],0)):=by unfold wS;simp_all
  rw[e]
  clear e
  generalize Lib.join (dS 0 u) [10]=J at *
  cases hb:ap 16384 (.ofNat (J++[10]).length)
  · have hb2:ap 16384 (.ofNat (J++[10]).length)=false:=hb
    exact bu Tryz.func253<|Kp 3 h1<|Kl 2 9 (ln mE<|dS 0 u)<|Kh 0 hz<|Kp 0 hj<|Mv (iM (s:=J) (u:=[10]) (H:=ay [aZ 8 false 0 [aw [iV u.act,iV u.item,iV u.n,iV u.kind,aj u.label,aW<|u.head.map aQ,aW<|u.words.map aQ,aW<|u.kids.map aV]]]) (by(first|first|assumption|grind|omega|(simp only[lA,lC,lN]at *;omega)):(J).length+([10]).length≤2^62))<|Kh 3 hb<|Kf 2<|ba<|cV [aj<|J++[10],iV 0]
  · have hb2:ap 16384 (.ofNat (J++[10]).length)=true:=hb
    exact bu Tryz.func253<|Kp 3 h1<|Kl 2 9 (ln mE<|dS 0 u)<|Kh 0 hz<|Kp 0 hj<|Mv (iM (s:=J) (u:=[10]) (H:=ay [aZ 8 false 0 [aw [iV u.act,iV u.item,iV u.n,iV u.kind,aj u.label,aW<|u.head.map aQ,aW<|u.words.map aQ,aW<|u.kids.map aV]]]) (by(first|first|assumption|grind|omega|(simp only[lA,lC,lN]at *;omega)):(J).length+([10]).length≤2^62))<|Kt 3 hb<|Kf 1<|ba<|cV [aj [],iV 6]
theorem V1(u:TUnit)(h:mU u):kP 253 [eU u] (.tuple [.str (wS u).1,iV (wS u).2]):=by
  grind[XL,XI]
def Vs(u:TUnit):Bool:=G1 u&&(ax (ab u.kind 0)&&ab (wS u).2 0)
theorem Vr(u:TUnit)(h:mU u):kP 180 [eU u] (.bool (Vs u)):=by
  have q1:=V1 u h
  have q2:=Wi u h
  have rr0 b' (h:(Vs u)=b':=by first|rfl|(unfold Vs;rw[h0];rfl)|(unfold Vs;rw[h0,h1];rfl)|(unfold Vs;rw[h0,h1,h2];rfl)):=h;exact bu Tryz.func180<|Kp 2 q1<|Kp 5 q2<|Kb 0 (G1 u) (fun h0=>Kt 0 h0<|Kt 0 h0<|Ku 0 h0<|Kn 0 (ab u.kind 0) (fun h1=>Kt 0 (cW h1)<|Ku 0 (cW h1)<|Kf 0<|cZ<|rr0<|ab (wS u).2 0) fun h1=>Mh (cQ h1)<|My (cQ h1)<|Ky 0<|rr0 false) fun h0=>Mh h0<|Mh h0<|My h0<|Ky 2<|rr0 false
/-- What an item must be, so that the walks can count. -/
def wR(x:PItem):Prop:=mO x∧(x.at_.length<2^40∧∀s,s∈x.at_→s.label.length≤2^39)∧(x.to.length<2^40∧∀s,s∈x.to→s.label.length≤2^39)∧(x.old.length<2^40∧∀s,s∈x.old→s.length≤2^39)∧(x.new.length<2^40∧∀s,s∈x.new→s.length≤2^39)∧x.label.length≤2^39∧x.for_.length≤2^39∧x.start.event.length≤2^39∧mU x.unit
/-- What a valid item is known to be. -/
def zb(x:PItem):Prop:=(x.kind=0∨x.kind=6→iw x.where_=true)∧(x.kind=0→Vs x.unit=true)∧(x.kind=2∨x.kind=3→pO x.old=true∧AC x.nth_=true)∧(x.kind=2∨x.kind=3∨x.kind=4→pO x.new=true)
theorem pM{l:List aP}{n:Int}(h:pN l n=true):pO l=true:=by
  simp_all[pN]
theorem UI(x:PItem)(hx:wR x)(h0:0≤x.kind)(h6:x.kind≤6):∃b,kP 92 [eI x] (.bool b)∧(b=true→zb x):=by
  obtain⟨k,a,t,w,n,u,o,ne,l,f,s,ac,im,d,e,bs⟩:=x
  obtain⟨hf,⟨ha,has⟩,⟨ht,hts⟩,⟨ho,hos⟩,⟨hn,hns⟩,hl,hfo,hse,hu⟩:=hx
  have hz:sy bv:=⟨by grind,by grind,by grind,trivial⟩
  have n0:(0:Nat)<2^60:=by omega
  obtain⟨f1,f2,f3,f4,f5,f6,f7⟩:=hf
  have hff:∀k w n,mO ⟨k,a,t,w,n,u,o,ne,l,f,s,ac,im,d,e,bs⟩:=fun _ _ _=>⟨f1,f2,f3,f4,f5,f6,f7⟩
  have h0:0≤k:=h0
  have h6:k≤6:=h6
  have hk:k=0∨k=1∨k=2∨k=3∨k=4∨k=5∨k=6:=by omega
  rcases hk with rfl|rfl|rfl|rfl|rfl|rfl|rfl
  · refine⟨_,oc ⟨0,a,t,w,n,u,o,ne,l,f,s,ac,im,d,e,bs⟩ (ni ⟨0,a,t,w,n,u,o,ne,l,f,s,ac,im,d,e,bs⟩ 0) 177 178 _ _ rfl rfl (TO _) (sj _ (hff _ _ _) (wj ⟨0,a,t,w,n,u,o,ne,l,f,s,ac,im,d,e,bs⟩ (ni ⟨0,a,t,w,n,u,o,ne,l,f,s,ac,im,d,e,bs⟩ 0)) ⟨f1,n0,n0,n0,n0,f6,trivial⟩) (SE a t w n u o ne l f s ac im d e bs (Vs u) (Vr u hu)) ha has hfo hse,fun h=>?_⟩
    simp only[bU]at h
    exact⟨fun _=>h.2.2.2.2.1,fun _=>h.2.2.2.2.2,fun q=>(by rcases q with q|q<;>cases q),fun q=>(by rcases q with q|q|q<;>cases q)⟩
  · refine⟨_,oc ⟨1,a,t,w,n,u,o,ne,l,f,s,ac,im,d,e,bs⟩ (ni ⟨1,a,t,w,n,u,o,ne,l,f,s,ac,im,d,e,bs⟩ 1) 181 182 _ _ rfl rfl (TN _) (sj _ (hff _ _ _) (wj ⟨1,a,t,w,n,u,o,ne,l,f,s,ac,im,d,e,bs⟩ (ni ⟨1,a,t,w,n,u,o,ne,l,f,s,ac,im,d,e,bs⟩ 1)) ⟨f1,n0,n0,n0,n0,hz,trivial⟩) (SD a t w n u o ne l f s ac im d e bs) ha has hfo hse,fun h=>?_⟩
    exact⟨fun q=>(by rcases q with q|q<;>cases q),fun q=>(by cases q),fun q=>(by rcases q with q|q<;>cases q),fun q=>(by rcases q with q|q|q<;>cases q)⟩
  · refine⟨_,oc ⟨2,a,t,w,n,u,o,ne,l,f,s,ac,im,d,e,bs⟩ (ni ⟨2,a,t,w,n,u,o,ne,l,f,s,ac,im,d,e,bs⟩ 2) 183 184 _ _ rfl rfl (TM _) (sj _ (hff _ _ _) (wj ⟨2,a,t,w,n,u,o,ne,l,f,s,ac,im,d,e,bs⟩ (ni ⟨2,a,t,w,n,u,o,ne,l,f,s,ac,im,d,e,bs⟩ 2)) ⟨f1,n0,f3,f4,n0,hz,trivial⟩) (SC a t w n u o ne l f s ac im d e bs ho hn hos hns) ha has hfo hse,fun h=>?_⟩
    simp only[bU]at h
    exact⟨fun q=>(by rcases q with q|q<;>cases q),fun q=>(by cases q),fun _=>⟨pM h.2.2.2.2.1,h.2.2.2.2.2.2⟩,fun _=>pM h.2.2.2.2.2.1⟩
  · refine⟨_,oc ⟨3,a,t,w,n,u,o,ne,l,f,s,ac,im,d,e,bs⟩ (ni ⟨3,a,t,w,n,u,o,ne,l,f,s,ac,im,d,e,bs⟩ 3) 187 188 _ _ rfl rfl (TL _) (sj _ (hff _ _ _) (wj ⟨3,a,t,w,n,u,o,ne,l,f,s,ac,im,d,e,bs⟩ (ni ⟨3,a,t,w,n,u,o,ne,l,f,s,ac,im,d,e,bs⟩ 3)) ⟨f1,n0,f3,f4,n0,hz,trivial⟩) (SB a t w n u o ne l f s ac im d e bs ho hn hos hns) ha has hfo hse,fun h=>?_⟩
    simp only[bU]at h
    exact⟨fun q=>(by rcases q with q|q<;>cases q),fun q=>(by cases q),fun _=>⟨pM h.2.2.2.2.1,h.2.2.2.2.2.2.1⟩,fun _=>pM h.2.2.2.2.2.1⟩
  · refine⟨_,oc ⟨4,a,t,w,n,u,o,ne,l,f,s,ac,im,d,e,bs⟩ (ni ⟨4,a,t,w,n,u,o,ne,l,f,s,ac,im,d,e,bs⟩ 4) 189 190 _ _ rfl rfl (TI _) (sj _ (hff _ _ _) (wj ⟨4,a,t,w,n,u,o,ne,l,f,s,ac,im,d,e,bs⟩ (ni ⟨4,a,t,w,n,u,o,ne,l,f,s,ac,im,d,e,bs⟩ 4)) ⟨f1,n0,n0,f4,n0,hz,trivial⟩) (SA a t w n u o ne l f s ac im d e bs hn hns) ha has hfo hse,fun h=>?_⟩
    simp only[bU]at h
    exact⟨fun q=>(by rcases q with q|q<;>cases q),fun q=>(by cases q),fun q=>(by rcases q with q|q<;>cases q),fun _=>pM h.2.2.2.2⟩
  · refine⟨_,oc ⟨5,a,t,w,n,u,o,ne,l,f,s,ac,im,d,e,bs⟩ (ni ⟨5,a,t,w,n,u,o,ne,l,f,s,ac,im,d,e,bs⟩ 5) 191 192 _ _ rfl rfl (TH _) (sj _ (hff _ _ _) (wj ⟨5,a,t,w,n,u,o,ne,l,f,s,ac,im,d,e,bs⟩ (ni ⟨5,a,t,w,n,u,o,ne,l,f,s,ac,im,d,e,bs⟩ 5)) ⟨f1,n0,n0,n0,n0,hz,trivial⟩) (Su a t w n u o ne l f s ac im d e bs hl) ha has hfo hse,fun h=>?_⟩
    exact⟨fun q=>(by rcases q with q|q<;>cases q),fun q=>(by cases q),fun q=>(by rcases q with q|q<;>cases q),fun q=>(by rcases q with q|q|q<;>cases q)⟩
  · refine⟨_,oc ⟨6,a,t,w,n,u,o,ne,l,f,s,ac,im,d,e,bs⟩ (ni ⟨6,a,t,w,n,u,o,ne,l,f,s,ac,im,d,e,bs⟩ 6) 193 194 _ _ rfl rfl (TG _) (sj _ (hff _ _ _) (wj ⟨6,a,t,w,n,u,o,ne,l,f,s,ac,im,d,e,bs⟩ (ni ⟨6,a,t,w,n,u,o,ne,l,f,s,ac,im,d,e,bs⟩ 6)) ⟨f1,f2,n0,n0,n0,hz,trivial⟩) (Ss a t w n u o ne l f s ac im d e bs ht hts) ha has hfo hse,fun h=>?_⟩
    simp only[bU]at h
    exact⟨fun _=>h.2.2.2.2.1,fun q=>(by cases q),fun q=>(by rcases q with q|q<;>cases q),fun q=>(by rcases q with q|q|q<;>cases q)⟩
theorem v9{u:TUnit}(h:OkB u):∀x,x∈bg u→x.head.length<2^30∧x.words.length<2^30:=fun x hx=>⟨pY (h.w x hx).1 (by omega),pY (h.w x hx).2 (by omega)⟩
theorem C4(p:PId)(u:TUnit)(hn:nU u≤1024): -1≤pS p u∧pS p u≤2^20:=by
  cases h:gM p u with
  |false=>rw[Ot h];omega
  | true=>
    obtain⟨q,i,h1,_,h3,h4,_⟩:=uL u h
    have:=dE h1
    grind[bd]
theorem xi(w:Int)(u:TUnit)(p:PId)(hn:nU u≤1024): -1≤(dK w u p).1.at_∧(dK w u p).1.at_≤2^41:=by
  have hb:=C4 p u hn
  have key:∀n:Int,0≤n→n≤1→ -1≤(nK u p n).1.at_∧(nK u p n).1.at_≤2^41:=fun n h0 h1=>by
    unfold nK
    cases gM p u
    · exact⟨by show(-1:Int)≤0;omega,by show(0:Int)≤_;omega⟩
    grind
  unfold dK
  cases ab w 0
  · cases ab w 1
    · grind
    · show -1≤Int.ofNat _∧Int.ofNat _≤2^41
      have:(eJ p u).kids.length≤1024:=by
        cases h:cX p u with
        | true=>
          have:=dE (uH h).1
          grind[bd]
        |false=>unfold eJ;rw[h];exact bD _
      grind
  simp_all
theorem vV{u:TUnit}(hu:OkB u)(p:PId):kP 93 [eU u,aK p] (.tuple [eU (eJ p u),.bool (cX p u)]):=QW p u (bN hu.n (by omega)) (v9 hu)
theorem jS{u:TUnit}(hu:OkB u)(p:PId):kP 174 [eU u,aK p] (.tuple [aK (rT p u),iV (pS p u),.bool (gM p u)]):=Om p u (bN hu.n (by omega))
theorem v8{u:TUnit}(hu:OkB u)(p:List PStep)(hp:p.length<2^40∧∀s,s∈p→s.label.length≤2^39):kP 13 [eU u,.ls (p.map az)] (.tuple [aK (au u p).1,iV (au u p).2]):=
  MW u p (Tb u p (bN hu.n (by omega)) hp.1 hp.2) (bN hu.n (by omega))
theorem J0{u:TUnit}(hu:OkB u)(p:PId):kP 307 [eU u,aK p] (.tuple [e9 (dK 0 u p).1,iV (dK 0 u p).2]):=Pj u _ p _ (vV hu p)
theorem JT{u:TUnit}(hu:OkB u)(p:PId):kP 310 [eU u,aK p] (.tuple [e9 (dK 1 u p).1,iV (dK 1 u p).2]):=Px u _ p _ (vV hu p)
theorem JS{u:TUnit}(hu:OkB u)(p:PId):kP 312 [eU u,aK p] (.tuple [e9 (dK 2 u p).1,iV (dK 2 u p).2]):=Pz u p _ _ _ (jS hu p) (by have:=C4 p u hu.n;omega)
theorem JR{u:TUnit}(hu:OkB u)(p:PId):kP 314 [eU u,aK p] (.tuple [e9 (dK 3 u p).1,iV (dK 3 u p).2]):=Pq u p _ _ _ (jS hu p) (by have:=C4 p u hu.n;omega)
theorem vD{w:Int}(h:iw w=true):w=0∨w=1∨w=2∨w=3:=by
  unfold iw at h
  rw[bU]at h
  have h1:=gU h.1
  have h2:=gU h.2
  omega
/-- Where a unit is inserted. -/
theorem Sz{u:TUnit}(hu:OkB u)(p:List PStep)(hp:p.length<2^40∧∀s,s∈p→s.label.length≤2^39)(w:Int)(hw:iw w=true):kP 232 [eU u,.ls (p.map az),iV w]
    (.tuple [aK (Bh (au u p).2 (dK w u (au u p).1).1 (dK w u (au u p).1).2).1.id,iV (Bh (au u p).2 (dK w u (au u p).1).1 (dK w u (au u p).1).2).1.at_,iV (Bh (au u p).2 (dK w u (au u p).1).1 (dK w u (au u p).1).2).2]):=by
  rcases vD hw with rfl|rfl|rfl|rfl
  · exact qB 0 _ rfl rfl u p _ _ _ _ (v8 hu p hp) (J0 hu _)
  · exact qB 1 _ rfl rfl u p _ _ _ _ (v8 hu p hp) (JT hu _)
  · exact qB 2 _ rfl rfl u p _ _ _ _ (v8 hu p hp) (JS hu _)
  · exact qB 3 _ rfl rfl u p _ _ _ _ (v8 hu p hp) (JR hu _)
theorem VO{u:TUnit}(hu:OkB u)(p q:PId)(w:Int)(hw:iw w=true):∃bs,kP 234 [eU u,aK p,aK q,iV w]
    (.tuple [e9 (nh p q (rT p u) (pS p u) (gM p u) ((pg q u).any (bh p)) bs (dK w u q).1 (dK w u q).2).1,iV (nh p q (rT p u) (pS p u) (gM p u) ((pg q u).any (bh p)) bs (dK w u q).1 (dK w u q).2).2]):=by
  have hb:=C4 p u hu.n
  have hb: -1≤pS p u∧pS p u≤2^40:=by omega
  have hn:nU u≤2^20:=bN hu.n (by omega)
  have hal:(pg q u).length<2^40:=by
    grind[lD,pg]
  have hC:=KF (pg q u) p hal
  rcases vD hw with rfl|rfl|rfl|rfl
  · exact⟨_,F2 0 _ rfl rfl rfl u p q _ _ _ _ _ _ _ hb (xi 0 u q hu.n) (jS hu p) (G6 q u hn) hC (J0 hu q)⟩
  · exact⟨_,F2 1 _ rfl rfl rfl u p q _ _ _ _ _ _ _ hb (xi 1 u q hu.n) (jS hu p) (G6 q u hn) hC (JT hu q)⟩
  · exact⟨_,PM u p q _ _ _ _ _ _ _ hb (xi 2 u q hu.n) (jS hu p) (G6 q u hn) hC (JS hu q)⟩
  · exact⟨_,PL u p q _ _ _ _ _ _ _ hb (xi 3 u q hu.n) (jS hu p) (G6 q u hn) hC (JR hu q)⟩
theorem GX{B:Nat}:∀{l:List TUnit},(∀x,x∈l→(m0 x).length≤B)→(l.flatMap m0).length≤B*l.length
  |[],_=>bD _
  | x::r,h=>by
    have h1:=h x fY
    have h2:=GX (l:=r) fun y hy=>h y (fU _ hy)
    rw[Ez,lA,lC,Nat.mul_succ];omega
theorem N2{u:TUnit}(h:mU u):(mM u).length≤2^29:=by
  rw[Rj]
  have h1:∀x,x∈bg u→(m0 x).length≤600:=fun x hx=>by
    obtain⟨a,b,_⟩:=h.2 x hx
    unfold m0;rw[lA];omega
  have h2:=GX h1
  have h3:(bg u).length=nU u:=by rw[lg];unfold dZ;rw[lM]
  rw[h3]at h2
  have:=h.1
  omega
theorem XJ{e:Int}{sp:PSpot}{e2:Int}(h:(Bh e sp e2).2=0):e=0∧e2=0∧(Bh e sp e2).1=sp:=by
  unfold Bh at h ⊢
  cases h1:ab e 0 with
  |false=>rw[h1]at h;rw[show e=0 from h]at h1;cases h1
  | true=>
    rw[h1]at h
    cases h2:ab e2 0 with
    |false=>rw[h2]at h;rw[show e2=0 from h]at h2;cases h2
    |true=>exact⟨iY h1,iY h2,rfl⟩
theorem S1{u u2:TUnit}{te:Int}{full cf:Bool}:(L3 u te full cf u2).1=u∨(full=false∧cf=false∧(L3 u te full cf u2).1=u2):=by
  unfold L3;cases ab te 0<;>cases full<;>cases cf<;>first|exact .inl rfl|exact .inr ⟨rfl,rfl,rfl⟩
/-- What an outcome is known to be. -/
def Bk(u:TUnit)(d:PDeed)(v:TUnit):Prop:=OkB v∧Rt u v
theorem Bk.refl{u:TUnit}(hu:OkB u){d:PDeed}:Bk u d u:=⟨hu,rfl⟩
/-- An insertion has an outcome. -/
theorem Un{u:TUnit}(hu:OkB u)(f:TUnit)(d:PDeed)(hd:wR d.it)(hg:zb d.it)(hk:d.it.kind=0):∃r:ph,kP 129 [eU u,eU f,aY d] (ei r)∧Bk u d r.1:=by
  have hw:=hg.1 (.inl hk)
  have hD:=Qi u d.it _ _ _ (by rw[hk];rfl) (Sz hu d.it.at_ hd.2.1 d.it.where_ hw)
  cases he:ab (Bh (au u d.it.at_).2 (dK d.it.where_ u (au u d.it.at_).1).1 (dK d.it.where_ u (au u d.it.at_).1).2).2 0 with
  |false=>exact⟨(u,_),S3 u f d _ _ _ he hD,.refl hu⟩
  | true=>
    have e0:=iY he
    obtain⟨e1,e2,e3⟩:=XJ e0
    obtain⟨n,n1,n2,n3⟩:=Fm hu (qa e1) e2
    rw[e0,e3,n1]at hD
    have ht:=hd.2.2.2.2.2.2.2.2
    have hS:=N8 d.act d.item d.it.unit (bN ht.1 (by decide)) (N2 ht) (fun x hx=>⟨bN (ht.2 x hx).1 (by decide),bN (ht.2 x hx).2.1 (by decide)⟩)
    have hsn:=N9 d.act d.item d.it.unit 0 0
    have hsi:=uo d.act d.item d.it.unit 0 0
    have hsw:=JU d.act d.item 300 d.it.unit 0 0 (fun x hx=>⟨(ht.2 x hx).1,(ht.2 x hx).2.1⟩)
    generalize cG d.act d.item d.it.unit 0 0=X at *
    have hn:=hu.n
    have hm:=ht.1
    have hX:nU X≤2^19:=by omega
    have hkp:(eJ (dK d.it.where_ u (au u d.it.at_).1).1.id u).kids.length<2^40:=by
      cases h:cX (dK d.it.where_ u (au u d.it.at_).1).1.id u with
      |true=>have:=dE (uH h).1;have:=bd (eJ (dK d.it.where_ u (au u d.it.at_).1).1.id u);omega
      |false=>unfold eJ;rw[h];exact pY (bD 0) (by decide)
    have hiu:(dZ u).length<2^40:=by rw[←lg];omega
    have hix:(dZ X).length<2^40:=by rw[←lg];omega
    refine⟨_,SR u f _ X _ d _ n (nU u) (nU X) _ _ _ _ (dZ u) (dZ X) (by omega) (by omega) hD (vV hu _) hS (yX _ X hkp) (Ki u X _ (by omega) (by omega)) (Dt u (by omega)) (Dt X (by omega)) (PC u (by omega)) (PC X (by omega)) (Zo (dZ X) (dZ u) hiu hix) (ND _ n X u (by omega) (v9 hu) n3),?_⟩
    rcases S1 (u:=u) (u2:=cR (dK d.it.where_ u (au u d.it.at_).1).1.id (dc n X) u) (te:=yW (eJ (dK d.it.where_ u (au u d.it.at_).1).1.id u) X) (full:=ax (ap (Int.ofNat (eJ (dK d.it.where_ u (au u d.it.at_).1).1.id u).kids.length) 64)||(Qt u (dK d.it.where_ u (au u d.it.at_).1).1.id X||ap 1024 (Int.ofNat (nU u+nU X)))) (cf:=(dZ X).any fun i=>(dZ u).any (bh i))with q|⟨q1,q2,q3⟩
    · rw[q];exact .refl hu
    · rw[q3]
      rw[Ey,Ey]at q1
      have q4:=aM q1.2.2
      simp only[oN]at q4
      refine⟨hu.ins (by rw[hsi];exact OZ _ _ _ _) (fun p hp hq=>?_) (by omega) hsw,Je (f:=dc n X) (fun _=>rfl) u⟩
      rw[List.any_eq_false]at q2
      have:=q2 p hp
      exact this (List.any_eq_true.2 ⟨p,hq,mB p⟩)
/-- A unit is taken away. -/
theorem Ud{u:TUnit}(hu:OkB u){p:PId}(hp:gM p u=true):∃q i,q∈bg u∧rT p u=bz q∧pS p u=Int.ofNat i∧i<q.kids.length∧bz (gD q.kids i)=p∧kP 167 [eU u,aK p] (eU (cR (bz q) (gw i) u)):=by
  obtain⟨q,i,h1,h2,h3,h4,h5⟩:=uL u hp
  have hP:=jS hu p
  rw[h2,h3,hp]at hP
  exact⟨q,i,h1,h2,h3,h4,h5,xP u _ p _ i hP (NF (bz q) i u (bN hu.n (by decide)) (v9 hu) fun v hv hid=>by rw[hu.uni hv h1 ((gq _ v).1 hid)];exact h4)⟩
theorem W7{u x:TUnit}(hu:OkB u)(d:PDeed)(hp:gM (bz x) u=true):∃r:ph,kP 130 [eU u,eU x,aY d] (ei r)∧Bk u d r.1:=by
  obtain⟨q,i,h1,h2,h3,h4,h5,h6⟩:=Ud hu hp
  exact⟨_,R8 u x _ d h6,(hu.del h1 h4).1,Je (f:=gw i) (fun _=>rfl) u⟩
theorem C1(l:List PWord):(uG l).length≤256:=by
  unfold uG
  cases h:ap 256 (Int.ofNat l.length)with
  |true=>exact bD _
  |false=>have:=aM h;simp only[oN]at this;show l.length≤256;omega
theorem Ow(a b:Int)(w:List PWord)(old new:List aP)(n:Int):(E5 a b w old new n).1.length≤256:=by
  unfold E5
  cases ab (Int.ofNat old.length) 0
  · cases ab (Int.ofNat (nc (tV (bR w) old) n).length) 0
    · exact C1 _
    · exact bD _
  · exact bD _
theorem SS(a b:Int)(w:List PWord)(part new:List aP)(n:Int):(Dk a b w part new n).1.length≤256:=by
  unfold Dk
  cases(ab (Int.ofNat new.length) 0||(ab (Int.ofNat part.length) 0&&ax (ab n 0)))
  · cases ab (Int.ofNat part.length) 0
    · cases ab (Int.ofNat (nc (tV (bR w) part) n).length) 0
      · exact C1 _
      · exact bD _
    · exact C1 _
  · exact bD _
theorem sS{l:List aP}(h:pO l=true):l.length≤256:=by
  unfold pO at h
  rw[bU]at h
  have:=gU h.1
  simp only[oN]at this
  omega
theorem JD{n:Int}(h:AC n=true):0≤n∧n≤256:=by
  unfold AC at h
  rw[bU]at h
  exact⟨gU h.1,gU h.2⟩
theorem Br{u:TUnit}(hu:OkB u)(q:PId){l:List PWord}(hl:l.length≤300):OkB (cR q (lu l) u):=hu.keep (fun _=>⟨rfl,rfl⟩) fun v hv=>⟨(hu.w v hv).1,hl⟩
theorem O0{u:TUnit}(hu:OkB u)(q:PId){l:List PWord}(hl:l.length≤300):OkB (cR q (zw l) u):=hu.keep (fun _=>⟨rfl,rfl⟩) fun v hv=>⟨hl,(hu.w v hv).2⟩
theorem LC{u:TUnit}(hu:OkB u)(q:PId)(s:aP):OkB (cR q (oR s) u):=hu.keep (fun _=>⟨rfl,rfl⟩) fun v hv=>hu.w v hv
theorem I5{u u2:TUnit}{d:PDeed}{e:Int}(h:OkB u)(h2:Bk u d u2):Bk u d (Ee u e u2).1:=by
  have h:=Bk.refl h (d:=d)
  unfold Ee;cases ab e 0;exact h;exact h2
theorem WI{u x:TUnit}(hu:OkB u)(hx:x∈bg u)(hp:gM (bz x) u=true)(d:PDeed)(hg:zb d.it)(hk:d.it.kind=2):∃r:ph,kP 131 [eU u,eU x,aY d] (ei r)∧Bk u d r.1:=by
  obtain⟨h1,h2⟩:=hg.2.2.1 (.inl hk)
  have h3:=sS h1
  have h4:=sS (hg.2.2.2 (.inl hk))
  obtain⟨h5,h6⟩:=JD h2
  have h7:=(hu.w x hx).2
  have hR:=R7 d.act d.item x.words d.it.old d.it.new d.it.nth_ (by omega) (by omega) (by omega) h5 (by omega) (lr h5)
  exact⟨_,Rm u x _ d _ _ hR (Nt (bz x) _ u (bN hu.n (by decide)) (v9 hu)),I5 hu ⟨Br hu _ (bN (Ow ..) (by decide)),Jd hp⟩⟩
theorem XX{u x:TUnit}(hu:OkB u)(hx:x∈bg u)(hp:gM (bz x) u=true)(d:PDeed)(hg:zb d.it)(hk:d.it.kind=3):∃r:ph,kP 132 [eU u,eU x,aY d] (ei r)∧Bk u d r.1:=by
  obtain⟨h1,h2⟩:=hg.2.2.1 (.inr hk)
  have h3:=sS h1
  have h4:=sS (hg.2.2.2 (.inr (.inl hk)))
  obtain⟨h5,h6⟩:=JD h2
  have h7:=(hu.w x hx).2
  have hR:=Xt d.act d.item x.words d.it.old d.it.new d.it.nth_ (by omega) (by omega) (by omega) h5 (by omega)
  exact⟨_,SK u x _ d _ _ hR (NA (bz x) _ u (bN hu.n (by decide)) (v9 hu)),I5 hu ⟨Br hu _ (bN (SS ..) (by decide)),Jd hp⟩⟩
theorem XF{u x:TUnit}(hu:OkB u)(hp:gM (bz x) u=true)(d:PDeed)(hg:zb d.it)(hk:d.it.kind=4):∃r:ph,kP 133 [eU u,eU x,aY d] (ei r)∧Bk u d r.1:=by
  have h4:=sS (hg.2.2.2 (.inr (.inr hk)))
  have hM:=xg d.it.new d.act d.item 0 (by omega) (by decide)
  exact⟨_,TJ u x _ d _ hM (NE (bz x) _ u (bN hu.n (by decide)) (v9 hu)),O0 hu _ (by rw[fC];omega),Jd hp⟩
theorem Ui{u:TUnit}(hu:OkB u)(p:PId):(eJ p u).kids.length<2^40:=by
  have hn:=hu.n
  cases h:cX p u with
  |true=>have:=dE (uH h).1;have:=bd (eJ p u);omega
  |false=>unfold eJ;rw[h];exact pY (bD 0) (by decide)
theorem W9{u x:TUnit}(hu:OkB u)(hp:gM (bz x) u=true)(d:PDeed):∃r:ph,kP 134 [eU u,eU x,aY d] (ei r)∧Bk u d r.1:=by
  refine⟨_,SQ u x _ _ d _ _ _ _ _ (jS hu (bz x)) (vV hu _) (yX _ _ (Ui hu _)) (Nu (bz x) d u (bN hu.n (by decide)) (v9 hu)),?_⟩
  unfold SZ
  cases ab (yW (eJ (rT (bz x) u) u) (oR d.it.label x)) 10
  · exact⟨LC hu _ _,Jd hp⟩
  · exact .refl hu
theorem Si{u u2:TUnit}{d:PDeed}{te:Int}{full:Bool}(h:OkB u)(h2:Bk u d u2):Bk u d (PZ u te full u2).1:=by
  have h:=Bk.refl h (d:=d)
  unfold PZ;cases ab te 0<;>cases full<;>first|exact h|exact h2
theorem X0{e2 e3:Int}{sp:PSpot}(h:(Gs 0 e2 sp e3).2=0):e2=0∧e3=0∧(Gs 0 e2 sp e3).1=sp:=by
  unfold Gs at h ⊢
  rw[show ab 0 0=true from rfl]at h ⊢
  simp only[cond_true]at h ⊢
  cases h1:ab e2 0 with
  |false=>rw[h1]at h;rw[show e2=0 from h]at h1;cases h1
  | true=>
    rw[h1]at h
    cases h2:ab e3 0 with
    |false=>rw[h2]at h;rw[show e3=0 from h]at h2;cases h2
    |true=>exact⟨iY h1,iY h2,rfl⟩
/-- A move has an outcome. -/
theorem Xl{u x:TUnit}(hu:OkB u)(hx:x∈bg u)(d:PDeed)(hd:wR d.it)(hg:zb d.it)(hk:d.it.kind=6)(h0:(au u d.it.at_).2=0)(hid:(au u d.it.at_).1=bz x)(hp:gM (bz x) u=true):∃r:ph,kP 135 [eU u,eU x,aY d] (ei r)∧Bk u d r.1:=by
  have hw:=hg.1 (.inr hk)
  have hF:=v8 hu d.it.at_ hd.2.1
  rw[h0,hid]at hF
  obtain⟨bs,hG⟩:=VO hu (bz x) (au u d.it.to).1 d.it.where_ hw
  obtain⟨q,i,h1,h2,h3,h4,h5,h6⟩:=Ud hu hp
  have hD:=Qh u d.it _ _ _ _ _ _ (by rw[hk];rfl) (by rw[hk];rfl) hw hF (v8 hu d.it.to hd.2.2.1) hG
  rw[h2,h3,hp]at hD
  cases he:ab (Gs 0 (au u d.it.to).2 (nh (bz x) (au u d.it.to).1 (bz q) (Int.ofNat i) true ((pg (au u d.it.to).1 u).any (bh (bz x))) bs (dK d.it.where_ u (au u d.it.to).1).1 (dK d.it.where_ u (au u d.it.to).1).2).1 (nh (bz x) (au u d.it.to).1 (bz q) (Int.ofNat i) true ((pg (au u d.it.to).1 u).any (bh (bz x))) bs (dK d.it.where_ u (au u d.it.to).1).1 (dK d.it.where_ u (au u d.it.to).1).2).2).2 0 with
  |false=>exact⟨(u,_),Sl u x d _ _ _ he hD,.refl hu⟩
  | true=>
    have e0:=iY he
    obtain⟨e1,e2,e3⟩:=X0 e0
    obtain⟨n,n1,n2,n3⟩:=PI hu h1 h4 (qa e1) e2
    rw[e0,e3,n1]at hD
    obtain⟨hr,hpm⟩:=hu.del h1 h4
    have hkx:gD q.kids i=x:=hu.uni (iH h1 (bC (jZ h4) (dY _))) hx h5
    rw[hkx]at hpm
    have hnr:=hr.n
    have hnx:=dE hx
    have hn:=hu.n
    refine⟨_,Sh u x _ _ _ d _ _ n _ _ _ _ _ hD (jS hu (bz x)) h6 (vV hr _) (yX _ x (Ui hr _)) (Ki _ x _ (by omega) (by omega)) (NB _ n x _ (by omega) (v9 hr) n3),Si hu ?_⟩
    have hnd:=List.nodup_append.1 (hpm.nodup_iff.1 hu.nd)
    have hlen:=hpm.length_eq
    rw[lA,←lg,←lg,←lg]at hlen
    exact⟨hr.ins hnd.2.1 (fun p hp hq=>hnd.2.2 p hq p hp rfl) (by omega) (fun y hy=>hu.w y (iH hx hy)),(Je (f:=dc _ _) (fun _=>rfl) _).trans (Je (f:=gw i) (fun _=>rfl) u)⟩
/-- An item's doer. -/
theorem Y1{u x:TUnit}(hu:OkB u)(hx:x∈bg u)(d:PDeed)(hd:wR d.it)(hg:zb d.it)(hk0:0≤d.it.kind)(hk6:d.it.kind≤6)(h0:(au u d.it.at_).2=0)(hid:(au u d.it.at_).1=bz x)(hp:gM (bz x) u=true):∃r:ph,kP (Ut d.it.kind) [eU u,eU x,aY d] (ei r)∧Bk u d r.1:=by
  have hk:d.it.kind=0∨d.it.kind=1∨d.it.kind=2∨d.it.kind=3∨d.it.kind=4∨d.it.kind=5∨d.it.kind=6:=by omega
  rcases hk with h|h|h|h|h|h|h<;>rw[h]
  · exact Un hu x d hd hg h
  · exact W7 hu d hp
  · exact WI hu hx hp d hg h
  · exact XX hu hx hp d hg h
  · exact XF hu hp d hg h
  · exact W9 hu hp d
  · exact Xl hu hx d hd hg h h0 hid hp
/-- An amendment has one outcome. -/
theorem T3 {u:TUnit}(hu:OkB u)(d:PDeed)(hd:wR d.it)(hk0:0≤d.it.kind)(hk6:d.it.kind≤6):∃r:ph,kP 57 [eU u,aY d] (ei r)∧Bk u d r.1:=by
  obtain⟨b,hV,hg⟩:=UI d.it hd hk0 hk6
  have hl:=Vg d hk0 hk6
  cases b with
  |false=>exact⟨_,T4 u d _ hl hV,.refl hu⟩
  | true=>
    have hg:=hg rfl
    have hF:=v8 hu d.it.at_ hd.2.1
    cases he:ab (au u d.it.at_).2 0 with
    |false=>exact⟨_,T6 u d _ _ _ hl hV he hF,.refl hu⟩
    | true=>
      have e0:=iY he
      have hh:=qa e0
      obtain⟨hx,hxi⟩:=uH hh
      rw[e0]at hF
      have hX:=vV hu (au u d.it.at_).1
      cases hi:(ab (au u d.it.at_).1.a u.act&&(ab (au u d.it.at_).1.i u.item&&ab (au u d.it.at_).1.n u.n))with
      | true=>
        cases hk:ab d.it.kind 0 with
        | true=>
          have hk:=iY hk
          obtain⟨r,h1,h2⟩:=Un hu (eJ (au u d.it.at_).1 u) d hd hg hk
          exact⟨r,RZ u _ d _ _ _ r hl hV hF hX hi (by rw[hk];rfl) (by rw[hk];exact h1),h2⟩
        |false=>exact⟨_,T5 u _ d _ _ _ _ _ hl hV hF hX hi hk (v8 hu d.it.to hd.2.2.1),.refl hu⟩
      | false=>
        have hni:fc (au u d.it.at_).1 u=false:=by
          cases q:fc (au u d.it.at_).1 u with
          |false=>rfl
          | true=>
            have:=(gq _ u).1 q
            rw[←this]at hi
            have e:(ab (bz u).a u.act&&(ab (bz u).i u.item&&ab (bz u).n u.n))=true:=by
              show(ab u.act u.act&&(ab u.item u.item&&ab u.n u.n))=true
              rw[aR,aR,aR];rfl
            rw[e]at hi;cases hi
        obtain⟨r,h1,h2⟩:=Y1 hu hx d hd hg hk0 hk6 e0 hxi.symm (by rw[hxi];exact TY hh hni)
        exact⟨r,T7 u _ d _ _ _ r hl hV hF hX hi h1,h2⟩
theorem Rq{k:Int}(h:oV k=true):0≤k∧k≤6:=by
  unfold oV at h;rw[bU]at h;exact⟨gU h.1,gU h.2⟩
/-- What an amendment makes of a book: the one outcome there is. -/
structure AppOk(u:TUnit)(d:PDeed):Prop where
  b:OkB u
  i:wR d.it
  a:oV d.it.kind=true
theorem Q9{u:TUnit}{d:PDeed}(h:AppOk u d):∃r:ph,kP 57 [eU u,aY d] (ei r)∧Bk u d r.1:=T3 h.b d h.i (Rq h.a).1 (Rq h.a).2
open Classical in
noncomputable def fg(u:TUnit)(d:PDeed):ph:=if h:AppOk u d then(Q9 h).choose else(u,0)
theorem KN{u:TUnit}{d:PDeed}(h:AppOk u d):kP 57 [eU u,aY d] (.tuple [eU (fg u d).1,iV (fg u d).2])∧Bk u d (fg u d).1:=by
  unfold fg;rw[dif_pos h];exact(Q9 h).choose_spec
theorem lP{u:TUnit}{d:PDeed}(h:AppOk u d):kP 57 [eU u,aY d] (.tuple [eU (fg u d).1,iV (fg u d).2])∧OkB (fg u d).1:=⟨(KN h).1,(KN h).2.1⟩
theorem KM(u:TUnit)(d:PDeed)(h1:OkB u)(h2:wR d.it)(h3:oV d.it.kind=true):kP 57 [eU u,aY d] (.tuple [eU (fg u d).1,iV (fg u d).2]):=(lP ⟨h1,h2,h3⟩).1
noncomputable def nG(u:TUnit)(d:PDeed):TUnit:=bif oV d.it.kind then(fg u d).1 else u
noncomputable def qJ(u:TUnit)(d:PDeed):List PFail:=bif oV d.it.kind then(bif ab (fg u d).2 0 then[]else[⟨d.act,d.item,(fg u d).2⟩])else[]
noncomputable def di:TUnit→List PDeed→TUnit
  |u,[]=>u
  |u,d::r=>di (nG u d) r
noncomputable def bZ:TUnit→List PDeed→List PFail
  |_,[]=>[]
  |u,d::r=>qJ u d++bZ (nG u d) r
theorem qR:∀(l:List PDeed)(u:TUnit),(bZ u l).length≤l.length
  |[],_=>ah _
  | d::r,u=>by
    have:=qR r (nG u d)
    have h:(qJ u d).length≤1:=by
      unfold qJ
      cases oV d.it.kind<;>cases ab (fg u d).2 0<;>simp
    rw[bZ,lA,lC];omega
theorem Lq{u:TUnit}{d:PDeed}{r:List PDeed}(h:oV d.it.kind=false):di u (d::r)=di u r∧bZ u (d::r)=bZ u r:=by
  rw[di,bZ,nG,qJ,h];exact⟨rfl,rfl⟩
theorem ED{u:TUnit}{d:PDeed}{r:List PDeed}(h:oV d.it.kind=true)(h2:ab (fg u d).2 0=true):di u (d::r)=di (fg u d).1 r∧bZ u (d::r)=bZ (fg u d).1 r:=by
  rw[di,bZ,nG,qJ,h,h2];exact⟨rfl,rfl⟩
theorem EC{u:TUnit}{d:PDeed}{r:List PDeed}(h:oV d.it.kind=true)(h2:ab (fg u d).2 0=false):di u (d::r)=di (fg u d).1 r∧bZ u (d::r)=⟨d.act,d.item,(fg u d).2⟩::bZ (fg u d).1 r:=by
  rw[di,bZ,nG,qJ,h,h2];exact⟨rfl,rfl⟩
mutual
theorem Jk:∀(u:TUnit)(deep most:Int),mj u deep most≤most→Int.ofNat (nU u)≤mj u deep most
  | ⟨_,_,_,_,_,_,_,kids⟩,deep,most,h=>by
    rw[mj]at h ⊢
    cases hd:ap 20 deep with
    |true=>rw[hd]at h;simp only at h;omega
    | false=>
      rw[hd]at h
      have:=Jw kids deep most 1 h
      rw[nU]
      simp only[oN]at *
      omega
theorem Jw:∀(l:List TUnit)(deep most n:Int),mw l deep most n≤most→n+Int.ofNat (dO l)≤mw l deep most n
  |[],_,_,n,_=>by rw[mw,dO];exact Int.le_of_eq (Int.add_zero n)
  | k::r,deep,most,n,h=>by
    rw[mw]at h ⊢
    cases hd:ap most n with
    |true=>rw[hd]at h;have:=ar hd;simp only at h;omega
    | false=>
      rw[hd]at h
      have h2:=Jw r deep most _ h
      have h1:=Jk k (deep+1) (most-n) (by simp only[oN]at *;omega)
      rw[dO]
      simp only[oN]at *
      omega
end
theorem EN{l:List PWord}(h:my l=true):l.length≤300∧∀w,w∈l→w.text.length≤100:=by
  unfold my at h
  obtain⟨h1,h2⟩:=mK.1 h
  refine⟨by have:=gU h2;simp only[oN]at this;omega,fun w hw=>?_⟩
  have:=gU (lp.1 h1 w hw)
  simp only[oN]at this;omega
theorem Hx:∀(u:TUnit),ka u=true→∀x,x∈bg u→ry x:=by
  refine TUnit.ind fun u ih h x hx=>?_
  rw[BW]at h
  simp only[bU]at h
  obtain⟨⟨⟨h0,h1⟩,h2⟩,h3⟩:=h
  rw[dJ]at hx
  rcases fO.1 hx with rfl|hx
  · have h0:=gU h0
    simp only[oN]at h0
    have q1:=EN h1
    have q2:=EN h2
    exact⟨q1.1,q2.1,by omega,fun w hw=>bN (q1.2 w hw) (by decide),fun w hw=>bN (q2.2 w hw) (by decide)⟩
  · obtain⟨k,hk,hx⟩:=l9 hx
    exact ih k hk (lp.1 h3 k hk) x hx
theorem V6{u:TUnit}{n:Nat}(h:Gx u (.ofNat n)=true):nU u≤n∧∀x,x∈bg u→ry x:=by
  unfold Gx at h
  obtain⟨h1,h2⟩:=mK.1 h
  refine⟨?_,Hx u h2⟩
  have h3:=gU h1
  have:=Jk u 0 (.ofNat n) h3
  simp only[oN]at *
  omega
theorem OS{x:PItem}(hf:mO x)(h:mA x=true):wR x:=by
  rw[Dg]at h
  unfold xn at h
  simp only[bU]at h
  obtain⟨⟨⟨⟨⟨⟨⟨⟨⟨⟨a1,a2⟩,a3⟩,a4⟩,a5⟩,a6⟩,a7⟩,a8⟩,a9⟩,a10⟩,b1,b2,b3,b4,b5⟩:=h
  have a1:=gU a1
  have a2:=gU a2
  have a3:=gU a3
  have a4:=gU a4
  have a5:=gU a5
  have a6:=gU a6
  have a7:=gU a7
  simp only[oN]at a1 a2 a3 a4 a5 a6 a7
  have hs:∀{l:List aP},l.all wN=true→∀s,s∈l→s.length≤2^39:=fun h s hs=>by
    have:=gU (lp.1 h s hs);simp only[oN]at this;omega
  have ht:∀{l:List PStep},l.all wM=true→∀s,s∈l→s.label.length≤2^39:=fun h s hs=>by
    have:=gU (lp.1 h s hs);simp only[oN]at this;omega
  have hu:=V6 (n:=30) a10
  exact⟨hf,⟨by omega,ht b3⟩,⟨by omega,ht b4⟩,⟨by omega,hs b1⟩,⟨by omega,hs b2⟩,by omega,by omega,by omega,bN hu.1 (by decide),hu.2⟩
noncomputable abbrev Yy:AObj:=.row 8 false 0 [.agg [iV 0,iV 0,iV 0,iV 0,.str [],.nils,.nils,.nils]]
noncomputable abbrev fR(ep:Nat)(out:List PFail):AObj:=.row 3 true ep (out.map af)
theorem zo{u v:TUnit}{l r:List PDeed}{xs:List PFail}(h:bZ u l=xs++bZ v r):xs.length≤l.length:=by
  grind[qR]
theorem RK(u:TUnit)(l:List PDeed)(hu:OkB u)(hl:l.length<2^30)(ho:∀d,d∈l→wR d.it):kP 63 [eU u,.ls (l.map aY)] (.tuple [eU (di u l),.ls ((bZ u l).map af)]):=by
  have rr0 b' (h:((di u l).act)=b':=by first|(rw[hj0.2.1];rfl)|(rw[hj0.2.2];rfl)|(rw[hj0.2.2.1];rfl)|(rw[hj0.2.2.2];simp only[bZ,dr])|exact aX fL _):=h;have rr1 b' (h:((di u l).item)=b':=by first|(rw[hj0.2.1];rfl)|(rw[hj0.2.2];rfl)|(rw[hj0.2.2.1];rfl)|(rw[hj0.2.2.2];simp only[bZ,dr])|exact aX fL _):=h;have rr2 b' (h:((di u l).n)=b':=by first|(rw[hj0.2.1];rfl)|(rw[hj0.2.2];rfl)|(rw[hj0.2.2.1];rfl)|(rw[hj0.2.2.2];simp only[bZ,dr])|exact aX fL _):=h;have rr3 b' (h:((di u l).kind)=b':=by first|(rw[hj0.2.1];rfl)|(rw[hj0.2.2];rfl)|(rw[hj0.2.2.1];rfl)|(rw[hj0.2.2.2];simp only[bZ,dr])|exact aX fL _):=h;have rr4 b' (h:((di u l).label)=b':=by first|(rw[hj0.2.1];rfl)|(rw[hj0.2.2];rfl)|(rw[hj0.2.2.1];rfl)|(rw[hj0.2.2.2];simp only[bZ,dr])|exact aX fL _):=h;have rr5 b' (h:(List.map aQ (di u l).head)=b':=by first|(rw[hj0.2.1];rfl)|(rw[hj0.2.2];rfl)|(rw[hj0.2.2.1];rfl)|(rw[hj0.2.2.2];simp only[bZ,dr])|exact aX fL _):=h;have rr6 b' (h:(List.map aQ (di u l).words)=b':=by first|(rw[hj0.2.1];rfl)|(rw[hj0.2.2];rfl)|(rw[hj0.2.2.1];rfl)|(rw[hj0.2.2.2];simp only[bZ,dr])|exact aX fL _):=h;have rr7 b' (h:(List.map aV (di u l).kids)=b':=by first|(rw[hj0.2.1];rfl)|(rw[hj0.2.2];rfl)|(rw[hj0.2.2.1];rfl)|(rw[hj0.2.2.2];simp only[bZ,dr])|exact aX fL _):=h;have rr8 b' (h:((bZ u l).map af)=b':=by first|(rw[hj0.2.1];rfl)|(rw[hj0.2.2];rfl)|(rw[hj0.2.2.1];rfl)|(rw[hj0.2.2.2];simp only[bZ,dr])|exact aX fL _):=h;exact bu Tryz.func63<|Kl 2 5 bo<|Kl 2 12 (ln aY l)<|Mg 0<|UE TUnit Nat Nat (List PFail) aY l u [2,4,6,11,12,13] (fun a _ b=>([bY 0 0 0 0,bY 1 0 0 0,aa,aW<|l.map aY,nV l.length,nV a],[aZ 8 false 0 [aw [iV b.act,iV b.item,iV b.n,iV b.kind,aj b.label,aW<|b.head.map aQ,aW<|b.words.map aQ,aW<|b.kids.map aV]],aZ 8 false 0 [aw [iV 0,iV 0,iV 0,iV 0,aj [],aa,aa,aa]]])) (fun a _ b c e f=>([bY 0 0 0 0,bY 1 0 0 0,aG 2 c 0 e none,aW<|l.map aY,nV l.length,nV a],[aZ 8 false 0 [aw [iV b.act,iV b.item,iV b.n,iV b.kind,aj b.label,aW<|b.head.map aQ,aW<|b.words.map aQ,aW<|b.kids.map aV]],aZ 8 false 0 [aw [iV 0,iV 0,iV 0,iV 0,aj [],aa,aa,aa]],aZ 3 true c<|f.map af])) (fun a b=>OkB b∧di u l=di b a∧bZ u l=bZ b a) (fun a b _ c e=>OkB b∧c=e.length∧di u l=di b a∧bZ u l=e++bZ b a) sA (fun _ _ a _ _ _ b hj0=>Kh 0 b<|Kl 3 5 bo<|Mf<|ch<|.cons (aL (.cons (li<|rr0 a.act)<|.cons (li<|rr1 a.item)<|.cons (li<|rr2 a.n)<|.cons (li<|rr3 a.kind)<|.cons (Le.str<|rr4 a.label)<|.cons (cj<|rr5<|a.head.map aQ)<|.cons (cj<|rr6<|a.words.map aQ)<|.cons (cj<|rr7<|a.kids.map aV) .nil)<|by kernel_rfl)<|.cons (cj<|rr8 []) .nil) (fun a _ b c _ e f g i j k _ n hj0=>have c:=ho _<|aN c j;Kt 0 k<|Mx n<|Kp 5 (Ak e.it.kind)<|Kn 0 (oV e.it.kind) (fun _=>Kl 0 40 (de a)<|K1 0 (.frz 2 [2,4,6,11,12,13]) (cn rt rt ti)<|Mf<|g b<|by grind[Lq]) fun j=>Kp 1 (KM b e sA c j)<|Kc 7 (fg b e).2 0 (fun _ _=>Kl 12 40 (de a)<|Mg 0<|M0 (.ren [0,1,4,2,3] [] [2,4,6,11,12,13])<|M1 (.frz 3 [2,4,6,11,12,13]) (jF rt rt rt ti)<|Mf<|i (fg b e).1 0 1 [PFail.mk e.act e.item (fg b e).2]<|by exact⟨(lP ⟨hj0.1,c,by omega⟩).2,rfl,hj0.2.1.trans (EC (by omega) (by omega)).1,hj0.2.2.trans (EC (by omega) (by omega)).2⟩) fun _ _=>Kl 2 40 (de a)<|K1 0 (.frz 2 [2,4,6,11,12,13]) (cn rt rt ti)<|Mf<|g (fg b e).1<|by exact⟨(lP ⟨hj0.1,c,by omega⟩).2,hj0.2.1.trans (ED (by omega) (by omega)).1,hj0.2.2.trans (ED (by omega) (by omega)).2⟩) (fun _ _ a b c e _ _ _ f hj0=>Kh 0 f<|Mg 3<|M2 (.fsl 2 [4] 5<|e.map af) (cn rt rt ti) (cn (aU b) (tA af e c (oA:(e).length=c))<|aX fL e)<|Ml 5 (fw (e.map af) false<|aX fL e)<|Mf<|ch<|.cons (aL (.cons (li<|rr0 a.act)<|.cons (li<|rr1 a.item)<|.cons (li<|rr2 a.n)<|.cons (li<|rr3 a.kind)<|.cons (Le.str<|rr4 a.label)<|.cons (cj<|rr5<|a.head.map aQ)<|.cons (cj<|rr6<|a.words.map aQ)<|.cons (cj<|rr7<|a.kids.map aV) .nil)<|by kernel_rfl)<|.cons (cj<|rr8<|e.map af) .nil) fun a _ b c e f g _ i j _ k n o _ p hj0=>have g:=ho _<|aN g n;Kt 0 o<|Mx p<|Kp 5 (Ak i.it.kind)<|Kn 0 (oV i.it.kind) (fun _=>Kl 0 40 (de a)<|K1 0 (.frz 3 [2,4,6,11,12,13]) (jF (tR 3 true c 3<|aX fL f) rt rt ti)<|Mf<|k b c e f<|by grind[Lq]) fun n=>Kp 1 (KM b i sA g n)<|Kc 7 (fg b i).2 0 (fun _ _=>K1 7 .app (cn (aU c) (sA:e=(f.map af).length) (by(have z:=zo hj0.2.2.2;have z2:=hj0.2.1;refine aC (m:=2^31) ?_ ?_ ?_<;>omega):small (e+1) 24=true))<|M1 (.obj 2<|aZ 3 true (c+1)<|(f++[PFail.mk i.act i.item (fg b i).2]).map af) (congrArg (aZ 3 true<|c+1)<|dz (f:=af) (l:=f) (ws:=[PFail.mk i.act i.item (fg b i).2]))<|Kl 3 40 (de a)<|K1 0 (.frz 3 [2,4,6,11,12,13]) (jF (tR 3 true (c+1) 3<|aX fL<|f++[PFail.mk i.act i.item (fg b i).2]) rt rt ti)<|Mf<|k (fg b i).1 (c+1) (e+1) (f++[PFail.mk i.act i.item (fg b i).2])<|by exact⟨(lP ⟨hj0.1,g,by omega⟩).2,by simp_all,hj0.2.2.1.trans (EC (by omega) (by omega)).1,hj0.2.2.2.trans (by grind[EC])⟩) fun _ _=>Kl 2 40 (de a)<|K1 0 (.frz 3 [2,4,6,11,12,13]) (jF (tR 3 true c 3<|aX fL f) rt rt ti)<|Mf<|k (fg b i).1 c e f<|by exact⟨(lP ⟨hj0.1,g,by omega⟩).2,hj0.2.1,hj0.2.2.1.trans (ED (by omega) (by omega)).1,hj0.2.2.2.trans (by grind[ED])⟩
end Go.Proofs.YtiodnhiainjfgaaGreatDoor
