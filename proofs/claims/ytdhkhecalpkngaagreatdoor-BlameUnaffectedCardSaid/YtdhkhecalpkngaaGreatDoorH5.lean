/- Functions walked: what each of them answers, for An item in force that is not a contributor changes neither the presence nor the label, heading and words of the unit: part 5. Conditions: those that each theorem names. -/
import Derived.Test.YtdhkhecalpkngaaGreatDoorH4
namespace Go.Proofs.YtdhkhecalpkngaaGreatDoor
open Go Go.Ev
noncomputable abbrev B8(l:List PWord):AObj:=.row 4 true 0 (l.map aQ)
noncomputable def Fa:TypeInfo:=(Tryz.prog.info? 125).getD default
theorem Fy:Tryz.prog.info? 125=some Fa:=by kernel_rfl
theorem yp:Fa.size=4:=by kernel_rfl
theorem ww:Fa.bytes=40:=by kernel_rfl
theorem V0(l:List PWord):dr 4 (l.map aQ)=true:=gi (fun w=>by cases w;rfl) l
theorem cl4(ws:List PWord)(hl:ws.length<=2^20)(a b c d:AObj):kD 99 [.ls (ws.map aQ)] (aa [a,b,c,d]) (.sl0 4 0 ws.length none) (aa [a,b,c,d,B8 ws]):=by
  by_cases hne:ws=[]
  · subst hne
    have hE:(aa [a,b,c,d]).push (B8 [])=aa [a,b,c,d,B8 []]:=by kernel_rfl
    have h:=aF.psh (o:=B8 []) (u:=.sl0 4 0 0 none) (rl [] (by omega) (aa [a,b,c,d])) E0
    simp_all
  have hn:ws.map aQ≠[]:=fun h=>hne (List.map_eq_nil_iff.1 h)
  have hf:=V0 ws
  have hsm:small (ws.map aQ).length 40=true:=by grind[aD]
  have hlen:ws.length=(ws.map aQ).length:=(cX ..).symm
  unfold B8
  rw[hlen]
  generalize ws.map aQ=L at hn hf hsm
  refine(aF.less (Ψ:=fun v h=>v=.slice 4 0 0 L.length none/\h=aa [a,b,c,d,.row 4 true 0 L]) ?_ fun v h ⟨h1,h2⟩=>⟨_,h1▸Le.sl0,rfl,h2⟩)
  refine aF.enter 2 (fn:=Tryz.f99) Tryz.func99 (by kernel_rfl) rfl ⟨by kernel_rfl,by kernel_rfl⟩ ?_
  refine ah.seq (ah.mono (EU pG jq (ev 40) (s':=⟨dS 8 [(0,.ls L),(2,.nils)],aa [a,b,c,d]⟩) (.go 0 .fin) (by kernel_rfl)) ?_)
  rintro _ _ ⟨rfl,rfl⟩
  refine ah.seq (ah.seq (ah.mono (xR jq (ev 40) (Ψ:=fun s=>s=⟨dS 8 [(0,.ls L),(2,.nils),(3,.ps L false),(4,.bool false)],aa [a,b,c,d]⟩) (.go 0 (.nz 3 .abs (.go 0 .fin)))
    (W:=(L=[]->False)/\(⟨dS 8 [(0,.ls L),(2,.nils),(3,.ps L false),(4,.bool false)],aa [a,b,c,d]⟩:St)=⟨dS 8 [(0,.ls L),(2,.nils),(3,.ps L false),(4,.bool false)],aa [a,b,c,d]⟩) ⟨hn,rfl⟩ (by kernel_rfl)) ?_))
  rintro _ _ ⟨rfl,rfl⟩
  refine ah.cond (t:=false) (by kernel_rfl) (fun h=>by grind) fun _=>ah.skip ?_
  refine ah.seq (ah.region ?_)
  show b7 _ _ _ _ [_,_,_,_] _ _
  refine b7.one (s':=⟨dS 8 [(0,.ls L),(2,.nils),(3,.ps L false),(4,.bool false),(5,.ps [] true)],aa [a,b,c,d]⟩) (ev 40) (by kernel_rfl) ?_
  refine b7.one (s':=⟨dS 8 [(0,.ls L),(2,.nils),(3,.ps L false),(4,.bool false),(5,.ps [] true),(6,.ls L)],aa [a,b,c,d]⟩) (ev 40) (by kernel_rfl) ?_
  refine rC (I:=fun k:Nat=>k=0) (r:=fun _=>.slice 4 0 0 L.length none) (H:=fun _=>aa [a,b,c,d,.row 4 true 0 L]) (by kernel_rfl)
    (fun pl M a w g1 g2 g3=>xa (z:=aQ ⟨[],0,0,0⟩) (z0:=aQ ⟨[],0,0,0⟩) (xs:=L) (t:=27) (tx:=27) (e:=125) (i:=Fa) yp ww (by kernel_rfl) ⟨125,by kernel_rfl⟩ Fy (by kernel_rfl) (Le.refl _) (by kernel_rfl) (by kernel_rfl) hn hf (by kernel_rfl) hsm (by omega) pl M a w g1 g2 g3) fun k _=>?_
  refine⟨dS 8 [(0,.ls L),(2,.nils),(3,.ps L false),(4,.bool false),(5,.ps [] true),(6,.ls L),(7,.slice 4 0 0 L.length none)],by kernel_rfl,?_⟩
  refine b7.one (s':=⟨dS 8 [(0,.ls L),(2,.slice 4 0 0 L.length none),(3,.ps L false),(4,.bool false),(5,.ps [] true),(6,.ls L),(7,.slice 4 0 0 L.length none)],aa [a,b,c,d,.row 4 true 0 L]⟩) (ev 40) (by kernel_rfl) (b7.nil (ah.ret ⟨fun id h=>(by grind),.slice 4 0 0 L.length none,by kernel_rfl,by kernel_rfl,by kernel_rfl⟩))
theorem cl5(ws:List PWord)(hl:ws.length<=2^20)(a b c d e:AObj):kD 99 [.ls (ws.map aQ)] (aa [a,b,c,d,e]) (.sl0 5 0 ws.length none) (aa [a,b,c,d,e,B8 ws]):=by
  by_cases hne:ws=[]
  · subst hne
    have hE:(aa [a,b,c,d,e]).push (B8 [])=aa [a,b,c,d,e,B8 []]:=by kernel_rfl
    have h:=aF.psh (o:=B8 []) (u:=.sl0 5 0 0 none) (rl [] (by omega) (aa [a,b,c,d,e])) E0
    simp_all
  have hn:ws.map aQ≠[]:=fun h=>hne (List.map_eq_nil_iff.1 h)
  have hf:=V0 ws
  have hsm:small (ws.map aQ).length 40=true:=by grind[aD]
  have hlen:ws.length=(ws.map aQ).length:=(cX ..).symm
  unfold B8
  rw[hlen]
  generalize ws.map aQ=L at hn hf hsm
  refine(aF.less (Ψ:=fun v h=>v=.slice 5 0 0 L.length none/\h=aa [a,b,c,d,e,.row 4 true 0 L]) ?_ fun v h ⟨h1,h2⟩=>⟨_,h1▸Le.sl0,rfl,h2⟩)
  refine aF.enter 2 (fn:=Tryz.f99) Tryz.func99 (by kernel_rfl) rfl ⟨by kernel_rfl,by kernel_rfl⟩ ?_
  refine ah.seq (ah.mono (EU pG jq (ev 40) (s':=⟨dS 8 [(0,.ls L),(2,.nils)],aa [a,b,c,d,e]⟩) (.go 0 .fin) (by kernel_rfl)) ?_)
  rintro _ _ ⟨rfl,rfl⟩
  refine ah.seq (ah.seq (ah.mono (xR jq (ev 40) (Ψ:=fun s=>s=⟨dS 8 [(0,.ls L),(2,.nils),(3,.ps L false),(4,.bool false)],aa [a,b,c,d,e]⟩) (.go 0 (.nz 3 .abs (.go 0 .fin)))
    (W:=(L=[]->False)/\(⟨dS 8 [(0,.ls L),(2,.nils),(3,.ps L false),(4,.bool false)],aa [a,b,c,d,e]⟩:St)=⟨dS 8 [(0,.ls L),(2,.nils),(3,.ps L false),(4,.bool false)],aa [a,b,c,d,e]⟩) ⟨hn,rfl⟩ (by kernel_rfl)) ?_))
  rintro _ _ ⟨rfl,rfl⟩
  refine ah.cond (t:=false) (by kernel_rfl) (fun h=>by grind) fun _=>ah.skip ?_
  refine ah.seq (ah.region ?_)
  show b7 _ _ _ _ [_,_,_,_] _ _
  refine b7.one (s':=⟨dS 8 [(0,.ls L),(2,.nils),(3,.ps L false),(4,.bool false),(5,.ps [] true)],aa [a,b,c,d,e]⟩) (ev 40) (by kernel_rfl) ?_
  refine b7.one (s':=⟨dS 8 [(0,.ls L),(2,.nils),(3,.ps L false),(4,.bool false),(5,.ps [] true),(6,.ls L)],aa [a,b,c,d,e]⟩) (ev 40) (by kernel_rfl) ?_
  refine rC (I:=fun k:Nat=>k=0) (r:=fun _=>.slice 5 0 0 L.length none) (H:=fun _=>aa [a,b,c,d,e,.row 4 true 0 L]) (by kernel_rfl)
    (fun pl M a w g1 g2 g3=>xa (z:=aQ ⟨[],0,0,0⟩) (z0:=aQ ⟨[],0,0,0⟩) (xs:=L) (t:=27) (tx:=27) (e:=125) (i:=Fa) yp ww (by kernel_rfl) ⟨125,by kernel_rfl⟩ Fy (by kernel_rfl) (Le.refl _) (by kernel_rfl) (by kernel_rfl) hn hf (by kernel_rfl) hsm (by omega) pl M a w g1 g2 g3) fun k _=>?_
  refine⟨dS 8 [(0,.ls L),(2,.nils),(3,.ps L false),(4,.bool false),(5,.ps [] true),(6,.ls L),(7,.slice 5 0 0 L.length none)],by kernel_rfl,?_⟩
  refine b7.one (s':=⟨dS 8 [(0,.ls L),(2,.slice 5 0 0 L.length none),(3,.ps L false),(4,.bool false),(5,.ps [] true),(6,.ls L),(7,.slice 5 0 0 L.length none)],aa [a,b,c,d,e,.row 4 true 0 L]⟩) (ev 40) (by kernel_rfl) (b7.nil (ah.ret ⟨fun id h=>(by grind),.slice 5 0 0 L.length none,by kernel_rfl,by kernel_rfl,by kernel_rfl⟩))
noncomputable abbrev DG(u:TUnit)(k:AV):AV:=.agg [iV u.act,iV u.item,iV u.n,iV u.kind,.str u.label,.sl0 3 0 u.head.length none,.sl0 4 0 u.words.length none,k]
noncomputable abbrev VJ(u:TUnit)(i j:Nat)(k:AV):AObj:=.row 8 false 0 [.agg [iV u.act,iV u.item,iV u.n,iV u.kind,.str u.label,.sl0 i 0 u.head.length none,.sl0 j 0 u.words.length none,k]]
theorem Zk(u:TUnit)(hk:0<u.kids.length)(hn:nU u<=2^20)(ht:∀x,x∈bU u->x.head.length<=2^20/\x.words.length<=2^20):kC 59 [eU u] (aa [wy u,wz])
    (fun v h=>∃y:Nat×Nat×List TUnit,(y.2.1=u.kids.length/\y.2.2=u.kids)/\v=DG u (.slice 5 y.1 0 y.2.1 none)/\h=aa [wy u,wz,VJ u 3 4 (.slice 5 y.1 0 y.2.1 none),B8 u.head,B8 u.words,.row 8 true y.1 (y.2.2.map aU)]):=by
  have hkl:=bg u
  have c1:=(ht u (cS u)).1
  have c2:=(ht u (cS u)).2
  have ihk:∀k,k∈u.kids->kP 59 [eU k] (eU k):=fun k hk=>HF k (bH (oM (ig hk)) hn) (fun x hx=>⟨nl (ht x (bv hk hx)).1 (by omega),nl (ht x (bv hk hx)).2 (by omega)⟩)
  let q1:=[av [iV u.act,iV u.item,iV u.n,iV u.kind,ax u.label,aW (u.head.map aQ),aW (u.words.map aQ),aW (u.kids.map aU)]];let q2:=[av [iV 0,iV 0,iV 0,iV 0,ax [],ak,ak,ak]];let q3:=aZ 8 false 0 q2;let q4:=aZ 8 false 0 q1;let q5:=List.map aQ u.head;let q6:=aZ 4 true 0 q5;exact qY Tryz.func59 fun a=>Mg 3<|M3 (.efx true (AV.sl0 4 0 u.head.length none)<|aa [aZ 8 false 0 q1,aZ 8 false 0 q2,aZ 8 false 0 q1,aZ 8 false 0 q2,aZ 4 true 0 q5]) (Hy rt rt rt rt ti) (Hy (aJ<|some q3) (aJ<|some q4) (aJ<|some q3) (aJ<|some q4) ti) (cl4 u.head c1 q4 q3 q4 q3)<|Mg 1<|M3 (.efx true (AV.sl0 5 0 u.words.length none)<|aa [aZ 8 false 0 q1,aZ 8 false 0 q2,aZ 8 false 0 q1,aZ 8 false 0 q2,aZ 4 true 0 q5,aZ 4 true 0<|u.words.map aQ]) (yK (tR 4 true 0 5<|aX iC u.head) rt rt rt rt ti) (yK (aJ<|some q6) (aJ<|some q3) (aJ<|some q4) (aJ<|some q3) (aJ<|some q4) ti) (cl5 u.words c2 q4 q3 q4 q3 q6)<|Kl 7 16 (ln aU u.kids)<|Mg 0<|mQ Nat Nat (List TUnit) aU u.kids [1,2,3,15,16,17] (fun a _=>([bX 2 0 0 0,bX 3 0 0 0,ak,aW<|u.kids.map aU,nV u.kids.length,nV a],[aZ 8 false 0 [av [iV u.act,iV u.item,iV u.n,iV u.kind,ax u.label,aW<|u.head.map aQ,aW<|u.words.map aQ,aW<|u.kids.map aU]],aZ 8 false 0 [av [iV 0,iV 0,iV 0,iV 0,ax [],ak,ak,ak]],aZ 8 false 0 [av [iV u.act,iV u.item,iV u.n,iV u.kind,ax u.label,AV.sl0 4 0 u.head.length none,AV.sl0 5 0 u.words.length none,aW<|u.kids.map aU]],aZ 8 false 0 [av [iV 0,iV 0,iV 0,iV 0,ax [],ak,ak,ak]],aZ 4 true 0<|u.head.map aQ,aZ 4 true 0<|u.words.map aQ])) (fun a _ b c d=>([bX 2 0 0 0,bX 3 0 0 0,aH 6 b 0 c none,aW<|u.kids.map aU,nV u.kids.length,nV a],[aZ 8 false 0 [av [iV u.act,iV u.item,iV u.n,iV u.kind,ax u.label,aW<|u.head.map aQ,aW<|u.words.map aQ,aW<|u.kids.map aU]],aZ 8 false 0 [av [iV 0,iV 0,iV 0,iV 0,ax [],ak,ak,ak]],aZ 8 false 0 [av [iV u.act,iV u.item,iV u.n,iV u.kind,ax u.label,AV.sl0 4 0 u.head.length none,AV.sl0 5 0 u.words.length none,aW<|u.kids.map aU]],aZ 8 false 0 [av [iV 0,iV 0,iV 0,iV 0,ax [],ak,ak,ak]],aZ 4 true 0<|u.head.map aQ,aZ 4 true 0<|u.words.map aQ,aZ 8 true b<|d.map aU])) (fun a=>a=u.kids) (fun a _ b c=>b=c.length/\(0:Nat)<c.length/\c++a=u.kids/\c.length+a.length=u.kids.length) (by rfl) (fun _ _ _ _ _ a _=>Kh 0 a<|Mg 4<|Mw .abs (sA:False)) (fun a _ _ b c d _ e f g _ i _=>have i:=(i).trans<|congrArg some<|aO c;have b:=cT (J:=fun a _=>a=u.kids) (a:=()) f b;Kt 0 g<|Mx i<|Kp 4 (ihk c gR)<|K1 1 (.obj 7<|aZ 8 true 0<|List.map aU [c]) (congrArg (aZ 8 true 0)<|T9 (f:=aU) (g:=Go.Ev.eU) (ws:=[c]) aO)<|Kl 1 26 (dB a)<|Mg 0<|Mw (.ren [0,1,2,3,4,5,7,6] [4,5,7] [1,2,3,15,16,17]<|.frz 7 [1,2,3,15,16,17] .fin)<|Hy (tS 4 true 0<|aX iC u.head) (tS 4 true 0<|aX iC u.words) (tS 8 true 0<|aX gT [c]) (et8 (tR 8 true 0 7<|aX gT [c]) (tR 4 true 0 7<|aX iC u.words) (tR 4 true 0 7<|aX iC u.head) rt rt rt rt ti)<|e 0 1 [c]<|by(refine⟨rfl,by simp,?_,?_⟩<;>(rw[<-b])<;>(first|rfl|grind))) (fun _ _ b c d _ _ _ e _=>Kh 0 e<|Mg 4<|Mw (.ren [0,1,3,4,5,6,2] [4,5,6] [2]<|.frz 6 [2] .fin)<|Hy (tS 4 true 0<|aX iC u.head) (tS 4 true 0<|aX iC u.words) (tS 8 true b<|aX gT d) (N7 (tR 8 true b 6<|aX gT d) (tR 4 true 0 6<|aX iC u.words) (tR 4 true 0 6<|aX iC u.head) rt rt rt ti)<|a (b,c,d) sA) fun a _ b c d _ e f g _ i j l _ n _=>have n:=(n).trans<|congrArg some<|aO f;have e:=cT (J:=fun a b=>b.2.1=b.2.2.length/\(0:Nat)<b.2.2.length/\b.2.2++a=u.kids/\b.2.2.length+a.length=u.kids.length) (a:=(b,c,d)) j e;Kt 0 l<|Mx n<|Kp 4 (ihk f gR)<|K1 0 .app (co (aJ b) (sA:c=(d.map aU).length) (by(refine aD (m:=2^21) ?_ ?_ ?_<;>omega):small (c+1) 120=true))<|M1 (.obj 6<|aZ 8 true (b+1)<|(d++[f]).map aU) (congrArg (aZ 8 true<|b+1)<|yQ (f:=aU) (g:=Go.Ev.eU) (l:=d) (ws:=[f]) aO)<|Kl 1 26 (dB a)<|K1 0 (.frz 7 [1,2,3,15,16,17]) (et8 (tR 8 true (b+1) 7<|aX gT<|d++[f]) (tR 4 true 0 7<|aX iC u.words) (tR 4 true 0 7<|aX iC u.head) rt rt rt rt ti)<|Mf<|i (b+1) (c+1) (d++[f])<|by(refine⟨by simp_all,by simp,?_,?_⟩<;>first|(rw[<-e.2.2.1];simp;done)|grind)
theorem Zw(u:TUnit)(hk:u.kids=[])(ht:∀x,x∈bU u->x.head.length<=2^20/\x.words.length<=2^20):kD 59 [eU u] (aa [wy u,wz]) (DG u .nils) (aa [wy u,wz,VJ u 3 4 .nils,B8 u.head,B8 u.words]):=by
  have c1:=(ht u (cS u)).1
  have c2:=(ht u (cS u)).2
  have hz:au 0 (Int.ofNat u.kids.length)=false:=by rw[hk];rfl
  let q:=[av [iV u.act,iV u.item,iV u.n,iV u.kind,ax u.label,aW (u.head.map aQ),aW (u.words.map aQ),aW (u.kids.map aU)]];let q1:=[av [iV 0,iV 0,iV 0,iV 0,ax [],ak,ak,ak]];let q2:=[aZ 8 false 0 q,aZ 8 false 0 q1,aZ 8 false 0 [av [iV u.act,iV u.item,iV u.n,iV u.kind,ax u.label,AV.sl0 4 0 u.head.length none,AV.sl0 5 0 u.words.length none,aW (u.kids.map aU)]],aZ 8 false 0 q1,aZ 4 true 0 (u.head.map aQ),aZ 4 true 0 (u.words.map aQ)];let q3:=aZ 8 false 0 q1;let q4:=aZ 8 false 0 q;let q5:=[bX 2 0 0 0,bX 3 0 0 0,ak,aW (u.kids.map aU),nV u.kids.length,iV 0];let q6:=List.map aQ u.head;let q7:=aZ 4 true 0 q6;exact fu Tryz.func59 fun a=>Mg 3<|M3 (.efx true (AV.sl0 4 0 u.head.length none)<|aa [aZ 8 false 0 q,aZ 8 false 0 q1,aZ 8 false 0 q,aZ 8 false 0 q1,aZ 4 true 0 q6]) (Hy rt rt rt rt ti) (Hy (aJ<|some q3) (aJ<|some q4) (aJ<|some q3) (aJ<|some q4) ti) (cl4 u.head c1 q4 q3 q4 q3)<|Mg 1<|M3 (.efx true (AV.sl0 5 0 u.words.length none)<|aa [aZ 8 false 0 q,aZ 8 false 0 q1,aZ 8 false 0 q,aZ 8 false 0 q1,aZ 4 true 0 q6,aZ 4 true 0<|u.words.map aQ]) (yK (tR 4 true 0 5<|aX iC u.head) rt rt rt rt ti) (yK (aJ<|some q7) (aJ<|some q3) (aJ<|some q4) (aJ<|some q3) (aJ<|some q4) ti) (cl5 u.words c2 q4 q3 q4 q3 q7)<|Kl 7 16 (ln aU u.kids)<|Mg 0<|Zr [1,2,3,15,16,17] (q5,q2) True 0 ti fun _ _=>Kh 0 hz<|Mg 4<|M2 (.ren [0,1,3,4,5,2] [4,5] [2]) (tS 4 true 0<|aX iC u.head) (tS 4 true 0<|aX iC u.words)<|M1 (.frz 5 [2]) (yK (tR 4 true 0 5<|aX iC u.words) (tR 4 true 0 5<|aX iC u.head) rt rt rt ti)<|Mf a
noncomputable abbrev ZF(ep:Nat)(l:List TUnit):AObj:=.row 8 true ep (l.map aU)
theorem Lg(u:TUnit){k k':AV}(h:Le k k')(h2:cL k=true):Le (DG u k) (DG u k'):=aM (.cons (Le.refl _) (.cons (Le.refl _) (.cons (Le.refl _) (.cons (Le.refl _) (.cons (Le.refl _) (.cons (Le.refl _) (.cons (Le.refl _) (.cons h .nil)))))))) (by simp only[List.all_cons,List.all_nil,h2];rfl)
theorem Zj(u:TUnit)(hn:nU u<=2^20)(ht:∀x,x∈bU u->x.head.length<=2^20/\x.words.length<=2^20):kC 59 [eU u] (aa [wy u,wz])
    (fun v h=>∃ep:Nat,True/\v=DG u (.sl0 5 ep u.kids.length none)/\h=aa [wy u,wz,.dead,B8 u.head,B8 u.words,ZF ep u.kids]):=by
  rcases Nat.eq_zero_or_pos u.kids.length with hk|hk
  · have hk:=List.length_eq_zero_iff.1 hk
    refine aF.dead (i:=2) (J7 (Ψ':=fun v h=>v=DG u (.sl0 5 0 0 none)/\h=aa [wy u,wz,VJ u 3 4 .nils,B8 u.head,B8 u.words,ZF 0 u.kids]) (ZF 0 u.kids) (Zw u hk ht) fun v h' ⟨h1,h2⟩=>⟨DG u (.sl0 5 0 0 none),h1▸Lg u Le.sl0n rfl,rfl,?_⟩) (af 2) (by omega) fun v h' ⟨h1,h2⟩=>⟨0,trivial,by simp_all,?_⟩
    · rw[h2];kernel_rfl
    · rw[h2];kernel_rfl
  · refine aF.dead (i:=2) (aF.less (Ψ':=fun v h=>∃ep:Nat,v=DG u (.sl0 5 ep u.kids.length none)/\h=aa [wy u,wz,VJ u 3 4 (.slice 5 ep 0 u.kids.length none),B8 u.head,B8 u.words,ZF ep u.kids]) (Zk u hk hn ht) fun v h' ⟨y,⟨e1,e2⟩,h1,h2⟩=>⟨DG u (.sl0 5 y.1 u.kids.length none),?_,y.1,rfl,?_⟩) (af 2) (by omega) fun v h' ⟨ep,h1,h2⟩=>⟨ep,trivial,h1,?_⟩
    · rw[h1,e1];exact Lg u Le.sl0 rfl
    · simp_all
    · rw[h2];kernel_rfl
def kB{α:Type}(f:α->α)(l:List α)(i:Nat):List α:=(l.take i).map f++l.drop i
theorem vu{α:Type}{f:α->α}{l:List α}{i:Nat}:(kB f l i).length=l.length:=by
  grind[kB]
theorem vA{α:Type}{f:α->α}{l:List α}{i:Nat}(h:l.length<=i):kB f l i=l.map f:=by
  grind[kB,List.take_of_length_le]
theorem zE{α:Type}[Inhabited α]{f:α->α}{l:List α}{i:Nat}(h:i<l.length):gD (kB f l i) i=gD l i:=by
  have e:((l.take i).map f).length=i:=by grind
  simp_all[kB,gD,oQ]
theorem CB{α:Type}[Inhabited α]{f:α->α}{l:List α}{i:Nat}(h:i<l.length):(kB f l i).set i (f (gD l i))=kB f l (i+1):=by
  have e:((l.take i).map f).length=i:=by grind
  have hg:gD l i=l[i]:=by unfold gD;simp_all
  unfold kB
  rw[List.set_append_right _ _ (by omega),e,Nat.sub_self,hg,OP h,List.set_cons_zero,OR h,pA,jj]
  rfl
theorem zC{l:List PWord}{i:Nat}(h:i<l.length):(kB gG l i).set i ⟨(gD (kB gG l i) i).text,0,0,0⟩=kB gG l (i+1):=by
  rw[zE h];exact CB h
theorem Pv:∀u:TUnit,nU u<=2^20->(∀x,x∈bU u->x.head.length<=2^20/\x.words.length<=2^20)->kP 318 [eU u] (eU (cR u)):=by
  refine TUnit.ind fun u ih hn ht=>?_
  have hkl:=bg u
  have c1:=(ht u (cS u)).1
  have c2:=(ht u (cS u)).2
  have hc:=Zj u hn ht
  have ihk:∀k,k∈u.kids->kP 318 [eU k] (eU (cR k)):=fun k hk=>ih k hk (bH (oM (ig hk)) hn) (fun x hx=>ht x (bv hk hx))
  rw[mh]
  have rr0 b' (h:(List.map aQ (TUnit.mk 0 0 0 u.kind u.label (u.head.map gG) (u.words.map gG) (u.kids.map cR)).head)=b':=by(rw[hx1.2,vA (by(simp only[oN]at *;omega))];rfl)):=h;have rr1 b' (h:(List.map aQ (TUnit.mk 0 0 0 u.kind u.label (u.head.map gG) (u.words.map gG) (u.kids.map cR)).words)=b':=by(rw[hx2.2,vA (by(simp only[oN]at *;omega))];rfl)):=h;have rr2 b' (h:(List.map aU (TUnit.mk 0 0 0 u.kind u.label (u.head.map gG) (u.words.map gG) (u.kids.map cR)).kids)=b':=by(rw[hx3.2,vA (by(simp only[oN]at *;omega))];rfl)):=h;exact bB Tryz.func318<|Mg 2<|Mq hc fun a _=>Mg 10<|M0 (.un 2)<|Mg 7<|J3 (0:Nat) u.head [1,2,4,15,16,17,22,23] (fun b c=>([bX 0 0 0 0,bX 1 0 0 0,AV.sl0 3 0 u.head.length none,lw [AV.sl0 3 0 u.head.length none,AV.sl0 4 0 u.words.length none] true,iV 2,iV 0,nV u.head.length,nV b],[aZ 8 false 0 [av [iV 0,iV 0,iV 0,iV u.kind,ax u.label,AV.sl0 3 0 u.head.length none,AV.sl0 4 0 u.words.length none,AV.sl0 5 a u.kids.length none]],aZ 8 false 0 [av [iV 0,iV 0,iV 0,iV 0,ax [],ak,ak,ak]],AObj.dead,aZ 4 true 0<|c.map aQ,aZ 4 true 0<|u.words.map aQ,aZ 8 true a<|u.kids.map aU])) (fun a b=>a<=u.head.length/\b=kB gG u.head a) (fun a _=>u.head.length-a) (by exact⟨bE _,rfl⟩) fun b c hx1 d=>have hx1:b<=u.head.length/\c=kB gG u.head b:=hx1;have:c.length=u.head.length:=(by grind[vu]);Ka 0 (Int.ofNat b) (Int.ofNat u.head.length) (fun _ _=>K1 4 .rix (et (aJ 0) (sA:b<u.head.length))<|K1 0 (.rst (aQ<|gD c b)<|(c.set b<|PWord.mk (gD c b).text 0 0 0).map aQ) (co (aJ 0) (bQ aQ (sA:b<(c).length))<|kZ (f:=aQ) (l:=c) (i:=b) (w:=PWord.mk (gD c b).text 0 0 0))<|Kl 0 31 (iT b)<|Kf 0<|d (b+1) (c.set b<|PWord.mk (gD c b).text 0 0 0) (by grind[zC]) gR) fun _ _=>Mg 9<|J3 (0:Nat) u.words [1,2,4,15,16,17,22,23] (fun b d=>([bX 0 0 0 0,bX 1 0 0 0,AV.sl0 4 0 u.words.length none,lw [AV.sl0 3 0 u.head.length none,AV.sl0 4 0 u.words.length none] true,iV 2,iV 1,nV u.words.length,nV b],[aZ 8 false 0 [av [iV 0,iV 0,iV 0,iV u.kind,ax u.label,AV.sl0 3 0 u.head.length none,AV.sl0 4 0 u.words.length none,AV.sl0 5 a u.kids.length none]],aZ 8 false 0 [av [iV 0,iV 0,iV 0,iV 0,ax [],ak,ak,ak]],AObj.dead,aZ 4 true 0<|c.map aQ,aZ 4 true 0<|d.map aQ,aZ 8 true a<|u.kids.map aU])) (fun a b=>a<=u.words.length/\b=kB gG u.words a) (fun a _=>u.words.length-a) (by exact⟨bE _,rfl⟩) fun b d hx2 e=>have hx2:b<=u.words.length/\d=kB gG u.words b:=hx2;have:d.length=u.words.length:=(by grind[vu]);Ka 0 (Int.ofNat b) (Int.ofNat u.words.length) (fun _ _=>K1 4 .rix (et (aJ 0) (sA:b<u.words.length))<|K1 0 (.rst (aQ<|gD d b)<|(d.set b<|PWord.mk (gD d b).text 0 0 0).map aQ) (co (aJ 0) (bQ aQ (sA:b<(d).length))<|kZ (f:=aQ) (l:=d) (i:=b) (w:=PWord.mk (gD d b).text 0 0 0))<|Kl 0 31 (iT b)<|Kf 0<|e (b+1) (d.set b<|PWord.mk (gD d b).text 0 0 0) (by grind[zC]) gR) fun _ _=>Mg 7<|J3 (0:Nat) u.kids [1,2,35,36] (fun b e=>([bX 0 0 0 0,bX 1 0 0 0,nV u.kids.length,nV b],[aZ 8 false 0 [av [iV 0,iV 0,iV 0,iV u.kind,ax u.label,AV.sl0 3 0 u.head.length none,AV.sl0 4 0 u.words.length none,AV.sl0 5 a u.kids.length none]],aZ 8 false 0 [av [iV 0,iV 0,iV 0,iV 0,ax [],ak,ak,ak]],AObj.dead,aZ 4 true 0<|c.map aQ,aZ 4 true 0<|d.map aQ,aZ 8 true a<|e.map aU])) (fun a b=>a<=u.kids.length/\b=kB cR u.kids a) (fun a _=>u.kids.length-a) (by exact⟨bE _,rfl⟩) fun b e hx3 f=>have hx3:b<=u.kids.length/\e=kB cR u.kids b:=hx3;have:e.length=u.kids.length:=(by grind[vu]);have g:b<u.kids.length->kP (318:FuncId) [eU (gD e b)] (eU (cR (gD e b))):=fun h=>ihk _ (by grind[zE,gY]);Ka 0 (Int.ofNat b) (Int.ofNat u.kids.length) (fun _ _=>K1 7 .rix (et (aJ a) (sA:b<u.kids.length))<|Mr (et (aJ a)<|rx aU (g:=Go.Ev.eU) aO (sA:b<(e).length))<|Mp (g sA)<|M1 .rix (et (aJ a) (sA:b<u.kids.length))<|M3 (.rst (av [iV (gD e b).act,iV (gD e b).item,iV (gD e b).n,iV (gD e b).kind,ax (gD e b).label,aW<|List.map aQ (gD e b).head,aW<|List.map aQ (gD e b).words,aW<|List.map aU (gD e b).kids])<|(e.set b<|cR<|gD e b).map aU) rt (iY (tR 8 true a 6<|aX gT e) rt) (co (aJ a) (rx aU (g:=Go.Ev.eU) aO (sA:b<(e).length))<|DB (f:=aU) (g:=Go.Ev.eU) aO (l:=e) (i:=b) (w:=cR<|gD e b))<|Kl 0 49 (iT b)<|Kf 0<|f (b+1) (e.set b<|cR<|gD e b) (by grind[zE,CB]) gR) fun _ _=>M2 (.fza 0 7 5 [1,2]<|e.map aU) (yK (tR 4 true 0 5<|aX iC d) (tR 4 true 0 5<|aX iC c) rt rt rt ti) (co (aJ a) (tA aU e u.kids.length (oA:(e).length=u.kids.length))<|aX gT e)<|M2 (.fza 0 6 4 [1,2]<|d.map aQ) (Hy (tR 4 true 0 4<|aX iC c) rt rt rt ti) (co (aJ 0) (tA aQ d u.words.length (oA:(d).length=u.words.length))<|aX iC d)<|M2 (.fza 0 5 3 [1,2]<|c.map aQ) (ju rt rt rt ti) (co (aJ 0) (tA aQ c u.head.length (oA:(c).length=u.head.length))<|aX iC c)<|Kf 1 (aM (lc<|lc<|lc<|lc<|lc<|.cons (cY<|rr0<|c.map aQ)<|.cons (cY<|rr1<|d.map aQ)<|.cons (cY<|rr2<|e.map aU) .nil)<|by kernel_rfl:Le _ (AV.agg [iV 0,iV 0,iV 0,iV u.kind,AV.str u.label,AV.ls (c.map aQ),AV.ls (d.map aQ),AV.ls (e.map aU)]))
theorem Qg:Go.Proofs.Builder.Extra Tryz.prog Tryz.ljoin_ren:=by
  repeat' (first|kernel_rfl|(intro w;kernel_rfl)|decide|constructor)
theorem UJ(l:List aP)(sep:aP)(h1:l.length<=140737488355328)(h2:(Lib.join l sep).length<=140737488355328):kP 36 [.ls (l.map nW),.str sep] (.str (Lib.join l sep)):=NE (Go.Proofs.enters_of Tryz.func36 (by kernel_rfl) rfl) (fun a b c d e f g h i j k=>Go.Proofs.Any.strings_Join Go.Proofs.Tryz.ljoin Qg a b c d e f g h i j k) (fun a b c d=>Go.Proofs.Any.strings_Join_none Go.Proofs.Tryz.ljoin Qg a b c d) l sep h1 h2
theorem Y5:Go.Proofs.Builder.Extra Tryz.prog Tryz.lrep_ren:=by
  repeat' (first|kernel_rfl|(intro w;kernel_rfl)|decide|constructor)
theorem Wo(s:aP)(c:Nat)(h1:c<=9223372036854775807)(h2:s.length*c<=140737488355328):kP 335 [.str s,nV c] (.str (Lib.repeatL s c)):=F5 (Go.Proofs.enters_of Tryz.func335 (by kernel_rfl) rfl) (fun a b d e f=>Go.Proofs.Any.strings_Repeat Go.Proofs.Tryz.lrep Y5 a b d e f) s c h1 h2
theorem PH(s:aP)(ws:List PWord)(hw:∀w,w∈ws->1<=w.text.length/\w.text.length<=24)(hb:s.length+26*ws.length<=2^40)(hn:ws.length<=2^20):kP 337 [.str s,.ls (ws.map aQ)] (.str (mY s ws)):=by
  have rr0 b' (h:(mY s ws)=b':=by first|rfl|(exact hj0.1.symm)):=h;exact bB Tryz.func337<|Kl 2 8 (ln aQ ws)<|Mg 0<|Vo (0:Nat) ws s [0,7,8,9] (fun a _ b=>([ax b,aW<|ws.map aQ,nV ws.length,nV a],[])) (fun a b c=>(ws).drop a=b/\mY c b=mY s ws/\List.length c+26*b.length<=2^40) (fun _ a _=>a.length) (et rfl<|by first|rfl|(first|simp_all|(refine⟨by(rw[<-hj0.1,oD];first|rw[ER h1]|rw[EP h1 h2]|rw[EO h1 h2]),?_⟩;have q:=hj0.2;simp only[lA,lC,lN]at *;omega))) fun a b c d e=>Mc b (fun a=>have b:=gx d.1 a;have hj0:=jJ (J:=fun a b=>mY b a=mY s ws/\List.length b+26*a.length<=2^40) (a:=c) a d.2;Kh 0 b<|Kf 1<|Le.str<|rr0 c) fun b f g=>let i:=[aZ 4 false 0 [av [ax b.text,iV b.act,iV b.item,iV b.at_]]];have j:=gc d.1 g;have:=ap j;have k:=gz (enc:=aQ) d.1 g;have hj0:=cT (J:=fun a b=>mY b a=mY s ws/\List.length b+26*a.length<=2^40) (a:=c) g d.2;have:=hw b<|aN d.1 g;Kt 0 j<|Mx k<|Kv 3 (iP (s:=c) (u:=[32]) (H:=aa i) (by(first|first|assumption|omega|grind):(c).length+([32]).length<=2^62))<|K1 2 (.chr<|gD b.text 0) (zd (by first|omega|(simp only[oN,lM,lS]at *;omega)|(simp only[oN,lM,lS,lA,lR,lC,lN]at * <;>omega):0<(b.text).length))<|Kj 1 (Int.ofNat (gD b.text 0).toNat) 124 (fun j _=>Mt j<|Mt j<|Mt j<|MV j<|Kv 1 (iP (s:=c++[32]) (u:=[92]) (H:=aa i) (by(first|first|assumption|omega|grind):(c++[32]).length+([92]).length<=2^62))<|Kv 3 (iP (s:=c++[32]++[92]) (u:=b.text) (H:=aa i) (by(first|first|assumption|omega|grind):(c++[32]++[92]).length+(b.text).length<=2^62))<|Kl 1 31 (dB a)<|K1 0 (.frz 0 [0,7,8,9]) ti<|Mf<|e (a+1) f (c++[32]++[92]++b.text) (et (bN d.1 g)<|by first|exact⟨rfl,hb⟩|(refine⟨by(rw[<-hj0.1,oD];first|rw[ER j]|rw[EP j h2]|rw[EO j h2]),?_⟩;grind))<|fF g) fun j _=>Kh 0 j<|Kh 0 j<|M1 (.chr<|gD b.text 0) (zd (by first|omega|(simp only[oN,lM,lS]at *;omega)|(simp only[oN,lM,lS,lA,lR,lC,lN]at * <;>omega):0<(b.text).length))<|Mh j<|Kw 0 j<|Mb (ab (Int.ofNat (gD b.text 0).toNat) 92) (fun k=>have:=iB k;Kv 0 (iP (s:=c++[32]) (u:=[92]) (H:=aa i) (by(first|first|assumption|omega|grind):(c++[32]).length+([92]).length<=2^62))<|Kv 3 (iP (s:=c++[32]++[92]) (u:=b.text) (H:=aa i) (by(first|first|assumption|omega|grind):(c++[32]++[92]).length+(b.text).length<=2^62))<|Kl 1 31 (dB a)<|K1 0 (.frz 0 [0,7,8,9]) ti<|Mf<|e (a+1) f (c++[32]++[92]++b.text) (et (bN d.1 g)<|by first|exact⟨rfl,hb⟩|(refine⟨by(rw[<-hj0.1,oD];first|rw[ER j]|grind[EP]|rw[EO j k]),?_⟩;grind))<|fF g) fun k=>have:=Hc k;Kv 2 (iP (s:=c++[32]) (u:=b.text) (H:=aa i) (by(first|first|assumption|omega|grind):(c++[32]).length+(b.text).length<=2^62))<|Kl 1 31 (dB a)<|K1 0 (.frz 0 [0,7,8,9]) ti<|Mf<|e (a+1) f (c++[32]++b.text) (et (bN d.1 g)<|by first|exact⟨rfl,hb⟩|(refine⟨by(rw[<-hj0.1,oD];first|rw[ER j]|rw[EP j k]|grind[EO]),?_⟩;grind))<|fF g
theorem sd{u:TUnit}(h:mF u):mF (cR u):=by
  obtain⟨h1,h2⟩:=M5 u
  refine⟨by rw[h1];exact h.1,fun x hx=>?_⟩
  obtain⟨y,hy,rfl⟩:=h2 x hx
  obtain⟨a,b,c,d,e⟩:=h.2 y hy
  rw[mh]
  refine⟨by grind[TUnit.head],by grind[TUnit.words],c,fun w hw=>?_,fun w hw=>?_⟩
  · obtain⟨v,hv,rfl⟩:=iS.1 hw;exact d v hv
  · obtain⟨v,hv,rfl⟩:=iS.1 hw;exact e v hv
theorem CK{u:TUnit}(h:rT u):mF (ta u):=by
  have e:bU (ta u)=[ta u]:=by rw[ch];exact congrArg _ eH
  refine⟨by rw[jQ];exact bH (wY (congrArg (1+ ·) ma)) (by omega),fun x hx=>?_⟩
  rw[e]at hx
  rw[ly.1 hx];exact h
theorem Do(u:TUnit)(h:mF u):kP 318 [eU u] (eU (cR u)):=
  Pv u (bH h.1 (by omega)) fun x hx=>⟨bH (h.2 x hx).1 (by omega),bH (h.2 x hx).2.1 (by omega)⟩
theorem Qd(u:TUnit)(d:Nat)(hd:d<=2^20)(h:rT u):kP 334 [eU u,nV d] (.bool (D9 u d)):=by
  have h1:=Do (ta u) (CK h)
  have h2:=xD (cR (ta u)) (sd (CK h))
  have hz:=WM d
  have rr0 b' (h:(D9 u d)=b':=by first|rfl|(unfold D9;simp only[aS,aj,bS, *];done)):=h;exact bB Tryz.func334<|Kn 13 (au 8<|Int.ofNat d) (fun a=>Kt 0 (cM a)<|Mp (aT.onArgs (.cons (aM (lc<|lc<|lc<|lc<|lc<|lc<|lc<|.cons bA .nil)<|by kernel_rfl) .nil) h1:kP 318 [av [iV 0,iV 0,iV 0,iV u.kind,ax u.label,aW (u.head.map aQ),aW (u.words.map aQ),ak]] _)<|Mt (cM a)<|Mp h2<|MV (cM a)<|Kf 0<|cC<|rr0<|kL<|cR<|ta u) fun a=>Mh (ca a)<|Mh (ca a)<|My (ca a)<|Ky 0<|rr0 false
theorem XQ(u:TUnit)(d:Nat)(hd:d<=2^20)(h:rT u)(hm:D9 u d=false):kP 320 [eU u,nV d] (.str (gZ u d)):=by
  have h1:=Qd u d hd h
  rw[hm]at h1
  have e:gZ u d=[]:=by unfold gZ;simp_all
  rw[e]
  exact bB Tryz.func320<|Kp 3 h1<|Kf 2<|bx<|ax []
def ND(u:TUnit)(d:Nat)(z18:aP):Prop:=(z18=bif aj (ab u.kind (0:Int))then Lib.repeatL [(32:UInt8),(32:UInt8)] d++dQ u.kind++([(32:UInt8)]++u.label)else Lib.repeatL [(32:UInt8),(32:UInt8)] d++dQ u.kind)/\List.length z18<=(40:Nat)
noncomputable def NC(u:TUnit)(d:Nat)(z18:aP):List AV×List AObj:=([AV.ptr 0 0 0 0,AV.str z18],[AObj.row 8 false 0 [AV.agg [iV u.act,iV u.item,iV u.n,iV u.kind,AV.str u.label,AV.ls (u.head.map aQ),AV.ls (u.words.map aQ),AV.ls (u.kids.map aU)]]])
def NB(u:TUnit)(z18:aP)(z27:aP):Prop:=(z27=bif au (0:Int) (Int.ofNat u.head.length)then mY (z18++[(58:UInt8)]) u.head else z18)/\List.length z27<=(6700:Nat)
noncomputable def NA(u:TUnit)(z18:aP)(z27:aP):List AV×List AObj:=([AV.ptr 0 0 0 0,AV.str z27],[AObj.row 8 false 0 [AV.agg [iV u.act,iV u.item,iV u.n,iV u.kind,AV.str u.label,AV.ls (u.head.map aQ),AV.ls (u.words.map aQ),AV.ls (u.kids.map aU)]]])
theorem W9(u:TUnit)(d:Nat)(hd:d<=2^20)(h:rT u)(hm:D9 u d=true):kP 320 [eU u,nV d] (.str (gZ u d)):=by
  have h1:=Qd u d hd h
  obtain⟨hd8,hlb,⟨hh1,hh2⟩,hw1,hw2⟩:=Lw hm
  have hrl:=Lib.repeatL_length [32,32] d
  simp only[lC,lN]at hrl
  have h2:=Wo [32,32] d (by omega) (by grind)
  have hk:=wI u.kind
  have hkl:=AQ u.kind
  have hp1:∀s:aP,s.length<=2^14->kP 337 [.str s,.ls (u.head.map aQ)] (.str (mY s u.head)):=fun s hs=>PH s u.head hh2 (by omega) (by omega)
  have hp2:∀s:aP,s.length<=2^14->kP 337 [.str s,.ls (u.words.map aQ)] (.str (mY s u.words)):=fun s hs=>PH s u.words hw2 (by omega) (by omega)
  rw[hm]at h1
  have rr0 b' (h:(gZ u d)=b':=by first|rfl|(unfold gZ;rw[hm];simp only[aj,cond_false];rw[<-hz18.1,<-hz27.1];first|(rw[h3];rfl)|(rw[h4];rfl)|(rw[h5];rfl)|(rw[h6];rfl)|(rw[h7];rfl))):=h;let q1:=[aZ 8 false 0 [av [iV u.act,iV u.item,iV u.n,iV u.kind,ax u.label,aW (u.head.map aQ),aW (u.words.map aQ),aW (u.kids.map aU)]]];exact bB Tryz.func320<|Kp 3 h1<|Kp 2 h2<|Kp 1 hk<|Mv (iP (s:=Lib.repeatL [32,32] d) (u:=dQ u.kind) (H:=AHeap.mk 1000000 Tr.nil) (by(first|first|assumption|((try simp only[lA,lC,lN]);omega)|(simp only[lA,lC,lN]at *;omega)):(Lib.repeatL [32,32] d).length+(dQ u.kind).length<=2^62))<|Mg 0<|Mj aP [2,5] (NC u d) (ND u d) (fun a=>Kn 2 (ab u.kind 0) (fun _=>Kv 2 (iP (s:=[32]) (u:=u.label) (H:=aa q1) (by(first|first|assumption|((try simp only[lA,lC,lN]);omega)|(simp only[lA,lC,lN]at *;omega)):([32]).length+(u.label).length<=2^62))<|Mv (iP (s:=Lib.repeatL [32,32] d++dQ u.kind) (u:=32::u.label) (H:=aa q1) (by(first|first|assumption|((try simp only[lA,lC,lN]);omega)|(simp only[lA,lC,lN]at *;omega)):(Lib.repeatL [32,32] d++dQ u.kind).length+(32::u.label).length<=2^62))<|Kf 0<|a (Lib.repeatL [32,32] d++dQ u.kind++32::u.label) (by(refine⟨by first|simp_all|(rw[h2];rfl)|(rw[h3];rfl)|(rw[h0];rfl),?_⟩;grind):(Lib.repeatL [(32:UInt8),(32:UInt8)] d++dQ u.kind++(32:UInt8)::u.label=bif aj (ab u.kind (0:Int))then Lib.repeatL [(32:UInt8),(32:UInt8)] d++dQ u.kind++([(32:UInt8)]++u.label)else Lib.repeatL [(32:UInt8),(32:UInt8)] d++dQ u.kind)/\(Lib.repeatL [(32:UInt8),(32:UInt8)] d++dQ u.kind++(32:UInt8)::u.label).length<=40)) fun _=>Mf<|a (Lib.repeatL [32,32] d++dQ u.kind) (by(refine⟨by first|simp_all|(rw[h2];rfl)|(rw[h3];rfl)|(rw[h0];rfl),?_⟩;grind):(Lib.repeatL [(32:UInt8),(32:UInt8)] d++dQ u.kind=bif aj (ab u.kind (0:Int))then Lib.repeatL [(32:UInt8),(32:UInt8)] d++dQ u.kind++([(32:UInt8)]++u.label)else Lib.repeatL [(32:UInt8),(32:UInt8)] d++dQ u.kind)/\(Lib.repeatL [(32:UInt8),(32:UInt8)] d++dQ u.kind).length<=40)) fun a hz18=>have hz18:(a=bif aj (ab u.kind (0:Int))then Lib.repeatL [(32:UInt8),(32:UInt8)] d++dQ u.kind++([(32:UInt8)]++u.label)else Lib.repeatL [(32:UInt8),(32:UInt8)] d++dQ u.kind)/\List.length a<=40:=hz18;Mj aP [2,5] (NA u a) (NB u a) (fun b=>Kl 2 26 (ln aQ u.head)<|Kb 0 (au 0<|Int.ofNat u.head.length) (fun h3=>Kv 0 (iP (s:=a) (u:=[58]) (H:=aa q1) (by(first|first|assumption|((try simp only[lA,lC,lN]);omega)|(simp only[lA,lC,lN]at *;omega)):(a).length+([58]).length<=2^62))<|Kp 1 (hp1 (a++[58])<|by first|assumption|((try simp only[lA,lC,lN]);omega))<|Kf 0<|b (mY (a++[58]) u.head) (by(refine⟨by first|simp_all|(rw[h2];rfl)|(rw[h4];rfl)|(rw[h5];rfl),?_⟩;first|omega|(have q:=u9 (fun w hw=>(hh2 w hw).2) (a++[58]);grind)):(mY (a++[(58:UInt8)]) u.head=bif au (0:Int) (Int.ofNat u.head.length)then mY (a++[(58:UInt8)]) u.head else a)/\List.length (mY (a++[(58:UInt8)]) u.head)<=6700)) fun h3=>Mf<|b a (by(refine⟨by first|simp_all|(rw[h2];rfl)|(rw[h4];rfl)|(rw[h5];rfl),?_⟩;first|omega|(have q:=u9 (fun w hw=>(hh2 w hw).2) (a++[58]);simp only[lA,lC,lN]at q;omega)):(a=bif au (0:Int) (Int.ofNat u.head.length)then mY (a++[(58:UInt8)]) u.head else a)/\List.length a<=6700)) fun b hz27=>have hz27:(b=bif au (0:Int) (Int.ofNat u.head.length)then mY (a++[(58:UInt8)]) u.head else a)/\List.length b<=6700:=hz27;Kl 2 35 (ln aQ u.words)<|Kb 0 (au 0<|Int.ofNat u.words.length) (fun h4=>Kv 0 (iP (s:=b) (u:=[32,124]) (H:=aa q1) (by(first|first|assumption|((try simp only[lA,lC,lN]);omega)|(simp only[lA,lC,lN]at *;omega)):(b).length+([32,124]).length<=2^62))<|Kp 1 (hp2 (b++[32,124])<|by first|assumption|((try simp only[lA,lC,lN]);omega))<|Kf 2<|Le.str<|rr0<|mY (b++[32,124]) u.words) fun h4=>Kf 1<|Le.str<|rr0 b
theorem Lf(u:TUnit)(d:Nat)(hd:d<=2^20)(h:rT u):kP 320 [eU u,nV d] (.str (gZ u d)):=by
  grind[XQ,W9]
noncomputable abbrev H2(ep n:Nat):AObj:=.row 1 false 0 [.slice 2 ep 0 n none]
noncomputable abbrev ED:AObj:=.row 1 false 0 [.func (.func 319) [] [.ptr 0 0 0 0,.ptr 1 0 0 0]]
noncomputable abbrev Fh(ep:Nat)(l:List aP):AObj:=.row 1 true ep (l.map nW)
def sM(u:TUnit)(d:Nat)(l:List aP)(x0:Nat×List TUnit×Nat×Nat×List aP):Prop:=(u.kids).drop x0.1=x0.2.1/\x0.2.2.2.1=x0.2.2.2.2.length/\x0.2.2.2.2++dW (d+(1:Nat)) x0.2.1=l++[gZ u d]++dW (d+(1:Nat)) u.kids/\x0.2.2.2.2.length+eQ x0.2.1<=2^20
noncomputable def sL(u:TUnit)(d:Nat)(l:List aP)(x0:Nat×List TUnit×Nat×Nat×List aP):List AV×List AObj:=([nV d,AV.ptr 1 0 0 0,AV.ls (u.kids.map aU),nV u.kids.length,nV x0.1],[AObj.row 1 false 0 [AV.slice 2 x0.2.2.1 0 x0.2.2.2.1 none],AObj.row 1 false 0 [AV.func (Fn.func 319) [] [AV.ptr 0 0 0 0,AV.ptr 1 0 0 0]],AObj.row 1 true x0.2.2.1 (x0.2.2.2.2.map nW)])
theorem Y6:∀(u:TUnit)(d ep n:Nat)(l:List aP),n=l.length->l.length+nU u<=2^20->d+nU u<=2^20->(∀x,x∈bU u->rT x)->kC 319 [eU u,nV d,.ptr 0 0 0 0,.ptr 1 0 0 0] (aa [H2 ep n,ED,Fh ep l])
    (fun v h=>∃y:Nat×Nat×List aP,(y.2.1=y.2.2.length/\y.2.2=l++eX d u)/\v=.tuple []/\h=aa [H2 y.1 y.2.1,ED,Fh y.1 y.2.2]):=by
  refine TUnit.ind fun u ih d ep n l hn hl hd ht=>?_
  have hq:=jQ u
  have hkl:=bg u
  have hf:=Lf u d (by omega) (ht u (cS u))
  have ihk:∀k,k∈u.kids->∀(d ep n:Nat)(l:List aP),n=l.length->l.length+nU k<=2^20->d+nU k<=2^20->kC 319 [eU k,nV d,.ptr 0 0 0 0,.ptr 1 0 0 0] (aa [H2 ep n,ED,Fh ep l])
    (fun v h=>∃y:Nat×Nat×List aP,(y.2.1=y.2.2.length/\y.2.2=l++eX d k)/\v=.tuple []/\h=aa [H2 y.1 y.2.1,ED,Fh y.1 y.2.2]):=fun k hk d ep n l a b c=>ih k hk d ep n l a b c (fun x hx=>ht x (bv hk hx))
  exact qY Tryz.func319 fun e=>Kp 3 hf<|Mg 0<|Mw (.apx ((l++[gZ u d]).map nW)<|.go 3<|.le 16 (nV u.kids.length)<|.go 0<|.frz 3 [1,3,15,16,17]<|.loop (Nat×List TUnit×Nat×Nat×List aP) [1,3,15,16,17] (sL u d l) (sM u d l) (fun e=>e.2.1.length) (0,u.kids,(ep+1,n+1,l++[gZ u d])) fun e=>.cs TUnit e.2.1 (.go 0<|.ff .fin) fun f _=>.go 0<|.tt<|.elem (eU f)<|.go 6<|.le 24 (nV<|d+1)<|.frz 3 [1,3,15,16,17,21,22,24]<|.eff (Nat×Nat×List aP) (fun _=>b8 []) (fun e=>aa [H2 e.1 e.2.1,ED,Fh e.1 e.2.2]) (fun g=>g.2.1=g.2.2.length/\g.2.2=e.2.2.2.2++eX (d+1) f) fun _=>.go 0<|.le 26 (nV<|e.1+1)<|.go 0 .fin)<|et9 rt (iY (tR 1 true ep 4<|aX JC l) rt) (et (j5 _ _:([ax (gZ u d)]:List AV)≠[]) rt) (et (co (aJ ep) (by first|assumption|omega|simp_all|(refine aD (m:=2^31) ?_ ?_ ?_<;>(try simp only[lM,lC,lN])<;>omega):n=(l.map nW).length) (by first|assumption|omega|(simp only[lM];omega)|(refine aD (m:=2^31) ?_ ?_ ?_<;>(try simp only[lM,lC,lN])<;>omega):small (n+([AV.str (gZ u d)]).length) 16=true))<|dw (f:=nW) (l:=l) (ws:=[gZ u d])) (ln aU u.kids) (ju (tR 1 true (ep+1) 3<|aX JC<|l++[gZ u d]) rt rt ti) (aJ<|sL u d l (0,u.kids,(ep+1,n+1,l++[gZ u d]))) (et (rfl:List.drop 0 (u.kids)=u.kids) (by first|rfl|(first|grind|(have h1:=hj0.2.1;have h2:=hj0.2.2;rw[bf]at h2;rw[mb]at h1;exact⟨hy1.1,(by rw[hy1.2,<-h1];simp),(by rw[hy1.2,lA,kS];omega)⟩)):(n+1=(l++[gZ u d]).length/\l++[gZ u d]++dW (d+1) u.kids=l++[gZ u d]++dW (d+1) u.kids/\(l++[gZ u d]).length+eQ u.kids<=2^20))) fun(f:Nat×List TUnit×Nat×Nat×List aP)(g:(sM u d l) f)=>et (fun(i:f.2.1=[])=>have j:=gx g.1 i;have:=jJ (J:=fun e f=>f.2.1=f.2.2.length/\f.2.2++dW (d+1) e=l++[gZ u d]++dW (d+1) u.kids/\f.2.2.length+eQ e<=2^20) (a:=f.2.2) i g.2;et j<|e (f.2.2.1,f.2.2.2.1,f.2.2.2.2)<|by first|grind[wE,CD]|rfl) fun(e:TUnit)(i:List TUnit)(j:f.2.1=e::i)=>have o:=gc g.1 j;have:=ap o;have p:=(gz (enc:=aU) g.1 j).trans<|congrArg some<|aO e;have:=cT (J:=fun e f=>f.2.1=f.2.2.length/\f.2.2++dW (d+1) e=l++[gZ u d]++dW (d+1) u.kids/\f.2.2.length+eQ e<=2^20) (a:=f.2.2) j g.2;have q:=aN g.1 j;have r:f.2.2.2.2.length+nU e<=2^20:=(by grind[bf]);have s:d+1+nU e<=2^20:=(by have:=ig q;omega);yK o p (iT d) (ju (tR 1 true f.2.2.1 3<|aX JC f.2.2.2.2) rt rt ti) (ihk e q (d+1) f.2.2.1 f.2.2.2.1 f.2.2.2.2 (by first|assumption|omega|(simp only[lM];omega)|(refine aD (m:=2^31) ?_ ?_ ?_<;>(try simp only[lM,lC,lN])<;>omega)) r s) fun(o:Nat×Nat×List aP)(_:o.2.1=o.2.2.length/\o.2.2=f.2.2.2.2++eX (d+1) e)=>et (iT f.1)<|Nx.mk (I:=sM u d l) (m:=fun e=>e.2.1.length) (S:=sL u d l) (x:=f) (f.1+1,i,(o.1,o.2.1,o.2.2)) (et (bN g.1 j) (by first|exact⟨by simp[hn],rfl,by simp;omega⟩|grind[bf,mb,kS]:(o.2.1=o.2.2.length/\o.2.2++dW (d+1) i=l++[gZ u d]++dW (d+1) u.kids/\o.2.2.length+eQ i<=2^20)))<|fF j
theorem Y7(u:TUnit)(d:Nat)(hl:nU u<=2^19)(hd:d+nU u<=2^20)(ht:∀x,x∈bU u->rT x):kC 319 [eU u,nV d,.ptr 0 0 0 0,.ptr 1 0 0 0] (aa [.row 1 false 0 [.nils],ED])
    (fun v h=>∃y:Nat×Nat×List aP,(y.2.1=y.2.2.length/\y.2.2=eX d u)/\v=.tuple []/\h=aa [H2 y.1 y.2.1,ED,Fh y.1 y.2.2]):=by
  have hq:=jQ u
  have hkl:=bg u
  have hf:=Lf u d (by omega) (ht u (cS u))
  have ihk:∀k,k∈u.kids->∀(d ep n:Nat)(l:List aP),n=l.length->l.length+nU k<=2^20->d+nU k<=2^20->kC 319 [eU k,nV d,.ptr 0 0 0 0,.ptr 1 0 0 0] (aa [H2 ep n,ED,Fh ep l])
    (fun v h=>∃y:Nat×Nat×List aP,(y.2.1=y.2.2.length/\y.2.2=l++eX d k)/\v=.tuple []/\h=aa [H2 y.1 y.2.1,ED,Fh y.1 y.2.2]):=fun k hk d ep n l a b c=>Y6 k d ep n l a b c (fun x hx=>ht x (bv hk hx))
  exact qY Tryz.func319 fun e=>Kp 3 hf<|Kl 5 16 (ln aU u.kids)<|Mg 0<|M0 (.ren [0,1,3,2] [] [1,3,15,16,17])<|M1 (.frz 3 [1,3,15,16,17]) (ju rt rt rt ti)<|Vn aU u.kids (0:Nat) (1:Nat) ([gZ u d]:List aP) [1,3,15,16,17] (fun e _ f g i=>([nV d,bX 1 0 0 0,aW<|u.kids.map aU,nV u.kids.length,nV e],[aZ 1 false 0 [aH 2 f 0 g none],aZ 1 false 0 [bV (bK 319) [] [bX 0 0 0 0,bX 1 0 0 0]],aZ 1 true f<|i.map nW])) (fun e _ f g=>f=g.length/\g++dW (d+1) e=[gZ u d]++dW (d+1) u.kids/\g.length+eQ e<=2^20) (by first|rfl|(first|grind|(have h1:=hj0.2.1;have h2:=hj0.2.2;rw[bf]at h2;rw[mb]at h1;exact⟨hy1.1,(by rw[hy1.2,<-h1];simp),(by rw[hy1.2,lA,kS];omega)⟩))) (fun _ _ f g i _ _ _ j _=>Kh 0 j<|Mf<|e (f,g,i)<|by first|grind[wE,CD]|rfl) fun e _ f g i j m o p q r s _ t _=>have t:=(t).trans<|congrArg some<|aO o;have:=cT (J:=fun e f=>f.2.1=f.2.2.length/\f.2.2++dW (d+1) e=[gZ u d]++dW (d+1) u.kids/\f.2.2.length+eQ e<=2^20) (a:=(f,g,i)) r m;have j:=aN j r;have m:i.length+nU o<=2^20:=(by grind[bf]);have r:d+1+nU o<=2^20:=(by have:=ig j;omega);Kt 0 s<|Mx t<|Kl 6 24 (iT d)<|M1 (.frz 3 [1,3,15,16,17,21,22,24]) (ju (tR 1 true f 3<|aX JC i) rt rt ti)<|Mq (ihk o j (d+1) f g i (by first|assumption|omega) m r) fun f _=>Kl 0 26 (iT e)<|Kf 0<|q f.1 f.2.1 f.2.2<|by first|exact⟨by simp[hl],rfl,by simp;omega⟩|grind[bf,mb,kS]
theorem W8(u:TUnit)(h:mF u)(hv:kL (cR u)=false):kP 287 [eU u] (.ls (([]:List aP).map nW)):=by
  have h1:=Do u h
  have h2:=xD (cR u) (sd h)
  exact bB Tryz.func287<|Kp 2 h1<|Mp h2<|Kt 0 (cM hv)<|Kf 0 bA
theorem W7(u:TUnit)(h:mF u)(hv:kL (cR u)=true):kP 287 [eU u] (.ls ((eX 0 u).map nW)):=by
  have h1:=Do u h
  have h2:=xD (cR u) (sd h)
  have h3:=Y7 u 0 h.1 (by have:=h.1;omega) h.2
  have rr0 b' (h:((eX 0 u).map nW)=b':=by first|rfl|(rw[hy0.2])):=h;exact bB Tryz.func287<|Kp 2 h1<|Mp h2<|Kh 0 (ca hv)<|Mg 5<|M0 (.ren [1,2,0] [] [3,10,11])<|M1 (.frz 2 [3,10,11]) (co rt rt ti)<|Mq h3 fun a hy0=>Mg 1<|M2 (.fsl 0 [] 2<|a.2.2.map nW) ti (co (aJ a.1) (tA nW a.2.2 a.2.1 (by first|assumption|omega:(a.2.2).length=a.2.1))<|aX JC a.2.2)<|Ml 2 (fw (a.2.2.map nW) false<|aX JC a.2.2)<|Mf<|cY<|rr0<|a.2.2.map nW
theorem ZV(u:TUnit)(h:mF u)(hv:kL (cR u)=false):kP 254 [eU u] (.tuple [.str (xo u).1,iV (xo u).2]):=by
  have h1:=W8 u h hv
  have e:xo u=([],1):=by unfold xo;simp_all
  rw[e]
  exact bB Tryz.func254<|Kp 3 h1<|Kf 6<|bx<|b8 [ax [],iV 1]
theorem ZK(u:TUnit)(h:mF u)(hv:kL (cR u)=true):kP 254 [eU u] (.tuple [.str (xo u).1,iV (xo u).2]):=by
  have h1:=W7 u h hv
  have hlen:=kS 0 u
  have hq:=jQ u
  have hm:=h.1
  have hjl:=Qs (sep:=[10]) (B:=2^14) (l:=eX 0 u) (fun s hs=>zS 0 u s hs)
  rw[hlen]at hjl
  have hj2:(Lib.join (eX 0 u) [10]).length<=140737488355328:=bH hjl (bH (ef _ hm) (by grind))
  have hj3:(Lib.join (eX 0 u) [10]).length<=2^40:=bH hjl (bH (ef _ hm) (by grind))
  have hj:=UJ (eX 0 u) [10] (by omega) hj2
  have hz:ab (.ofNat (eX 0 u).length) 0=false:=by grind[Rt]
  have e:xo u=(bif au 16384 (.ofNat (Lib.join (eX 0 u) [10]++[10]).length)then([],6)else(Lib.join (eX 0 u) [10]++[10],0)):=by unfold xo;simp_all
  rw[e]
  clear e
  generalize Lib.join (eX 0 u) [10]=J at *
  cases hb:au 16384 (.ofNat (J++[10]).length)
  · have hb2:au 16384 (.ofNat (J++[10]).length)=false:=hb
    exact bB Tryz.func254<|Kp 3 h1<|Kl 2 9 (ln nW<|eX 0 u)<|Kh 0 hz<|Kp 0 hj<|Mv (iP (s:=J) (u:=[10]) (H:=aa [aZ 8 false 0 [av [iV u.act,iV u.item,iV u.n,iV u.kind,ax u.label,aW<|u.head.map aQ,aW<|u.words.map aQ,aW<|u.kids.map aU]]]) (by(first|first|assumption|grind|omega|(simp only[lA,lC,lN]at *;omega)):(J).length+([10]).length<=2^62))<|Kh 3 hb<|Kf 2<|bx<|b8 [ax<|J++[10],iV 0]
  · have hb2:au 16384 (.ofNat (J++[10]).length)=true:=hb
    exact bB Tryz.func254<|Kp 3 h1<|Kl 2 9 (ln nW<|eX 0 u)<|Kh 0 hz<|Kp 0 hj<|Mv (iP (s:=J) (u:=[10]) (H:=aa [aZ 8 false 0 [av [iV u.act,iV u.item,iV u.n,iV u.kind,ax u.label,aW<|u.head.map aQ,aW<|u.words.map aQ,aW<|u.kids.map aU]]]) (by(first|first|assumption|grind|omega|(simp only[lA,lC,lN]at *;omega)):(J).length+([10]).length<=2^62))<|Kt 3 hb<|Kf 1<|bx<|b8 [ax [],iV 6]
theorem Xf(u:TUnit)(h:mF u):kP 254 [eU u] (.tuple [.str (xo u).1,iV (xo u).2]):=by
  grind[ZV,ZK]
def XK(u:TUnit):Bool:=H4 u&&(aj (ab u.kind 0)&&ab (xo u).2 0)
theorem XJ(u:TUnit)(h:mF u):kP 190 [eU u] (.bool (XK u)):=by
  have q1:=Xf u h
  have q2:=X8 u h
  have rr0 b' (h:(XK u)=b':=by first|rfl|(unfold XK;rw[h0];rfl)|(unfold XK;rw[h0,h1];rfl)|(unfold XK;rw[h0,h1,h2];rfl)):=h;exact bB Tryz.func190<|Kp 2 q1<|Kp 5 q2<|Kb 0 (H4 u) (fun h0=>Kt 0 h0<|Kt 0 h0<|Ku 0 h0<|Kn 0 (ab u.kind 0) (fun h1=>Kt 0 (cM h1)<|Ku 0 (cM h1)<|Kf 0<|cC<|rr0<|ab (xo u).2 0) fun h1=>Mh (ca h1)<|My (ca h1)<|Ky 0<|rr0 false) fun h0=>Mh h0<|Mh h0<|My h0<|Ky 2<|rr0 false
def vg(x:PItem):Prop:=nc x/\(x.at_.length<2^40/\∀s,s∈x.at_->s.label.length<=2^39)/\(x.to.length<2^40/\∀s,s∈x.to->s.label.length<=2^39)/\(x.old.length<2^40/\∀s,s∈x.old->s.length<=2^39)/\(x.new.length<2^40/\∀s,s∈x.new->s.length<=2^39)/\x.label.length<=2^39/\x.for_.length<=2^39/\x.start.event.length<=2^39/\mF x.unit
def Aj(x:PItem):Prop:=(x.kind=0\/x.kind=6->ia x.where_=true)/\(x.kind=0->XK x.unit=true)/\(x.kind=2\/x.kind=3->qc x.old=true/\Bo x.nth_=true)/\(x.kind=2\/x.kind=3\/x.kind=4->qc x.new=true)
theorem qv{l:List aP}{n:Int}(h:qa l n=true):qc l=true:=by
  simp_all[qa]
theorem WY(x:PItem)(hx:vg x)(h0:0<=x.kind)(h6:x.kind<=6):∃b,kP 93 [eI x] (.bool b)/\(b=true->Aj x):=by
  obtain⟨k,a,t,w,n,u,o,ne,l,f,s,ac,im,d,e,bs⟩:=x
  obtain⟨hf,⟨ha,has⟩,⟨ht,hts⟩,⟨ho,hos⟩,⟨hn,hns⟩,hl,hfo,hse,hu⟩:=hx
  have hz:sS bd:=⟨by grind,by grind,by grind,trivial⟩
  have n0:(0:Nat)<2^60:=by omega
  obtain⟨f1,f2,f3,f4,f5,f6,f7⟩:=hf
  have hff:∀k w n,nc ⟨k,a,t,w,n,u,o,ne,l,f,s,ac,im,d,e,bs⟩:=fun _ _ _=>⟨f1,f2,f3,f4,f5,f6,f7⟩
  have h0:0<=k:=h0
  have h6:k<=6:=h6
  have hk:k=0\/k=1\/k=2\/k=3\/k=4\/k=5\/k=6:=by omega
  rcases hk with rfl|rfl|rfl|rfl|rfl|rfl|rfl
  · refine⟨_,oS ⟨0,a,t,w,n,u,o,ne,l,f,s,ac,im,d,e,bs⟩ (n8 ⟨0,a,t,w,n,u,o,ne,l,f,s,ac,im,d,e,bs⟩ 0) 187 188 _ _ rfl rfl (U8 _) (sR _ (hff _ _ _) (wP ⟨0,a,t,w,n,u,o,ne,l,f,s,ac,im,d,e,bs⟩ (n8 ⟨0,a,t,w,n,u,o,ne,l,f,s,ac,im,d,e,bs⟩ 0)) ⟨f1,n0,n0,n0,n0,f6,trivial⟩) (T7 a t w n u o ne l f s ac im d e bs (XK u) (XJ u hu)) ha has hfo hse,fun h=>?_⟩
    simp only[bq]at h
    exact⟨fun _=>h.2.2.2.2.1,fun _=>h.2.2.2.2.2,fun q=>(by rcases q with q|q<;>cases q),fun q=>(by rcases q with q|q|q<;>cases q)⟩
  · refine⟨_,oS ⟨1,a,t,w,n,u,o,ne,l,f,s,ac,im,d,e,bs⟩ (n8 ⟨1,a,t,w,n,u,o,ne,l,f,s,ac,im,d,e,bs⟩ 1) 191 192 _ _ rfl rfl (U7 _) (sR _ (hff _ _ _) (wP ⟨1,a,t,w,n,u,o,ne,l,f,s,ac,im,d,e,bs⟩ (n8 ⟨1,a,t,w,n,u,o,ne,l,f,s,ac,im,d,e,bs⟩ 1)) ⟨f1,n0,n0,n0,n0,hz,trivial⟩) (T6 a t w n u o ne l f s ac im d e bs) ha has hfo hse,fun h=>?_⟩
    exact⟨fun q=>(by rcases q with q|q<;>cases q),fun q=>(by cases q),fun q=>(by rcases q with q|q<;>cases q),fun q=>(by rcases q with q|q|q<;>cases q)⟩
  · refine⟨_,oS ⟨2,a,t,w,n,u,o,ne,l,f,s,ac,im,d,e,bs⟩ (n8 ⟨2,a,t,w,n,u,o,ne,l,f,s,ac,im,d,e,bs⟩ 2) 193 194 _ _ rfl rfl (U6 _) (sR _ (hff _ _ _) (wP ⟨2,a,t,w,n,u,o,ne,l,f,s,ac,im,d,e,bs⟩ (n8 ⟨2,a,t,w,n,u,o,ne,l,f,s,ac,im,d,e,bs⟩ 2)) ⟨f1,n0,f3,f4,n0,hz,trivial⟩) (T5 a t w n u o ne l f s ac im d e bs ho hn hos hns) ha has hfo hse,fun h=>?_⟩
    simp only[bq]at h
    exact⟨fun q=>(by rcases q with q|q<;>cases q),fun q=>(by cases q),fun _=>⟨qv h.2.2.2.2.1,h.2.2.2.2.2.2⟩,fun _=>qv h.2.2.2.2.2.1⟩
  · refine⟨_,oS ⟨3,a,t,w,n,u,o,ne,l,f,s,ac,im,d,e,bs⟩ (n8 ⟨3,a,t,w,n,u,o,ne,l,f,s,ac,im,d,e,bs⟩ 3) 197 198 _ _ rfl rfl (U5 _) (sR _ (hff _ _ _) (wP ⟨3,a,t,w,n,u,o,ne,l,f,s,ac,im,d,e,bs⟩ (n8 ⟨3,a,t,w,n,u,o,ne,l,f,s,ac,im,d,e,bs⟩ 3)) ⟨f1,n0,f3,f4,n0,hz,trivial⟩) (T4 a t w n u o ne l f s ac im d e bs ho hn hos hns) ha has hfo hse,fun h=>?_⟩
    simp only[bq]at h
    exact⟨fun q=>(by rcases q with q|q<;>cases q),fun q=>(by cases q),fun _=>⟨qv h.2.2.2.2.1,h.2.2.2.2.2.2.1⟩,fun _=>qv h.2.2.2.2.2.1⟩
  · refine⟨_,oS ⟨4,a,t,w,n,u,o,ne,l,f,s,ac,im,d,e,bs⟩ (n8 ⟨4,a,t,w,n,u,o,ne,l,f,s,ac,im,d,e,bs⟩ 4) 199 200 _ _ rfl rfl (U4 _) (sR _ (hff _ _ _) (wP ⟨4,a,t,w,n,u,o,ne,l,f,s,ac,im,d,e,bs⟩ (n8 ⟨4,a,t,w,n,u,o,ne,l,f,s,ac,im,d,e,bs⟩ 4)) ⟨f1,n0,n0,f4,n0,hz,trivial⟩) (T3 a t w n u o ne l f s ac im d e bs hn hns) ha has hfo hse,fun h=>?_⟩
    simp only[bq]at h
    exact⟨fun q=>(by rcases q with q|q<;>cases q),fun q=>(by cases q),fun q=>(by rcases q with q|q<;>cases q),fun _=>qv h.2.2.2.2⟩
  · refine⟨_,oS ⟨5,a,t,w,n,u,o,ne,l,f,s,ac,im,d,e,bs⟩ (n8 ⟨5,a,t,w,n,u,o,ne,l,f,s,ac,im,d,e,bs⟩ 5) 201 202 _ _ rfl rfl (U3 _) (sR _ (hff _ _ _) (wP ⟨5,a,t,w,n,u,o,ne,l,f,s,ac,im,d,e,bs⟩ (n8 ⟨5,a,t,w,n,u,o,ne,l,f,s,ac,im,d,e,bs⟩ 5)) ⟨f1,n0,n0,n0,n0,hz,trivial⟩) (T2 a t w n u o ne l f s ac im d e bs hl) ha has hfo hse,fun h=>?_⟩
    exact⟨fun q=>(by rcases q with q|q<;>cases q),fun q=>(by cases q),fun q=>(by rcases q with q|q<;>cases q),fun q=>(by rcases q with q|q|q<;>cases q)⟩
  · refine⟨_,oS ⟨6,a,t,w,n,u,o,ne,l,f,s,ac,im,d,e,bs⟩ (n8 ⟨6,a,t,w,n,u,o,ne,l,f,s,ac,im,d,e,bs⟩ 6) 203 204 _ _ rfl rfl (U2 _) (sR _ (hff _ _ _) (wP ⟨6,a,t,w,n,u,o,ne,l,f,s,ac,im,d,e,bs⟩ (n8 ⟨6,a,t,w,n,u,o,ne,l,f,s,ac,im,d,e,bs⟩ 6)) ⟨f1,f2,n0,n0,n0,hz,trivial⟩) (T1 a t w n u o ne l f s ac im d e bs ht hts) ha has hfo hse,fun h=>?_⟩
    simp only[bq]at h
    exact⟨fun _=>h.2.2.2.2.1,fun q=>(by cases q),fun q=>(by rcases q with q|q<;>cases q),fun q=>(by rcases q with q|q|q<;>cases q)⟩
theorem wB{u:TUnit}(h:OkB u):∀x,x∈bU u->x.head.length<2^30/\x.words.length<2^30:=fun x hx=>⟨nl (h.w x hx).1 (by omega),nl (h.w x hx).2 (by omega)⟩
theorem DM(p:PId)(u:TUnit)(hn:nU u<=1024): -1<=qg p u/\qg p u<=2^20:=by
  cases h:jU p u with
  |false=>rw[P0 h];omega
  | true=>
    obtain⟨q,i,h1,_,h3,h4,_⟩:=rU u h
    have:=dA h1
    grind[bg]
theorem yZ(w:Int)(u:TUnit)(p:PId)(hn:nU u<=1024): -1<=(cq w u p).1.at_/\(cq w u p).1.at_<=2^41:=by
  have hb:=DM p u hn
  have key:∀n:Int,0<=n->n<=1-> -1<=(ki u p n).1.at_/\(ki u p n).1.at_<=2^41:=fun n h0 h1=>by
    unfold ki
    cases jU p u
    · exact⟨by show(-1:Int)<=0;omega,by show(0:Int)<=_;omega⟩
    grind
  unfold cq
  cases ab w 0
  · cases ab w 1
    · grind
    · show -1<=Int.ofNat _/\Int.ofNat _<=2^41
      have:(bT p u).kids.length<=1024:=by
        cases h:bp p u with
        | true=>
          have:=dA (jK h).1
          grind[bg]
        |false=>unfold bT;rw[h];exact bE _
      grind
  simp_all
theorem pb{u:TUnit}(hu:OkB u)(p:PId):kP 21 [eU u,aV p] (.tuple [eU (bT p u),.bool (bp p u)]):=Rc p u (bH hu.n (by omega)) (wB hu)
theorem kK{u:TUnit}(hu:OkB u)(p:PId):kP 184 [eU u,aV p] (.tuple [aV (rE p u),iV (qg p u),.bool (jU p u)]):=PR p u (bH hu.n (by omega))
theorem tL{u:TUnit}(hu:OkB u)(p:List PStep)(hp:p.length<2^40/\∀s,s∈p->s.label.length<=2^39):kP 14 [eU u,.ls (p.map az)] (.tuple [aV (ar u p).1,iV (ar u p).2]):=
  NS u p (Uu u p (bH hu.n (by omega)) hp.1 hp.2) (bH hu.n (by omega))
theorem Lm{u:TUnit}(hu:OkB u)(p:PId):kP 308 [eU u,aV p] (.tuple [fU (cq 0 u p).1,iV (cq 0 u p).2]):=Qo u _ p _ (pb hu p)
theorem Ll{u:TUnit}(hu:OkB u)(p:PId):kP 311 [eU u,aV p] (.tuple [fU (cq 1 u p).1,iV (cq 1 u p).2]):=Qn u _ p _ (pb hu p)
theorem Li{u:TUnit}(hu:OkB u)(p:PId):kP 313 [eU u,aV p] (.tuple [fU (cq 2 u p).1,iV (cq 2 u p).2]):=Qm u p _ _ _ (kK hu p) (by have:=DM p u hu.n;omega)
theorem Lh{u:TUnit}(hu:OkB u)(p:PId):kP 315 [eU u,aV p] (.tuple [fU (cq 3 u p).1,iV (cq 3 u p).2]):=Ql u p _ _ _ (kK hu p) (by have:=DM p u hu.n;omega)
theorem wj{w:Int}(h:ia w=true):w=0\/w=1\/w=2\/w=3:=by
  unfold ia at h
  rw[bq]at h
  have h1:=gd h.1
  have h2:=gd h.2
  omega
theorem To{u:TUnit}(hu:OkB u)(p:List PStep)(hp:p.length<2^40/\∀s,s∈p->s.label.length<=2^39)(w:Int)(hw:ia w=true):kP 234 [eU u,.ls (p.map az),iV w]
    (.tuple [aV (Cy (ar u p).2 (cq w u (ar u p).1).1 (cq w u (ar u p).1).2).1.id,iV (Cy (ar u p).2 (cq w u (ar u p).1).1 (cq w u (ar u p).1).2).1.at_,iV (Cy (ar u p).2 (cq w u (ar u p).1).1 (cq w u (ar u p).1).2).2]):=by
  rcases wj hw with rfl|rfl|rfl|rfl
  · exact rY 0 _ rfl rfl u p _ _ _ _ (tL hu p hp) (Lm hu _)
  · exact rY 1 _ rfl rfl u p _ _ _ _ (tL hu p hp) (Ll hu _)
  · exact rY 2 _ rfl rfl u p _ _ _ _ (tL hu p hp) (Li hu _)
  · exact rY 3 _ rfl rfl u p _ _ _ _ (tL hu p hp) (Lh hu _)
theorem Xa{u:TUnit}(hu:OkB u)(p q:PId)(w:Int)(hw:ia w=true):∃bs,kP 236 [eU u,aV p,aV q,iV w]
    (.tuple [fU (nb p q (rE p u) (qg p u) (jU p u) ((mg q u).any (bW p)) bs (cq w u q).1 (cq w u q).2).1,iV (nb p q (rE p u) (qg p u) (jU p u) ((mg q u).any (bW p)) bs (cq w u q).1 (cq w u q).2).2]):=by
  have hb:=DM p u hu.n
  have hb: -1<=qg p u/\qg p u<=2^40:=by omega
  have hn:nU u<=2^20:=bH hu.n (by omega)
  have hal:(mg q u).length<2^40:=by
    grind[mj,mg]
  have hC:=yz (mg q u) p hal
  rcases wj hw with rfl|rfl|rfl|rfl
  · exact⟨_,G0 0 _ rfl rfl rfl u p q _ _ _ _ _ _ _ hb (yZ 0 u q hu.n) (kK hu p) (H9 q u hn) hC (Lm hu q)⟩
  · exact⟨_,G0 1 _ rfl rfl rfl u p q _ _ _ _ _ _ _ hb (yZ 1 u q hu.n) (kK hu p) (H9 q u hn) hC (Ll hu q)⟩
  · exact⟨_,Q9 u p q _ _ _ _ _ _ _ hb (yZ 2 u q hu.n) (kK hu p) (H9 q u hn) hC (Li hu q)⟩
  · exact⟨_,Q8 u p q _ _ _ _ _ _ _ hb (yZ 3 u q hu.n) (kK hu p) (H9 q u hn) hC (Lh hu q)⟩
theorem HZ{B:Nat}:∀{l:List TUnit},(∀x,x∈l->(nr x).length<=B)->(l.flatMap nr).length<=B*l.length
  |[],_=>bE _
  | x::r,h=>by
    have h1:=h x eF
    have h2:=HZ (l:=r) fun y hy=>h y (eG _ hy)
    rw[BD,lA,lC,Nat.mul_succ];omega
theorem Ff{u:TUnit}(h:mF u):(ny u).length<=2^29:=by
  rw[Sr]
  have h1:∀x,x∈bU u->(nr x).length<=600:=fun x hx=>by
    obtain⟨a,b,_⟩:=h.2 x hx
    unfold nr;rw[lA];omega
  have h2:=HZ h1
  have h3:(bU u).length=nU u:=by rw[kY];unfold cH;rw[lM]
  rw[h3]at h2
  have:=h.1
  omega
theorem YG{e:Int}{sp:PSpot}{e2:Int}(h:(Cy e sp e2).2=0):e=0/\e2=0/\(Cy e sp e2).1=sp:=by
  unfold Cy at h ⊢
  cases h1:ab e 0 with
  |false=>rw[h1]at h;rw[show e=0 from h]at h1;cases h1
  | true=>
    rw[h1]at h
    cases h2:ab e2 0 with
    |false=>rw[h2]at h;rw[show e2=0 from h]at h2;cases h2
    |true=>exact⟨iB h1,iB h2,rfl⟩
theorem Ux{u u2:TUnit}{te:Int}{full cf:Bool}:(NG u te full cf u2).1=u\/(full=false/\cf=false/\NG u te full cf u2=(u2,0)):=by
  unfold NG;cases ab te 0<;>cases full<;>cases cf<;>first|exact .inl rfl|exact .inr ⟨rfl,rfl,rfl⟩
noncomputable def ng(u:TUnit)(d:PDeed):List PId:=bif ab d.it.kind 0 then cH (cD d.act d.item d.it.unit 0 0)else bif ab d.it.kind 1 then cH (bT (ar u d.it.at_).1 u)else[(ar u d.it.at_).1]
noncomputable def s9(u:TUnit)(d:PDeed)(e:Int):List PId:=bif ab e 0 then ng u d else[]
def Bk(u:TUnit)(d:PDeed)(r:oG):Prop:=OkB r.1/\Un (s9 u d r.2) u r.1
theorem Bk.no{u:TUnit}(hu:OkB u){d:PDeed}{r:oG}(h:r.1=u):Bk u d r:=by unfold Bk;rw[h];exact⟨hu,.refl⟩
theorem Bk.refl{u:TUnit}(hu:OkB u){d:PDeed}{e:Int}:Bk u d (u,e):=.no hu rfl
theorem VS{u:TUnit}(hu:OkB u)(f:TUnit)(d:PDeed)(hd:vg d.it)(hg:Aj d.it)(hk:d.it.kind=0):∃r:oG,kP 126 [eU u,eU f,aK d] (eC r)/\Bk u d r:=by
  have hw:=hg.1 (.inl hk)
  have hD:=RI u d.it _ _ _ (by rw[hk];rfl) (To hu d.it.at_ hd.2.1 d.it.where_ hw)
  cases he:ab (Cy (ar u d.it.at_).2 (cq d.it.where_ u (ar u d.it.at_).1).1 (cq d.it.where_ u (ar u d.it.at_).1).2).2 0 with
  |false=>exact⟨(u,_),Uk u f d _ _ _ he hD,.refl hu⟩
  | true=>
    have e0:=iB he
    obtain⟨e1,e2,e3⟩:=YG e0
    obtain⟨n,n1,n2,n3⟩:=Gl hu (nF e1) e2
    rw[e0,e3,n1]at hD
    have ht:=hd.2.2.2.2.2.2.2.2
    have hS:=Fo d.act d.item d.it.unit (bH ht.1 (by decide)) (Ff ht) (fun x hx=>⟨bH (ht.2 x hx).1 (by decide),bH (ht.2 x hx).2.1 (by decide)⟩)
    have hsn:=yO d.act d.item d.it.unit 0 0
    have hsi:=vU d.act d.item d.it.unit 0 0
    have hsw:=KD d.act d.item 300 d.it.unit 0 0 (fun x hx=>⟨(ht.2 x hx).1,(ht.2 x hx).2.1⟩)
    have hA:ng u d=cH (cD d.act d.item d.it.unit 0 0):=by unfold ng;rw[hk];rfl
    generalize cD d.act d.item d.it.unit 0 0=X at *
    have hn:=hu.n
    have hm:=ht.1
    have hX:nU X<=2^19:=by omega
    have hkp:(bT (cq d.it.where_ u (ar u d.it.at_).1).1.id u).kids.length<2^40:=by
      cases h:bp (cq d.it.where_ u (ar u d.it.at_).1).1.id u with
      |true=>have:=dA (jK h).1;have:=bg (bT (cq d.it.where_ u (ar u d.it.at_).1).1.id u);omega
      |false=>unfold bT;rw[h];exact nl (bE 0) (by decide)
    have hiu:(cH u).length<2^40:=by rw[<-kY];omega
    have hix:(cH X).length<2^40:=by rw[<-kY];omega
    refine⟨_,UU u f _ X _ d _ n (nU u) (nU X) _ _ _ _ (cH u) (cH X) (by omega) (by omega) hD (pb hu _) hS (yE _ X hkp) (L2 u X _ (by omega) (by omega)) (En u (by omega)) (En X (by omega)) (GM u (by omega)) (GM X (by omega)) (cfX (cH X) (cH u) hiu hix) (O5 _ n X u (by omega) (wB hu) n3),?_⟩
    rcases Ux (u:=u) (u2:=cW (cq d.it.where_ u (ar u d.it.at_).1).1.id (dV n X) u) (te:=yF (bT (cq d.it.where_ u (ar u d.it.at_).1).1.id u) X) (full:=aj (au (Int.ofNat (bT (cq d.it.where_ u (ar u d.it.at_).1).1.id u).kids.length) 64)||(RS u (cq d.it.where_ u (ar u d.it.at_).1).1.id X||au 1024 (Int.ofNat (nU u+nU X)))) (cf:=(cH X).any fun i=>(cH u).any (bW i))with q|⟨q1,q2,q3⟩
    · exact .no hu q
    · rw[q3]
      rw[BN,BN]at q1
      have q4:=aB q1.2.2
      simp only[oN]at q4
      refine⟨hu.ins (by rw[hsi];exact Pd _ _ _ _) (fun p hp hq=>?_) (by omega) hsw,(by show Un (ng u d) _ _;rw[hA];exact Wj)⟩
      rw[List.any_eq_false]at q2
      have:=q2 p hp
      exact this (List.any_eq_true.2 ⟨p,hq,ip p⟩)
theorem VE{u:TUnit}(hu:OkB u){p:PId}(hp:jU p u=true):∃q i,q∈bU u/\rE p u=aI q/\qg p u=Int.ofNat i/\i<q.kids.length/\aI (gD q.kids i)=p/\kP 177 [eU u,aV p] (eU (cW (aI q) (dR i) u)):=by
  obtain⟨q,i,h1,h2,h3,h4,h5⟩:=rU u hp
  have hP:=kK hu p
  rw[h2,h3,hp]at hP
  exact⟨q,i,h1,h2,h3,h4,h5,yn u _ p _ i hP (O7 (aI q) i u (bH hu.n (by decide)) (wB hu) fun v hv hid=>by rw[hu.uni hv h1 ((fh _ v).1 hid)];exact h4)⟩
theorem YA{u x:TUnit}(hu:OkB u)(hx:x∈bU u)(d:PDeed)(hp:jU (aI x) u=true)(hA:ng u d=cH x):∃r:oG,kP 127 [eU u,eU x,aK d] (eC r)/\Bk u d r:=by
  obtain⟨q,i,h1,h2,h3,h4,h5,h6⟩:=VE hu hp
  exact⟨_,Tc u x _ d h6,(hu.del h1 h4).1,(by show Un (ng u d) _ _;rw[hA,<-hu.uni (dl h1 (bv (gY h4) (cS _))) hx h5];exact Wk hu h1 h4)⟩
theorem DH(l:List PWord):(vc l).length<=256:=by
  unfold vc
  cases h:au 256 (Int.ofNat l.length)with
  |true=>exact bE _
  |false=>have:=aB h;simp only[oN]at this;show l.length<=256;omega
theorem PA(a b:Int)(w:List PWord)(old new:List aP)(n:Int):(F4 a b w old new n).1.length<=256:=by
  unfold F4
  cases ab (Int.ofNat old.length) 0
  · cases ab (Int.ofNat (n5 (uQ (bP w) old) n).length) 0
    · exact DH _
    · exact bE _
  · exact bE _
theorem Uq(a b:Int)(w:List PWord)(part new:List aP)(n:Int):(EK a b w part new n).1.length<=256:=by
  unfold EK
  cases(ab (Int.ofNat new.length) 0||(ab (Int.ofNat part.length) 0&&aj (ab n 0)))
  · cases ab (Int.ofNat part.length) 0
    · cases ab (Int.ofNat (n5 (uQ (bP w) part) n).length) 0
      · exact DH _
      · exact bE _
    · exact DH _
  · exact bE _
theorem tg{l:List aP}(h:qc l=true):l.length<=256:=by
  unfold qc at h
  rw[bq]at h
  have:=gd h.1
  simp only[oN]at this
  omega
theorem Lx{n:Int}(h:Bo n=true):0<=n/\n<=256:=by
  unfold Bo at h
  rw[bq]at h
  exact⟨gd h.1,gd h.2⟩
theorem Ch{u:TUnit}(hu:OkB u)(q:PId){l:List PWord}(hl:l.length<=300):OkB (cW q (mz l) u):=hu.keep (fun _=>⟨rfl,rfl⟩) fun v hv=>⟨(hu.w v hv).1,hl⟩
theorem QU{u:TUnit}(hu:OkB u)(q:PId){l:List PWord}(hl:l.length<=300):OkB (cW q (Aq l) u):=hu.keep (fun _=>⟨rfl,rfl⟩) fun v hv=>⟨hl,(hu.w v hv).2⟩
theorem Ni{u:TUnit}(hu:OkB u)(q:PId)(s:aP):OkB (cW q (pj s) u):=hu.keep (fun _=>⟨rfl,rfl⟩) fun v hv=>hu.w v hv
theorem KW{u u2:TUnit}{d:PDeed}{e:Int}(h:OkB u)(h2:Bk u d (u2,0)):Bk u d (Fq u e u2):=by
  have h:∀e,Bk u d (u,e):=fun _=>.refl h
  unfold Fq;cases ab e 0;exact h _;exact h2
theorem Yz{u x:TUnit}(hu:OkB u)(hx:x∈bU u)(d:PDeed)(hA:ng u d=[aI x])(hg:Aj d.it)(hk:d.it.kind=2):∃r:oG,kP 128 [eU u,eU x,aK d] (eC r)/\Bk u d r:=by
  obtain⟨h1,h2⟩:=hg.2.2.1 (.inl hk)
  have h3:=tg h1
  have h4:=tg (hg.2.2.2 (.inl hk))
  obtain⟨h5,h6⟩:=Lx h2
  have h7:=(hu.w x hx).2
  have hR:=Tb d.act d.item x.words d.it.old d.it.new d.it.nth_ (by omega) (by omega) (by omega) h5 (by omega) (kq h5)
  exact⟨_,SM u x _ d _ _ hR (O1 (aI x) _ u (bH hu.n (by decide)) (wB hu)),KW hu ⟨Ch hu _ (bH (PA ..) (by decide)),(by show Un (ng u d) _ _;rw[hA];exact Dl fun _=>⟨rfl,rfl⟩)⟩⟩
theorem YE{u x:TUnit}(hu:OkB u)(hx:x∈bU u)(d:PDeed)(hA:ng u d=[aI x])(hg:Aj d.it)(hk:d.it.kind=3):∃r:oG,kP 129 [eU u,eU x,aK d] (eC r)/\Bk u d r:=by
  obtain⟨h1,h2⟩:=hg.2.2.1 (.inr hk)
  have h3:=tg h1
  have h4:=tg (hg.2.2.2 (.inr (.inl hk)))
  obtain⟨h5,h6⟩:=Lx h2
  have h7:=(hu.w x hx).2
  have hR:=ZQ d.act d.item x.words d.it.old d.it.new d.it.nth_ (by omega) (by omega) (by omega) h5 (by omega)
  exact⟨_,Th u x _ d _ _ hR (O3 (aI x) _ u (bH hu.n (by decide)) (wB hu)),KW hu ⟨Ch hu _ (bH (Uq ..) (by decide)),(by show Un (ng u d) _ _;rw[hA];exact Dl fun _=>⟨rfl,rfl⟩)⟩⟩
theorem ZJ{u x:TUnit}(hu:OkB u)(d:PDeed)(hA:ng u d=[aI x])(hg:Aj d.it)(hk:d.it.kind=4):∃r:oG,kP 130 [eU u,eU x,aK d] (eC r)/\Bk u d r:=by
  have h4:=tg (hg.2.2.2 (.inr (.inr hk)))
  have hM:=x9 d.it.new d.act d.item 0 (by omega) (by decide)
  exact⟨_,Uh u x _ d _ hM (O6 (aI x) _ u (bH hu.n (by decide)) (wB hu)),QU hu _ (by rw[fS];omega),(by show Un (ng u d) _ _;rw[hA];exact Dl fun _=>⟨rfl,rfl⟩)⟩
theorem VO{u:TUnit}(hu:OkB u)(p:PId):(bT p u).kids.length<2^40:=by
  have hn:=hu.n
  cases h:bp p u with
  |true=>have:=dA (jK h).1;have:=bg (bT p u);omega
  |false=>unfold bT;rw[h];exact nl (bE 0) (by decide)
theorem YC{u x:TUnit}(hu:OkB u)(d:PDeed)(hA:ng u d=[aI x]):∃r:oG,kP 131 [eU u,eU x,aK d] (eC r)/\Bk u d r:=by
  refine⟨_,Te u x _ _ d _ _ _ _ _ (kK hu (aI x)) (pb hu _) (yE _ _ (VO hu _)) (O2 (aI x) d u (bH hu.n (by decide)) (wB hu)),?_⟩
  unfold Tf
  cases ab (yF (bT (rE (aI x) u) u) (pj d.it.label x)) 10
  · exact⟨Ni hu _ _,(by show Un (ng u d) _ _;rw[hA];exact Dl fun _=>⟨rfl,rfl⟩)⟩
  · exact .refl hu
theorem TN{u u2:TUnit}{d:PDeed}{te:Int}{full:Bool}(h:OkB u)(h2:Bk u d (u2,0)):Bk u d (Qb u te full u2):=by
  have h:∀e,Bk u d (u,e):=fun _=>.refl h
  unfold Qb;cases ab te 0<;>cases full<;>first|exact h _|exact h2
theorem Zz{e2 e3:Int}{sp:PSpot}(h:(Hu 0 e2 sp e3).2=0):e2=0/\e3=0/\(Hu 0 e2 sp e3).1=sp:=by
  unfold Hu at h ⊢
  rw[show ab 0 0=true from rfl]at h ⊢
  simp only[cond_true]at h ⊢
  cases h1:ab e2 0 with
  |false=>rw[h1]at h;rw[show e2=0 from h]at h1;cases h1
  | true=>
    rw[h1]at h
    cases h2:ab e3 0 with
    |false=>rw[h2]at h;rw[show e3=0 from h]at h2;cases h2
    |true=>exact⟨iB h1,iB h2,rfl⟩
theorem Y1{u x:TUnit}(hu:OkB u)(hx:x∈bU u)(d:PDeed)(hd:vg d.it)(hg:Aj d.it)(hk:d.it.kind=6)(h0:(ar u d.it.at_).2=0)(hid:(ar u d.it.at_).1=aI x)(hp:jU (aI x) u=true):∃r:oG,kP 132 [eU u,eU x,aK d] (eC r)/\Bk u d r:=by
  have hw:=hg.1 (.inr hk)
  have hF:=tL hu d.it.at_ hd.2.1
  rw[h0,hid]at hF
  obtain⟨bs,hG⟩:=Xa hu (aI x) (ar u d.it.to).1 d.it.where_ hw
  obtain⟨q,i,h1,h2,h3,h4,h5,h6⟩:=VE hu hp
  have hD:=RH u d.it _ _ _ _ _ _ (by rw[hk];rfl) (by rw[hk];rfl) hw hF (tL hu d.it.to hd.2.2.1) hG
  rw[h2,h3,hp]at hD
  cases he:ab (Hu 0 (ar u d.it.to).2 (nb (aI x) (ar u d.it.to).1 (aI q) (Int.ofNat i) true ((mg (ar u d.it.to).1 u).any (bW (aI x))) bs (cq d.it.where_ u (ar u d.it.to).1).1 (cq d.it.where_ u (ar u d.it.to).1).2).1 (nb (aI x) (ar u d.it.to).1 (aI q) (Int.ofNat i) true ((mg (ar u d.it.to).1 u).any (bW (aI x))) bs (cq d.it.where_ u (ar u d.it.to).1).1 (cq d.it.where_ u (ar u d.it.to).1).2).2).2 0 with
  |false=>exact⟨(u,_),TO u x d _ _ _ he hD,.refl hu⟩
  | true=>
    have e0:=iB he
    obtain⟨e1,e2,e3⟩:=Zz e0
    obtain⟨n,n1,n2,n3⟩:=Q7 hu h1 h4 (nF e1) e2
    rw[e0,e3,n1]at hD
    obtain⟨hr,hpm⟩:=hu.del h1 h4
    have hkx:gD q.kids i=x:=hu.uni (dl h1 (bv (gY h4) (cS _))) hx h5
    rw[hkx]at hpm
    have hnr:=hr.n
    have hnx:=dA hx
    have hn:=hu.n
    refine⟨_,TM u x _ _ _ d _ _ n _ _ _ _ _ hD (kK hu (aI x)) h6 (pb hr _) (yE _ x (VO hr _)) (L2 _ x _ (by omega) (by omega)) (O4 _ n x _ (by omega) (wB hr) n3),TN hu ?_⟩
    have hnd:=E9.1 (hpm.nodup_iff.1 hu.nd)
    have hlen:=hpm.length_eq
    rw[lA,<-kY,<-kY,<-kY]at hlen
    exact⟨hr.ins hnd.2.1 (fun p hp hq=>hnd.2.2 p hq p hp rfl) (by omega) (fun y hy=>hu.w y (dl hx hy)),(by
      have e2:=e2
      have z:=Q6 hu h1 h4 (nF e1) (by rw[hkx];exact e2)
      rw[hkx]at z
      have y:=Wx (A:=ng u d) (j:=n) hu h1 h4 z
      rw[hkx]at y
      exact y)⟩
theorem aaj{u x:TUnit}(hu:OkB u)(hx:x∈bU u)(d:PDeed)(hd:vg d.it)(hg:Aj d.it)(hk0:0<=d.it.kind)(hk6:d.it.kind<=6)(h0:(ar u d.it.at_).2=0)(hid:(ar u d.it.at_).1=aI x)(hp:jU (aI x) u=true):∃r:oG,kP (V5 d.it.kind) [eU u,eU x,aK d] (eC r)/\Bk u d r:=by
  have hk:d.it.kind=0\/d.it.kind=1\/d.it.kind=2\/d.it.kind=3\/d.it.kind=4\/d.it.kind=5\/d.it.kind=6:=by omega
  rcases hk with h|h|h|h|h|h|h<;>rw[h]
  · exact VS hu x d hd hg h
  · exact YA hu hx d hp (by unfold ng;rw[h,hid,hu.uni (jK (mW hx)).1 hx (jK (mW hx)).2];rfl)
  · exact Yz hu hx d (by unfold ng;rw[h,hid];rfl) hg h
  · exact YE hu hx d (by unfold ng;rw[h,hid];rfl) hg h
  · exact ZJ hu d (by unfold ng;rw[h,hid];rfl) hg h
  · exact YC hu d (by unfold ng;rw[h,hid];rfl)
  · exact Y1 hu hx d hd hg h h0 hid hp
theorem VU {u:TUnit}(hu:OkB u)(d:PDeed)(hd:vg d.it)(hk0:0<=d.it.kind)(hk6:d.it.kind<=6):∃r:oG,kP 54 [eU u,aK d] (eC r)/\Bk u d r:=by
  obtain⟨b,hV,hg⟩:=WY d.it hd hk0 hk6
  have hl:=W6 d hk0 hk6
  cases b with
  |false=>exact⟨_,Vq u d _ hl hV,.refl hu⟩
  | true=>
    have hg:=hg rfl
    have hF:=tL hu d.it.at_ hd.2.1
    cases he:ab (ar u d.it.at_).2 0 with
    |false=>exact⟨_,Vx u d _ _ _ hl hV he hF,.refl hu⟩
    | true=>
      have e0:=iB he
      have hh:=nF e0
      obtain⟨hx,hxi⟩:=jK hh
      rw[e0]at hF
      have hX:=pb hu (ar u d.it.at_).1
      cases hi:(ab (ar u d.it.at_).1.a u.act&&(ab (ar u d.it.at_).1.i u.item&&ab (ar u d.it.at_).1.n u.n))with
      | true=>
        cases hk:ab d.it.kind 0 with
        | true=>
          have hk:=iB hk
          obtain⟨r,h1,h2⟩:=VS hu (bT (ar u d.it.at_).1 u) d hd hg hk
          exact⟨r,Sb u _ d _ _ _ r hl hV hF hX hi (by rw[hk];rfl) (by rw[hk];exact h1),h2⟩
        |false=>exact⟨_,Vz u _ d _ _ _ _ _ hl hV hF hX hi hk (tL hu d.it.to hd.2.2.1),.refl hu⟩
      | false=>
        have hni:fD (ar u d.it.at_).1 u=false:=by
          cases q:fD (ar u d.it.at_).1 u with
          |false=>rfl
          | true=>
            have:=(fh _ u).1 q
            rw[<-this]at hi
            have e:(ab (aI u).a u.act&&(ab (aI u).i u.item&&ab (aI u).n u.n))=true:=by
              show(ab u.act u.act&&(ab u.item u.item&&ab u.n u.n))=true
              rw[bz,bz,bz];rfl
            rw[e]at hi;cases hi
        obtain⟨r,h1,h2⟩:=aaj hu hx d hd hg hk0 hk6 e0 hxi.symm (by rw[hxi];exact Ul hh hni)
        exact⟨r,Vj u _ d _ _ _ r hl hV hF hX hi h1,h2⟩
theorem Sm{k:Int}(h:mK k=true):0<=k/\k<=6:=by
  unfold mK at h;rw[bq]at h;exact⟨gd h.1,gd h.2⟩
structure AppOk(u:TUnit)(d:PDeed):Prop where
  b:OkB u
  i:vg d.it
  a:mK d.it.kind=true
theorem Sy{u:TUnit}{d:PDeed}(h:AppOk u d):∃r:oG,kP 54 [eU u,aK d] (eC r)/\Bk u d r:=VU h.b d h.i (Sm h.a).1 (Sm h.a).2
open Classical in
noncomputable def fX(u:TUnit)(d:PDeed):oG:=if h:AppOk u d then(Sy h).choose else(u,0)
theorem EH{u:TUnit}{d:PDeed}(h:AppOk u d):kP 54 [eU u,aK d] (.tuple [eU (fX u d).1,iV (fX u d).2])/\Bk u d (fX u d):=by
  unfold fX;rw[dif_pos h];exact(Sy h).choose_spec
theorem lk{u:TUnit}{d:PDeed}(h:AppOk u d):kP 54 [eU u,aK d] (.tuple [eU (fX u d).1,iV (fX u d).2])/\OkB (fX u d).1:=⟨(EH h).1,(EH h).2.1⟩
theorem A9(u:TUnit)(d:PDeed)(h1:OkB u)(h2:vg d.it)(h3:mK d.it.kind=true):kP 54 [eU u,aK d] (.tuple [eU (fX u d).1,iV (fX u d).2]):=(lk ⟨h1,h2,h3⟩).1
noncomputable def ld(u:TUnit)(d:PDeed):TUnit:=bif mK d.it.kind then(fX u d).1 else u
noncomputable def Cu(u:TUnit)(d:PDeed):List PFail:=bif mK d.it.kind then(bif ab (fX u d).2 0 then[]else[⟨d.act,d.item,(fX u d).2⟩])else[]
theorem Pb{u:TUnit}{d:PDeed}(h1:OkB u)(h2:vg d.it):OkB (ld u d):=by
  unfold ld
  cases h:mK d.it.kind with
  |false=>exact h1
  |true=>exact(lk ⟨h1,h2,h⟩).2
theorem YQ{u:TUnit}{d:PDeed}(h1:OkB u)(h2:vg d.it)(h3:mK d.it.kind=true):Un (s9 u d (fX u d).2) u (fX u d).1:=(EH ⟨h1,h2,h3⟩).2.2
noncomputable def cj:TUnit->List PDeed->TUnit
  |u,[]=>u
  |u,d::r=>cj (ld u d) r
noncomputable def fZ:TUnit->List PDeed->List PFail
  |_,[]=>[]
  |u,d::r=>Cu u d++fZ (ld u d) r
theorem AR:∀{l:List PDeed}{u:TUnit},OkB u->(∀d,d∈l->vg d.it)->OkB (cj u l)
  |[],_,h,_=>h
  |d::r,u,h,hl=>AR (l:=r) (u:=ld u d) (Pb h (hl d (eF ..))) fun x hx=>hl x (eG _ hx)
theorem C2:∀(l:List PDeed)(u:TUnit),(fZ u l).length<=l.length
  |[],_=>af _
  | d::r,u=>by
    have:=C2 r (ld u d)
    have h:(Cu u d).length<=1:=by
      unfold Cu
      cases mK d.it.kind<;>cases ab (fX u d).2 0<;>simp
    rw[fZ,lA,lC];omega
theorem Yp{u:TUnit}{d:PDeed}{r:List PDeed}(h:mK d.it.kind=false):cj u (d::r)=cj u r/\fZ u (d::r)=fZ u r:=by
  rw[cj,fZ,ld,Cu,h];exact⟨rfl,rfl⟩
theorem TX{u:TUnit}{d:PDeed}{r:List PDeed}(h:mK d.it.kind=true)(h2:ab (fX u d).2 0=true):cj u (d::r)=cj (fX u d).1 r/\fZ u (d::r)=fZ (fX u d).1 r:=by
  rw[cj,fZ,ld,Cu,h,h2];exact⟨rfl,rfl⟩
theorem TZ{u:TUnit}{d:PDeed}{r:List PDeed}(h:mK d.it.kind=true)(h2:ab (fX u d).2 0=false):cj u (d::r)=cj (fX u d).1 r/\fZ u (d::r)=⟨d.act,d.item,(fX u d).2⟩::fZ (fX u d).1 r:=by
  rw[cj,fZ,ld,Cu,h,h2];exact⟨rfl,rfl⟩
mutual
theorem KI:∀(u:TUnit)(deep most:Int),mH u deep most<=most->Int.ofNat (nU u)<=mH u deep most
  | ⟨_,_,_,_,_,_,_,kids⟩,deep,most,h=>by
    rw[mH]at h ⊢
    cases hd:au 20 deep with
    |true=>rw[hd]at h;simp only at h;omega
    | false=>
      rw[hd]at h
      have:=KL kids deep most 1 h
      rw[nU]
      simp only[oN]at *
      omega
theorem KL:∀(l:List TUnit)(deep most n:Int),mI l deep most n<=most->n+Int.ofNat (eQ l)<=mI l deep most n
  |[],_,_,n,_=>by rw[mI,eQ];exact Int.le_of_eq (Int.add_zero n)
  | k::r,deep,most,n,h=>by
    rw[mI]at h ⊢
    cases hd:au most n with
    |true=>rw[hd]at h;have:=ap hd;simp only at h;omega
    | false=>
      rw[hd]at h
      have h2:=KL r deep most _ h
      have h1:=KI k (deep+1) (most-n) (by simp only[oN]at *;omega)
      rw[eQ]
      simp only[oN]at *
      omega
end
theorem FF{l:List PWord}(h:mL l=true):l.length<=300/\∀w,w∈l->w.text.length<=100:=by
  unfold mL at h
  obtain⟨h1,h2⟩:=pB.1 h
  refine⟨by have:=gd h2;simp only[oN]at this;omega,fun w hw=>?_⟩
  have:=gd (mq.1 h1 w hw)
  simp only[oN]at this;omega
theorem Iv:∀(u:TUnit),kI u=true->∀x,x∈bU u->rT x:=by
  refine TUnit.ind fun u ih h x hx=>?_
  rw[B6]at h
  simp only[bq]at h
  obtain⟨⟨⟨h0,h1⟩,h2⟩,h3⟩:=h
  rw[ch]at hx
  rcases eu.1 hx with rfl|hx
  · have h0:=gd h0
    simp only[oN]at h0
    have q1:=FF h1
    have q2:=FF h2
    exact⟨q1.1,q2.1,by omega,fun w hw=>bH (q1.2 w hw) (by decide),fun w hw=>bH (q2.2 w hw) (by decide)⟩
  · obtain⟨k,hk,hx⟩:=jM hx
    exact ih k hk (mq.1 h3 k hk) x hx
theorem Xo{u:TUnit}{n:Nat}(h:Hx u (.ofNat n)=true):nU u<=n/\∀x,x∈bU u->rT x:=by
  unfold Hx at h
  obtain⟨h1,h2⟩:=pB.1 h
  refine⟨?_,Iv u h2⟩
  have h3:=gd h1
  have:=KI u 0 (.ofNat n) h3
  simp only[oN]at *
  omega
theorem QY{x:PItem}(hf:nc x)(h:m9 x=true):vg x:=by
  rw[Ey]at h
  unfold yJ at h
  simp only[bq]at h
  obtain⟨⟨⟨⟨⟨⟨⟨⟨⟨⟨a1,a2⟩,a3⟩,a4⟩,a5⟩,a6⟩,a7⟩,a8⟩,a9⟩,a10⟩,b1,b2,b3,b4,b5⟩:=h
  have a1:=gd a1
  have a2:=gd a2
  have a3:=gd a3
  have a4:=gd a4
  have a5:=gd a5
  have a6:=gd a6
  have a7:=gd a7
  simp only[oN]at a1 a2 a3 a4 a5 a6 a7
  have hs:∀{l:List aP},l.all xl=true->∀s,s∈l->s.length<=2^39:=fun h s hs=>by
    have:=gd (mq.1 h s hs);simp only[oN]at this;omega
  have ht:∀{l:List PStep},l.all xi=true->∀s,s∈l->s.label.length<=2^39:=fun h s hs=>by
    have:=gd (mq.1 h s hs);simp only[oN]at this;omega
  have hu:=Xo (n:=30) a10
  exact⟨hf,⟨by omega,ht b3⟩,⟨by omega,ht b4⟩,⟨by omega,hs b1⟩,⟨by omega,hs b2⟩,by omega,by omega,by omega,bH hu.1 (by decide),hu.2⟩
theorem Jm{u v:TUnit}{l r:List PDeed}{xs:List PFail}(h:fZ u l=xs++fZ v r):xs.length<=l.length:=by
  grind[C2]
theorem Sg(u:TUnit)(l:List PDeed)(hu:OkB u)(hl:l.length<2^30)(ho:∀d,d∈l->vg d.it):kP 65 [eU u,.ls (l.map aK)] (.tuple [eU (cj u l),.ls ((fZ u l).map gj)]):=by
  have rr0 b' (h:((cj u l).act)=b':=by first|(rw[hj0.2.1];rfl)|(rw[hj0.2.2];rfl)|(rw[hj0.2.2.1];rfl)|(rw[hj0.2.2.2];simp only[fZ,ej])|exact aX gJ _):=h;have rr1 b' (h:((cj u l).item)=b':=by first|(rw[hj0.2.1];rfl)|(rw[hj0.2.2];rfl)|(rw[hj0.2.2.1];rfl)|(rw[hj0.2.2.2];simp only[fZ,ej])|exact aX gJ _):=h;have rr2 b' (h:((cj u l).n)=b':=by first|(rw[hj0.2.1];rfl)|(rw[hj0.2.2];rfl)|(rw[hj0.2.2.1];rfl)|(rw[hj0.2.2.2];simp only[fZ,ej])|exact aX gJ _):=h;have rr3 b' (h:((cj u l).kind)=b':=by first|(rw[hj0.2.1];rfl)|(rw[hj0.2.2];rfl)|(rw[hj0.2.2.1];rfl)|(rw[hj0.2.2.2];simp only[fZ,ej])|exact aX gJ _):=h;have rr4 b' (h:((cj u l).label)=b':=by first|(rw[hj0.2.1];rfl)|(rw[hj0.2.2];rfl)|(rw[hj0.2.2.1];rfl)|(rw[hj0.2.2.2];simp only[fZ,ej])|exact aX gJ _):=h;have rr5 b' (h:(List.map aQ (cj u l).head)=b':=by first|(rw[hj0.2.1];rfl)|(rw[hj0.2.2];rfl)|(rw[hj0.2.2.1];rfl)|(rw[hj0.2.2.2];simp only[fZ,ej])|exact aX gJ _):=h;have rr6 b' (h:(List.map aQ (cj u l).words)=b':=by first|(rw[hj0.2.1];rfl)|(rw[hj0.2.2];rfl)|(rw[hj0.2.2.1];rfl)|(rw[hj0.2.2.2];simp only[fZ,ej])|exact aX gJ _):=h;have rr7 b' (h:(List.map aU (cj u l).kids)=b':=by first|(rw[hj0.2.1];rfl)|(rw[hj0.2.2];rfl)|(rw[hj0.2.2.1];rfl)|(rw[hj0.2.2.2];simp only[fZ,ej])|exact aX gJ _):=h;have rr8 b' (h:((fZ u l).map gj)=b':=by first|(rw[hj0.2.1];rfl)|(rw[hj0.2.2];rfl)|(rw[hj0.2.2.1];rfl)|(rw[hj0.2.2.2];simp only[fZ,ej])|exact aX gJ _):=h;exact bB Tryz.func65<|Kl 2 5 bA<|Kl 2 12 (ln aK l)<|Mg 0<|WW TUnit Nat Nat (List PFail) aK l u [2,4,6,11,12,13] (fun a _ b=>([bX 0 0 0 0,bX 1 0 0 0,ak,aW<|l.map aK,nV l.length,nV a],[aZ 8 false 0 [av [iV b.act,iV b.item,iV b.n,iV b.kind,ax b.label,aW<|b.head.map aQ,aW<|b.words.map aQ,aW<|b.kids.map aU]],aZ 8 false 0 [av [iV 0,iV 0,iV 0,iV 0,ax [],ak,ak,ak]]])) (fun a _ b c e f=>([bX 0 0 0 0,bX 1 0 0 0,aH 2 c 0 e none,aW<|l.map aK,nV l.length,nV a],[aZ 8 false 0 [av [iV b.act,iV b.item,iV b.n,iV b.kind,ax b.label,aW<|b.head.map aQ,aW<|b.words.map aQ,aW<|b.kids.map aU]],aZ 8 false 0 [av [iV 0,iV 0,iV 0,iV 0,ax [],ak,ak,ak]],aZ 3 true c<|f.map gj])) (fun a b=>OkB b/\cj u l=cj b a/\fZ u l=fZ b a) (fun a b _ c e=>OkB b/\c=e.length/\cj u l=cj b a/\fZ u l=e++fZ b a) sA (fun _ _ a _ _ _ b hj0=>Kh 0 b<|Kl 3 5 bA<|Mf<|cp<|.cons (aM (.cons (li<|rr0 a.act)<|.cons (li<|rr1 a.item)<|.cons (li<|rr2 a.n)<|.cons (li<|rr3 a.kind)<|.cons (Le.str<|rr4 a.label)<|.cons (cY<|rr5<|a.head.map aQ)<|.cons (cY<|rr6<|a.words.map aQ)<|.cons (cY<|rr7<|a.kids.map aU) .nil)<|by kernel_rfl)<|.cons (cY<|rr8 []) .nil) (fun a _ b c _ e f g i j k _ n hj0=>have c:=ho _<|aN c j;Kt 0 k<|Mx n<|Kp 5 (J0 e.it.kind)<|Kn 0 (mK e.it.kind) (fun _=>Kl 0 40 (dB a)<|K1 0 (.frz 2 [2,4,6,11,12,13]) (co rt rt ti)<|Mf<|g b<|by grind[Yp]) fun j=>Kp 1 (A9 b e sA c j)<|Kc 7 (fX b e).2 0 (fun _ _=>Kl 12 40 (dB a)<|Mg 0<|M0 (.ren [0,1,4,2,3] [] [2,4,6,11,12,13])<|M1 (.frz 3 [2,4,6,11,12,13]) (ju rt rt rt ti)<|Mf<|i (fX b e).1 0 1 [PFail.mk e.act e.item (fX b e).2]<|by exact⟨(lk ⟨hj0.1,c,by omega⟩).2,rfl,hj0.2.1.trans (TZ (by omega) (by omega)).1,hj0.2.2.trans (TZ (by omega) (by omega)).2⟩) fun _ _=>Kl 2 40 (dB a)<|K1 0 (.frz 2 [2,4,6,11,12,13]) (co rt rt ti)<|Mf<|g (fX b e).1<|by exact⟨(lk ⟨hj0.1,c,by omega⟩).2,hj0.2.1.trans (TX (by omega) (by omega)).1,hj0.2.2.trans (TX (by omega) (by omega)).2⟩) (fun _ _ a b c e _ _ _ f hj0=>Kh 0 f<|Mg 3<|M2 (.fsl 2 [4] 5<|e.map gj) (co rt rt ti) (co (aJ b) (tA gj e c (oA:(e).length=c))<|aX gJ e)<|Ml 5 (fw (e.map gj) false<|aX gJ e)<|Mf<|cp<|.cons (aM (.cons (li<|rr0 a.act)<|.cons (li<|rr1 a.item)<|.cons (li<|rr2 a.n)<|.cons (li<|rr3 a.kind)<|.cons (Le.str<|rr4 a.label)<|.cons (cY<|rr5<|a.head.map aQ)<|.cons (cY<|rr6<|a.words.map aQ)<|.cons (cY<|rr7<|a.kids.map aU) .nil)<|by kernel_rfl)<|.cons (cY<|rr8<|e.map gj) .nil) fun a _ b c e f g _ i j _ k n o _ p hj0=>have g:=ho _<|aN g n;Kt 0 o<|Mx p<|Kp 5 (J0 i.it.kind)<|Kn 0 (mK i.it.kind) (fun _=>Kl 0 40 (dB a)<|K1 0 (.frz 3 [2,4,6,11,12,13]) (ju (tR 3 true c 3<|aX gJ f) rt rt ti)<|Mf<|k b c e f<|by grind[Yp]) fun n=>Kp 1 (A9 b i sA g n)<|Kc 7 (fX b i).2 0 (fun _ _=>K1 7 .app (co (aJ c) (sA:e=(f.map gj).length) (by(have z:=Jm hj0.2.2.2;have z2:=hj0.2.1;refine aD (m:=2^31) ?_ ?_ ?_<;>omega):small (e+1) 24=true))<|M1 (.obj 2<|aZ 3 true (c+1)<|(f++[PFail.mk i.act i.item (fX b i).2]).map gj) (congrArg (aZ 3 true<|c+1)<|dw (f:=gj) (l:=f) (ws:=[PFail.mk i.act i.item (fX b i).2]))<|Kl 3 40 (dB a)<|K1 0 (.frz 3 [2,4,6,11,12,13]) (ju (tR 3 true (c+1) 3<|aX gJ<|f++[PFail.mk i.act i.item (fX b i).2]) rt rt ti)<|Mf<|k (fX b i).1 (c+1) (e+1) (f++[PFail.mk i.act i.item (fX b i).2])<|by exact⟨(lk ⟨hj0.1,g,by omega⟩).2,by simp_all,hj0.2.2.1.trans (TZ (by omega) (by omega)).1,hj0.2.2.2.trans (by grind[TZ])⟩) fun _ _=>Kl 2 40 (dB a)<|K1 0 (.frz 3 [2,4,6,11,12,13]) (ju (tR 3 true c 3<|aX gJ f) rt rt ti)<|Mf<|k (fX b i).1 c e f<|by exact⟨(lk ⟨hj0.1,g,by omega⟩).2,hj0.2.1,hj0.2.2.1.trans (TX (by omega) (by omega)).1,hj0.2.2.2.trans (by grind[TX])⟩
end Go.Proofs.YtdhkhecalpkngaaGreatDoor
