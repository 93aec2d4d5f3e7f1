/- Functions walked: what each of them answers, for For each unit of the book of a day, Addresses contains its current address and Holders of that address contains the unit: part 5. Conditions: those that each theorem names. -/
import Derived.Test.YtdhkhecalpkngaaGreatDoorH4
namespace Go.Proofs.YtdhkhecalpkngaaGreatDoor
open Go Go.Ev
noncomputable abbrev CD(l:List PWord):AObj:=.row 4 true 0 (l.map aQ)
noncomputable def Gz:TypeInfo:=(Tryz.prog.info? 125).getD default
theorem Gq:Tryz.prog.info? 125=some Gz:=by kernel_rfl
theorem zc:Gz.size=4:=by kernel_rfl
theorem xV:Gz.bytes=40:=by kernel_rfl
theorem WI(l:List PWord):eX 4 (l.map aQ)=true:=gY (fun w=>by cases w;rfl) l
theorem cl4(ws:List PWord)(hl:ws.length<=2^20)(a b c d:AObj):kD 99 [.ls (ws.map aQ)] (aw [a,b,c,d]) (.sl0 4 0 ws.length none) (aw [a,b,c,d,CD ws]):=by
  by_cases hne:ws=[]
  · subst hne
    have hE:(aw [a,b,c,d]).push (CD [])=aw [a,b,c,d,CD []]:=by kernel_rfl
    have h:=aN.psh (o:=CD []) (u:=.sl0 4 0 0 none) (sd [] (by omega) (aw [a,b,c,d])) FF
    simp_all
  have hn:ws.map aQ≠[]:=fun h=>hne (zk.1 h)
  have hf:=WI ws
  have hsm:small (ws.map aQ).length 40=true:=by grind[aF]
  have hlen:ws.length=(ws.map aQ).length:=(cJ ..).symm
  unfold CD
  rw[hlen]
  generalize ws.map aQ=L at hn hf hsm
  refine(aN.less (Ψ:=fun v h=>v=.slice 4 0 0 L.length none/\h=aw [a,b,c,d,.row 4 true 0 L]) ?_ fun v h ⟨h1,h2⟩=>⟨_,h1▸Le.sl0,rfl,h2⟩)
  refine aN.enter 2 (fn:=Tryz.f99) Tryz.func99 (by kernel_rfl) rfl ⟨by kernel_rfl,by kernel_rfl⟩ ?_
  refine ar.seq (ar.mono (E3 qf jX (ev 40) (s':=⟨eE 8 [(0,.ls L),(2,.nils)],aw [a,b,c,d]⟩) (.go 0 .fin) (by kernel_rfl)) ?_)
  rintro _ _ ⟨rfl,rfl⟩
  refine ar.seq (ar.seq (ar.mono (yE jX (ev 40) (Ψ:=fun s=>s=⟨eE 8 [(0,.ls L),(2,.nils),(3,.ps L false),(4,.bool false)],aw [a,b,c,d]⟩) (.go 0 (.nz 3 .abs (.go 0 .fin)))
    (W:=(L=[]->False)/\(⟨eE 8 [(0,.ls L),(2,.nils),(3,.ps L false),(4,.bool false)],aw [a,b,c,d]⟩:St)=⟨eE 8 [(0,.ls L),(2,.nils),(3,.ps L false),(4,.bool false)],aw [a,b,c,d]⟩) ⟨hn,rfl⟩ (by kernel_rfl)) ?_))
  rintro _ _ ⟨rfl,rfl⟩
  refine ar.cond (t:=false) (by kernel_rfl) (fun h=>by grind) fun _=>ar.skip ?_
  refine ar.seq (ar.region ?_)
  show cH _ _ _ _ [_,_,_,_] _ _
  refine cH.one (s':=⟨eE 8 [(0,.ls L),(2,.nils),(3,.ps L false),(4,.bool false),(5,.ps [] true)],aw [a,b,c,d]⟩) (ev 40) (by kernel_rfl) ?_
  refine cH.one (s':=⟨eE 8 [(0,.ls L),(2,.nils),(3,.ps L false),(4,.bool false),(5,.ps [] true),(6,.ls L)],aw [a,b,c,d]⟩) (ev 40) (by kernel_rfl) ?_
  refine so (I:=fun k:Nat=>k=0) (r:=fun _=>.slice 4 0 0 L.length none) (H:=fun _=>aw [a,b,c,d,.row 4 true 0 L]) (by kernel_rfl)
    (fun pl M a w g1 g2 g3=>yU (z:=aQ ⟨[],0,0,0⟩) (z0:=aQ ⟨[],0,0,0⟩) (xs:=L) (t:=27) (tx:=27) (e:=125) (i:=Gz) zc xV (by kernel_rfl) ⟨125,by kernel_rfl⟩ Gq (by kernel_rfl) (Le.refl _) (by kernel_rfl) (by kernel_rfl) hn hf (by kernel_rfl) hsm (by omega) pl M a w g1 g2 g3) fun k _=>?_
  refine⟨eE 8 [(0,.ls L),(2,.nils),(3,.ps L false),(4,.bool false),(5,.ps [] true),(6,.ls L),(7,.slice 4 0 0 L.length none)],by kernel_rfl,?_⟩
  refine cH.one (s':=⟨eE 8 [(0,.ls L),(2,.slice 4 0 0 L.length none),(3,.ps L false),(4,.bool false),(5,.ps [] true),(6,.ls L),(7,.slice 4 0 0 L.length none)],aw [a,b,c,d,.row 4 true 0 L]⟩) (ev 40) (by kernel_rfl) (cH.nil (ar.ret ⟨fun id h=>(by grind),.slice 4 0 0 L.length none,by kernel_rfl,by kernel_rfl,by kernel_rfl⟩))
theorem cl5(ws:List PWord)(hl:ws.length<=2^20)(a b c d e:AObj):kD 99 [.ls (ws.map aQ)] (aw [a,b,c,d,e]) (.sl0 5 0 ws.length none) (aw [a,b,c,d,e,CD ws]):=by
  by_cases hne:ws=[]
  · subst hne
    have hE:(aw [a,b,c,d,e]).push (CD [])=aw [a,b,c,d,e,CD []]:=by kernel_rfl
    have h:=aN.psh (o:=CD []) (u:=.sl0 5 0 0 none) (sd [] (by omega) (aw [a,b,c,d,e])) FF
    simp_all
  have hn:ws.map aQ≠[]:=fun h=>hne (zk.1 h)
  have hf:=WI ws
  have hsm:small (ws.map aQ).length 40=true:=by grind[aF]
  have hlen:ws.length=(ws.map aQ).length:=(cJ ..).symm
  unfold CD
  rw[hlen]
  generalize ws.map aQ=L at hn hf hsm
  refine(aN.less (Ψ:=fun v h=>v=.slice 5 0 0 L.length none/\h=aw [a,b,c,d,e,.row 4 true 0 L]) ?_ fun v h ⟨h1,h2⟩=>⟨_,h1▸Le.sl0,rfl,h2⟩)
  refine aN.enter 2 (fn:=Tryz.f99) Tryz.func99 (by kernel_rfl) rfl ⟨by kernel_rfl,by kernel_rfl⟩ ?_
  refine ar.seq (ar.mono (E3 qf jX (ev 40) (s':=⟨eE 8 [(0,.ls L),(2,.nils)],aw [a,b,c,d,e]⟩) (.go 0 .fin) (by kernel_rfl)) ?_)
  rintro _ _ ⟨rfl,rfl⟩
  refine ar.seq (ar.seq (ar.mono (yE jX (ev 40) (Ψ:=fun s=>s=⟨eE 8 [(0,.ls L),(2,.nils),(3,.ps L false),(4,.bool false)],aw [a,b,c,d,e]⟩) (.go 0 (.nz 3 .abs (.go 0 .fin)))
    (W:=(L=[]->False)/\(⟨eE 8 [(0,.ls L),(2,.nils),(3,.ps L false),(4,.bool false)],aw [a,b,c,d,e]⟩:St)=⟨eE 8 [(0,.ls L),(2,.nils),(3,.ps L false),(4,.bool false)],aw [a,b,c,d,e]⟩) ⟨hn,rfl⟩ (by kernel_rfl)) ?_))
  rintro _ _ ⟨rfl,rfl⟩
  refine ar.cond (t:=false) (by kernel_rfl) (fun h=>by grind) fun _=>ar.skip ?_
  refine ar.seq (ar.region ?_)
  show cH _ _ _ _ [_,_,_,_] _ _
  refine cH.one (s':=⟨eE 8 [(0,.ls L),(2,.nils),(3,.ps L false),(4,.bool false),(5,.ps [] true)],aw [a,b,c,d,e]⟩) (ev 40) (by kernel_rfl) ?_
  refine cH.one (s':=⟨eE 8 [(0,.ls L),(2,.nils),(3,.ps L false),(4,.bool false),(5,.ps [] true),(6,.ls L)],aw [a,b,c,d,e]⟩) (ev 40) (by kernel_rfl) ?_
  refine so (I:=fun k:Nat=>k=0) (r:=fun _=>.slice 5 0 0 L.length none) (H:=fun _=>aw [a,b,c,d,e,.row 4 true 0 L]) (by kernel_rfl)
    (fun pl M a w g1 g2 g3=>yU (z:=aQ ⟨[],0,0,0⟩) (z0:=aQ ⟨[],0,0,0⟩) (xs:=L) (t:=27) (tx:=27) (e:=125) (i:=Gz) zc xV (by kernel_rfl) ⟨125,by kernel_rfl⟩ Gq (by kernel_rfl) (Le.refl _) (by kernel_rfl) (by kernel_rfl) hn hf (by kernel_rfl) hsm (by omega) pl M a w g1 g2 g3) fun k _=>?_
  refine⟨eE 8 [(0,.ls L),(2,.nils),(3,.ps L false),(4,.bool false),(5,.ps [] true),(6,.ls L),(7,.slice 5 0 0 L.length none)],by kernel_rfl,?_⟩
  refine cH.one (s':=⟨eE 8 [(0,.ls L),(2,.slice 5 0 0 L.length none),(3,.ps L false),(4,.bool false),(5,.ps [] true),(6,.ls L),(7,.slice 5 0 0 L.length none)],aw [a,b,c,d,e,.row 4 true 0 L]⟩) (ev 40) (by kernel_rfl) (cH.nil (ar.ret ⟨fun id h=>(by grind),.slice 5 0 0 L.length none,by kernel_rfl,by kernel_rfl,by kernel_rfl⟩))
noncomputable abbrev Ei(u:TUnit)(k:AV):AV:=.agg [iV u.act,iV u.item,iV u.n,iV u.kind,.str u.label,.sl0 3 0 u.head.length none,.sl0 4 0 u.words.length none,k]
noncomputable abbrev WX(u:TUnit)(i j:Nat)(k:AV):AObj:=.row 8 false 0 [.agg [iV u.act,iV u.item,iV u.n,iV u.kind,.str u.label,.sl0 i 0 u.head.length none,.sl0 j 0 u.words.length none,k]]
theorem aam(u:TUnit)(hk:0<u.kids.length)(hn:nU u<=2^20)(ht:∀x,x∈bv u->x.head.length<=2^20/\x.words.length<=2^20):kC 59 [eU u] (aw [xU u,xW])
    (fun v h=>∃y:Nat×Nat×List TUnit,(y.2.1=u.kids.length/\y.2.2=u.kids)/\v=Ei u (.slice 5 y.1 0 y.2.1 none)/\h=aw [xU u,xW,WX u 3 4 (.slice 5 y.1 0 y.2.1 none),CD u.head,CD u.words,.row 8 true y.1 (y.2.2.map aY)]):=by
  have hkl:=bg u
  have c1:=(ht u (cX u)).1
  have c2:=(ht u (cX u)).2
  have ihk:∀k,k∈u.kids->kP 59 [eU k] (eU k):=fun k hk=>Is k (bu (qz (gv hk)) hn) (fun x hx=>⟨oB (ht x (bj hk hx)).1 (by omega),oB (ht x (bj hk hx)).2 (by omega)⟩)
  let q1:=[ak (uLx u)];let q2:=[ak [iV 0,iV 0,iV 0,iV 0,ax [],ab,ab,ab]];let q3:=aZ 8 false 0 q2;let q4:=aZ 8 false 0 q1;let q5:=List.map aQ u.head;let q6:=aZ 4 true 0 q5;exact qS Tryz.func59 fun a=>Mg 3<|M3 (.efx true (AV.sl0 4 0 u.head.length none)<|aw [aZ 8 false 0 q1,aZ 8 false 0 q2,aZ 8 false 0 q1,aZ 8 false 0 q2,aZ 4 true 0 q5]) (JV rt rt rt rt ti) (JV (aV<|some q3) (aV<|some q4) (aV<|some q3) (aV<|some q4) ti) (cl4 u.head c1 q4 q3 q4 q3)<|Mg 1<|M3 (.efx true (AV.sl0 5 0 u.words.length none)<|aw [aZ 8 false 0 q1,aZ 8 false 0 q2,aZ 8 false 0 q1,aZ 8 false 0 q2,aZ 4 true 0 q5,aZ 4 true 0<|u.words.map aQ]) (xM (tR 4 true 0 5<|aW jx u.head) rt rt rt rt ti) (xM (aV<|some q6) (aV<|some q3) (aV<|some q4) (aV<|some q3) (aV<|some q4) ti) (cl5 u.words c2 q4 q3 q4 q3 q6)<|Kl 7 16 (ln aY u.kids)<|Mg 0<|ka Nat Nat (List TUnit) aY u.kids [1,2,3,15,16,17] (fun a _=>([ah 2 0 0 0,ah 3 0 0 0,ab,aJ<|u.kids.map aY,nV u.kids.length,nV a],[aZ 8 false 0 [ak (uLx u)],aZ 8 false 0 [ak [iV 0,iV 0,iV 0,iV 0,ax [],ab,ab,ab]],aZ 8 false 0 [ak [iV u.act,iV u.item,iV u.n,iV u.kind,ax u.label,AV.sl0 4 0 u.head.length none,AV.sl0 5 0 u.words.length none,aJ<|u.kids.map aY]],aZ 8 false 0 [ak [iV 0,iV 0,iV 0,iV 0,ax [],ab,ab,ab]],aZ 4 true 0<|u.head.map aQ,aZ 4 true 0<|u.words.map aQ])) (fun a _ b c d=>([ah 2 0 0 0,ah 3 0 0 0,bQ 6 b 0 c none,aJ<|u.kids.map aY,nV u.kids.length,nV a],[aZ 8 false 0 [ak (uLx u)],aZ 8 false 0 [ak [iV 0,iV 0,iV 0,iV 0,ax [],ab,ab,ab]],aZ 8 false 0 [ak [iV u.act,iV u.item,iV u.n,iV u.kind,ax u.label,AV.sl0 4 0 u.head.length none,AV.sl0 5 0 u.words.length none,aJ<|u.kids.map aY]],aZ 8 false 0 [ak [iV 0,iV 0,iV 0,iV 0,ax [],ab,ab,ab]],aZ 4 true 0<|u.head.map aQ,aZ 4 true 0<|u.words.map aQ,aZ 8 true b<|d.map aY])) (fun a=>a=u.kids) (fun a _ b c=>b=c.length/\(0:Nat)<c.length/\c++a=u.kids/\c.length+a.length=u.kids.length) (by rfl) (fun _ _ _ _ _ a _=>Kh 0 a<|Mg 4<|Mw .abs (sA:False)) (fun a _ _ b c d _ e f g _ i _=>have i:=(i).trans<|congrArg some<|aR c;have b:=cw (J:=fun a _=>a=u.kids) (a:=()) f b;Kt 0 g<|Mx i<|Kp 4 (ihk c gR)<|K1 1 (.obj 7<|aZ 8 true 0<|List.map aY [c]) (congrArg (aZ 8 true 0)<|VW (f:=aY) (g:=Go.Ev.eU) (ws:=[c]) aR)<|Kl 1 26 (dq a)<|Mg 0<|Mw (.ren [0,1,2,3,4,5,7,6] [4,5,7] [1,2,3,15,16,17]<|.frz 7 [1,2,3,15,16,17] .fin)<|JV (tS 4 true 0<|aW jx u.head) (tS 4 true 0<|aW jx u.words) (tS 8 true 0<|aW iB [c]) (Pe (tR 8 true 0 7<|aW iB [c]) (tR 4 true 0 7<|aW jx u.words) (tR 4 true 0 7<|aW jx u.head) rt rt rt rt ti)<|e 0 1 [c]<|by(refine⟨rfl,by simp,?_,?_⟩<;>(rw[<-b])<;>(first|rfl|grind))) (fun _ _ b c d _ _ _ e _=>Kh 0 e<|Mg 4<|Mw (.ren [0,1,3,4,5,6,2] [4,5,6] [2]<|.frz 6 [2] .fin)<|JV (tS 4 true 0<|aW jx u.head) (tS 4 true 0<|aW jx u.words) (tS 8 true b<|aW iB d) (Bq (tR 8 true b 6<|aW iB d) (tR 4 true 0 6<|aW jx u.words) (tR 4 true 0 6<|aW jx u.head) rt rt rt ti)<|a (b,c,d) sA) fun a _ b c d _ e f g _ i j l _ n _=>have n:=(n).trans<|congrArg some<|aR f;have e:=cw (J:=fun a b=>b.2.1=b.2.2.length/\(0:Nat)<b.2.2.length/\b.2.2++a=u.kids/\b.2.2.length+a.length=u.kids.length) (a:=(b,c,d)) j e;Kt 0 l<|Mx n<|Kp 4 (ihk f gR)<|K1 0 .app (cF (aV b) (sA:c=(d.map aY).length) (by(refine aF (m:=2^21) ?_ ?_ ?_<;>omega):small (c+1) 120=true))<|M1 (.obj 6<|aZ 8 true (b+1)<|(d++[f]).map aY) (congrArg (aZ 8 true<|b+1)<|yL (f:=aY) (g:=Go.Ev.eU) (l:=d) (ws:=[f]) aR)<|Kl 1 26 (dq a)<|K1 0 (.frz 7 [1,2,3,15,16,17]) (Pe (tR 8 true (b+1) 7<|aW iB<|d++[f]) (tR 4 true 0 7<|aW jx u.words) (tR 4 true 0 7<|aW jx u.head) rt rt rt rt ti)<|Mf<|i (b+1) (c+1) (d++[f])<|by(refine⟨by simp_all,by simp,?_,?_⟩<;>first|(rw[<-e.2.2.1];simp;done)|grind)
theorem aan(u:TUnit)(hk:u.kids=[])(ht:∀x,x∈bv u->x.head.length<=2^20/\x.words.length<=2^20):kD 59 [eU u] (aw [xU u,xW]) (Ei u .nils) (aw [xU u,xW,WX u 3 4 .nils,CD u.head,CD u.words]):=by
  have c1:=(ht u (cX u)).1
  have c2:=(ht u (cX u)).2
  have hz:aL 0 (Int.ofNat u.kids.length)=false:=by rw[hk];rfl
  let q:=[ak (uLx u)];let q1:=[ak [iV 0,iV 0,iV 0,iV 0,ax [],ab,ab,ab]];let q2:=[aZ 8 false 0 q,aZ 8 false 0 q1,aZ 8 false 0 [ak [iV u.act,iV u.item,iV u.n,iV u.kind,ax u.label,AV.sl0 4 0 u.head.length none,AV.sl0 5 0 u.words.length none,aJ (u.kids.map aY)]],aZ 8 false 0 q1,aZ 4 true 0 (u.head.map aQ),aZ 4 true 0 (u.words.map aQ)];let q3:=aZ 8 false 0 q1;let q4:=aZ 8 false 0 q;let q5:=[ah 2 0 0 0,ah 3 0 0 0,ab,aJ (u.kids.map aY),nV u.kids.length,iV 0];let q6:=List.map aQ u.head;let q7:=aZ 4 true 0 q6;exact dL Tryz.func59 fun a=>Mg 3<|M3 (.efx true (AV.sl0 4 0 u.head.length none)<|aw [aZ 8 false 0 q,aZ 8 false 0 q1,aZ 8 false 0 q,aZ 8 false 0 q1,aZ 4 true 0 q6]) (JV rt rt rt rt ti) (JV (aV<|some q3) (aV<|some q4) (aV<|some q3) (aV<|some q4) ti) (cl4 u.head c1 q4 q3 q4 q3)<|Mg 1<|M3 (.efx true (AV.sl0 5 0 u.words.length none)<|aw [aZ 8 false 0 q,aZ 8 false 0 q1,aZ 8 false 0 q,aZ 8 false 0 q1,aZ 4 true 0 q6,aZ 4 true 0<|u.words.map aQ]) (xM (tR 4 true 0 5<|aW jx u.head) rt rt rt rt ti) (xM (aV<|some q7) (aV<|some q3) (aV<|some q4) (aV<|some q3) (aV<|some q4) ti) (cl5 u.words c2 q4 q3 q4 q3 q7)<|Kl 7 16 (ln aY u.kids)<|Mg 0<|Y3 [1,2,3,15,16,17] (q5,q2) True 0 ti fun _ _=>Kh 0 hz<|Mg 4<|M2 (.ren [0,1,3,4,5,2] [4,5] [2]) (tS 4 true 0<|aW jx u.head) (tS 4 true 0<|aW jx u.words)<|M1 (.frz 5 [2]) (xM (tR 4 true 0 5<|aW jx u.words) (tR 4 true 0 5<|aW jx u.head) rt rt rt ti)<|Mf a
noncomputable abbrev kdO(ep:Nat)(l:List TUnit):AObj:=.row 8 true ep (l.map aY)
theorem MU(u:TUnit){k k':AV}(h:Le k k')(h2:dW k=true):Le (Ei u k) (Ei u k'):=bV (.cons (Le.refl _) (.cons (Le.refl _) (.cons (Le.refl _) (.cons (Le.refl _) (.cons (Le.refl _) (.cons (Le.refl _) (.cons (Le.refl _) (.cons h .nil)))))))) (by simp only[List.all_cons,List.all_nil,h2];rfl)
theorem aal(u:TUnit)(hn:nU u<=2^20)(ht:∀x,x∈bv u->x.head.length<=2^20/\x.words.length<=2^20):kC 59 [eU u] (aw [xU u,xW])
    (fun v h=>∃ep:Nat,True/\v=Ei u (.sl0 5 ep u.kids.length none)/\h=aw [xU u,xW,.dead,CD u.head,CD u.words,kdO ep u.kids]):=by
  rcases Nat.eq_zero_or_pos u.kids.length with hk|hk
  · have hk:=List.length_eq_zero_iff.1 hk
    refine aN.dead (i:=2) (LY (Ψ':=fun v h=>v=Ei u (.sl0 5 0 0 none)/\h=aw [xU u,xW,WX u 3 4 .nils,CD u.head,CD u.words,kdO 0 u.kids]) (kdO 0 u.kids) (aan u hk ht) fun v h' ⟨h1,h2⟩=>⟨Ei u (.sl0 5 0 0 none),h1▸MU u Le.sl0n rfl,rfl,?_⟩) (af 2) (by omega) fun v h' ⟨h1,h2⟩=>⟨0,trivial,by simp_all,?_⟩
    · rw[h2];kernel_rfl
    · rw[h2];kernel_rfl
  · refine aN.dead (i:=2) (aN.less (Ψ':=fun v h=>∃ep:Nat,v=Ei u (.sl0 5 ep u.kids.length none)/\h=aw [xU u,xW,WX u 3 4 (.slice 5 ep 0 u.kids.length none),CD u.head,CD u.words,kdO ep u.kids]) (aam u hk hn ht) fun v h' ⟨y,⟨e1,e2⟩,h1,h2⟩=>⟨Ei u (.sl0 5 y.1 u.kids.length none),?_,y.1,rfl,?_⟩) (af 2) (by omega) fun v h' ⟨ep,h1,h2⟩=>⟨ep,trivial,h1,?_⟩
    · rw[h1,e1];exact MU u Le.sl0 rfl
    · simp_all
    · rw[h2];kernel_rfl
def lj{α:Type}(f:α->α)(l:List α)(i:Nat):List α:=(l.take i).map f++l.drop i
theorem wo{α:Type}{f:α->α}{l:List α}{i:Nat}:(lj f l i).length=l.length:=by
  grind[lj]
theorem wt{α:Type}{f:α->α}{l:List α}{i:Nat}(h:l.length<=i):lj f l i=l.map f:=by
  grind[lj,List.take_of_length_le]
theorem An{α:Type}[Inhabited α]{f:α->α}{l:List α}{i:Nat}(h:i<l.length):gD (lj f l i) i=gD l i:=by
  have e:((l.take i).map f).length=i:=by grind
  simp_all[lj,gD,oD]
theorem Dx{α:Type}[Inhabited α]{f:α->α}{l:List α}{i:Nat}(h:i<l.length):(lj f l i).set i (f (gD l i))=lj f l (i+1):=by
  have e:((l.take i).map f).length=i:=by grind
  have hg:gD l i=l[i]:=by unfold gD;simp_all
  unfold lj
  rw[List.set_append_right _ _ (by omega),e,Nat.sub_self,hg,Po h,List.set_cons_zero,Pp h,sH,qP]
  rfl
theorem Am{l:List PWord}{i:Nat}(h:i<l.length):(lj iq l i).set i ⟨(gD (lj iq l i) i).text,0,0,0⟩=lj iq l (i+1):=by
  rw[An h];exact Dx h
theorem P5:∀u:TUnit,nU u<=2^20->(∀x,x∈bv u->x.head.length<=2^20/\x.words.length<=2^20)->kP 318 [eU u] (eU (dX u)):=by
  refine TUnit.ind fun u ih hn ht=>?_
  have hkl:=bg u
  have c1:=(ht u (cX u)).1
  have c2:=(ht u (cX u)).2
  have hc:=aal u hn ht
  have ihk:∀k,k∈u.kids->kP 318 [eU k] (eU (dX k)):=fun k hk=>ih k hk (bu (qz (gv hk)) hn) (fun x hx=>ht x (bj hk hx))
  rw[m5]
  have rr0 b' (h:(List.map aQ (TUnit.mk 0 0 0 u.kind u.label (u.head.map iq) (u.words.map iq) (u.kids.map dX)).head)=b':=by(rw[hx1.2,wt (by(simp only[oN]at *;omega))];rfl)):=h;have rr1 b' (h:(List.map aQ (TUnit.mk 0 0 0 u.kind u.label (u.head.map iq) (u.words.map iq) (u.kids.map dX)).words)=b':=by(rw[hx2.2,wt (by(simp only[oN]at *;omega))];rfl)):=h;have rr2 b' (h:(List.map aY (TUnit.mk 0 0 0 u.kind u.label (u.head.map iq) (u.words.map iq) (u.kids.map dX)).kids)=b':=by(rw[hx3.2,wt (by(simp only[oN]at *;omega))];rfl)):=h;exact b6 Tryz.func318<|Mg 2<|Mq hc fun a _=>Mg 10<|M0 (.un 2)<|Mg 7<|Nr (0:Nat) u.head [1,2,4,15,16,17,22,23] (fun b c=>([ah 0 0 0 0,ah 1 0 0 0,AV.sl0 3 0 u.head.length none,lY [AV.sl0 3 0 u.head.length none,AV.sl0 4 0 u.words.length none] true,iV 2,iV 0,nV u.head.length,nV b],[aZ 8 false 0 [ak [iV 0,iV 0,iV 0,iV u.kind,ax u.label,AV.sl0 3 0 u.head.length none,AV.sl0 4 0 u.words.length none,AV.sl0 5 a u.kids.length none]],aZ 8 false 0 [ak [iV 0,iV 0,iV 0,iV 0,ax [],ab,ab,ab]],AObj.dead,aZ 4 true 0<|c.map aQ,aZ 4 true 0<|u.words.map aQ,aZ 8 true a<|u.kids.map aY])) (fun a b=>a<=u.head.length/\b=lj iq u.head a) (fun a _=>u.head.length-a) (by exact⟨b8 _,rfl⟩) fun b c hx1 d=>have hx1:b<=u.head.length/\c=lj iq u.head b:=hx1;have:c.length=u.head.length:=(by grind[wo]);Ka 0 (Int.ofNat b) (Int.ofNat u.head.length) (fun _ _=>K1 4 .rix (et (aV 0) (sA:b<u.head.length))<|K1 0 (.rst (aQ<|gD c b)<|(c.set b<|PWord.mk (gD c b).text 0 0 0).map aQ) (cF (aV 0) (bd aQ (sA:b<(c).length))<|ku (f:=aQ) (l:=c) (i:=b) (w:=PWord.mk (gD c b).text 0 0 0))<|Kl 0 31 (kf b)<|Kf 0<|d (b+1) (c.set b<|PWord.mk (gD c b).text 0 0 0) (by grind[Am]) gR) fun _ _=>Mg 9<|Nr (0:Nat) u.words [1,2,4,15,16,17,22,23] (fun b d=>([ah 0 0 0 0,ah 1 0 0 0,AV.sl0 4 0 u.words.length none,lY [AV.sl0 3 0 u.head.length none,AV.sl0 4 0 u.words.length none] true,iV 2,iV 1,nV u.words.length,nV b],[aZ 8 false 0 [ak [iV 0,iV 0,iV 0,iV u.kind,ax u.label,AV.sl0 3 0 u.head.length none,AV.sl0 4 0 u.words.length none,AV.sl0 5 a u.kids.length none]],aZ 8 false 0 [ak [iV 0,iV 0,iV 0,iV 0,ax [],ab,ab,ab]],AObj.dead,aZ 4 true 0<|c.map aQ,aZ 4 true 0<|d.map aQ,aZ 8 true a<|u.kids.map aY])) (fun a b=>a<=u.words.length/\b=lj iq u.words a) (fun a _=>u.words.length-a) (by exact⟨b8 _,rfl⟩) fun b d hx2 e=>have hx2:b<=u.words.length/\d=lj iq u.words b:=hx2;have:d.length=u.words.length:=(by grind[wo]);Ka 0 (Int.ofNat b) (Int.ofNat u.words.length) (fun _ _=>K1 4 .rix (et (aV 0) (sA:b<u.words.length))<|K1 0 (.rst (aQ<|gD d b)<|(d.set b<|PWord.mk (gD d b).text 0 0 0).map aQ) (cF (aV 0) (bd aQ (sA:b<(d).length))<|ku (f:=aQ) (l:=d) (i:=b) (w:=PWord.mk (gD d b).text 0 0 0))<|Kl 0 31 (kf b)<|Kf 0<|e (b+1) (d.set b<|PWord.mk (gD d b).text 0 0 0) (by grind[Am]) gR) fun _ _=>Mg 7<|Nr (0:Nat) u.kids [1,2,35,36] (fun b e=>([ah 0 0 0 0,ah 1 0 0 0,nV u.kids.length,nV b],[aZ 8 false 0 [ak [iV 0,iV 0,iV 0,iV u.kind,ax u.label,AV.sl0 3 0 u.head.length none,AV.sl0 4 0 u.words.length none,AV.sl0 5 a u.kids.length none]],aZ 8 false 0 [ak [iV 0,iV 0,iV 0,iV 0,ax [],ab,ab,ab]],AObj.dead,aZ 4 true 0<|c.map aQ,aZ 4 true 0<|d.map aQ,aZ 8 true a<|e.map aY])) (fun a b=>a<=u.kids.length/\b=lj dX u.kids a) (fun a _=>u.kids.length-a) (by exact⟨b8 _,rfl⟩) fun b e hx3 f=>have hx3:b<=u.kids.length/\e=lj dX u.kids b:=hx3;have:e.length=u.kids.length:=(by grind[wo]);have g:b<u.kids.length->kP (318:FuncId) [eU (gD e b)] (eU (dX (gD e b))):=fun h=>ihk _ (by grind[An,gc]);Ka 0 (Int.ofNat b) (Int.ofNat u.kids.length) (fun _ _=>K1 7 .rix (et (aV a) (sA:b<u.kids.length))<|Mr (et (aV a)<|sW aY (g:=Go.Ev.eU) aR (sA:b<(e).length))<|Mp (g sA)<|M1 .rix (et (aV a) (sA:b<u.kids.length))<|M3 (.rst (ak [iV (gD e b).act,iV (gD e b).item,iV (gD e b).n,iV (gD e b).kind,ax (gD e b).label,aJ<|List.map aQ (gD e b).head,aJ<|List.map aQ (gD e b).words,aJ<|List.map aY (gD e b).kids])<|(e.set b<|dX<|gD e b).map aY) rt (iO (tR 8 true a 6<|aW iB e) rt) (cF (aV a) (sW aY (g:=Go.Ev.eU) aR (sA:b<(e).length))<|Ed (f:=aY) (g:=Go.Ev.eU) aR (l:=e) (i:=b) (w:=dX<|gD e b))<|Kl 0 49 (kf b)<|Kf 0<|f (b+1) (e.set b<|dX<|gD e b) (by grind[An,Dx]) gR) fun _ _=>M2 (.fza 0 7 5 [1,2]<|e.map aY) (xM (tR 4 true 0 5<|aW jx d) (tR 4 true 0 5<|aW jx c) rt rt rt ti) (cF (aV a) (tA aY e u.kids.length (oA:(e).length=u.kids.length))<|aW iB e)<|M2 (.fza 0 6 4 [1,2]<|d.map aQ) (JV (tR 4 true 0 4<|aW jx c) rt rt rt ti) (cF (aV 0) (tA aQ d u.words.length (oA:(d).length=u.words.length))<|aW jx d)<|M2 (.fza 0 5 3 [1,2]<|c.map aQ) (kg rt rt rt ti) (cF (aV 0) (tA aQ c u.head.length (oA:(c).length=u.head.length))<|aW jx c)<|Kf 1 (bV (lc<|lc<|lc<|lc<|lc<|.cons (ct<|rr0<|c.map aQ)<|.cons (ct<|rr1<|d.map aQ)<|.cons (ct<|rr2<|e.map aY) .nil)<|by kernel_rfl:Le _ (AV.agg [iV 0,iV 0,iV 0,iV u.kind,AV.str u.label,AV.ls (c.map aQ),AV.ls (d.map aQ),AV.ls (e.map aY)]))
theorem Rz:Go.Proofs.Builder.Extra Tryz.prog Tryz.ljoin_ren:=by
  repeat' (first|kernel_rfl|(intro w;kernel_rfl)|decide|constructor)
theorem ET(l:List au)(sep:au)(h1:l.length<=140737488355328)(h2:(Lib.join l sep).length<=140737488355328):kP 36 [.ls (l.map nP),.str sep] (.str (Lib.join l sep)):=Oi (Go.Proofs.enters_of Tryz.func36 (by kernel_rfl) rfl) (fun a b c d e f g h i j k=>Go.Proofs.Any.strings_Join Go.Proofs.Tryz.ljoin Rz a b c d e f g h i j k) (fun a b c d=>Go.Proofs.Any.strings_Join_none Go.Proofs.Tryz.ljoin Rz a b c d) l sep h1 h2
theorem ZN:Go.Proofs.Builder.Extra Tryz.prog Tryz.lrep_ren:=by
  repeat' (first|kernel_rfl|(intro w;kernel_rfl)|decide|constructor)
theorem Xg(s:au)(c:Nat)(h1:c<=9223372036854775807)(h2:s.length*c<=140737488355328):kP 335 [.str s,nV c] (.str (Lib.repeatL s c)):=GM (Go.Proofs.enters_of Tryz.func335 (by kernel_rfl) rfl) (fun a b d e f=>Go.Proofs.Any.strings_Repeat Go.Proofs.Tryz.lrep ZN a b d e f) s c h1 h2
theorem Qo(s:au)(ws:List PWord)(hw:∀w,w∈ws->1<=w.text.length/\w.text.length<=24)(hb:s.length+26*ws.length<=2^40)(hn:ws.length<=2^20):kP 337 [.str s,.ls (ws.map aQ)] (.str (iX s ws)):=by
  have rr0 b' (h:(iX s ws)=b':=by first|rfl|(exact hj0.1.symm)):=h;exact b6 Tryz.func337<|Kl 2 8 (ln aQ ws)<|Mg 0<|Pi (0:Nat) ws s [0,7,8,9] (fun a _ b=>([ax b,aJ<|ws.map aQ,nV ws.length,nV a],[])) (fun a b c=>(ws).drop a=b/\iX c b=iX s ws/\List.length c+26*b.length<=2^40) (fun _ a _=>a.length) (et rfl<|by first|rfl|(first|simp_all|(refine⟨by(rw[<-hj0.1,pY];first|rw[FD h1]|rw[FC h1 h2]|rw[FB h1 h2]),?_⟩;have q:=hj0.2;simp only[lA,lC,lN]at *;omega))) fun a b c d e=>Mc b (fun a=>have b:=eu d.1 a;have hj0:=gJ (J:=fun a b=>iX b a=iX s ws/\List.length b+26*a.length<=2^40) (a:=c) a d.2;Kh 0 b<|Kf 1<|Le.str<|rr0 c) fun b f g=>let i:=[aZ 4 false 0 [ak [ax b.text,iV b.act,iV b.item,iV b.at_]]];have j:=fX d.1 g;have:=ap j;have k:=ei (enc:=aQ) d.1 g;have hj0:=cw (J:=fun a b=>iX b a=iX s ws/\List.length b+26*a.length<=2^40) (a:=c) g d.2;have:=hw b<|aA d.1 g;Kt 0 j<|Mx k<|Kv 3 (jp (s:=c) (u:=[32]) (H:=aw i) (by(first|first|assumption|omega|grind):(c).length+([32]).length<=2^62))<|K1 2 (.chr<|gD b.text 0) (Av (by first|omega|(simp only[oN,lM,lS]at *;omega)|(simp only[oN,lM,lS,lA,lR,lC,lN]at * <;>omega):0<(b.text).length))<|Kj 1 (Int.ofNat (gD b.text 0).toNat) 124 (fun j _=>Mt j<|Mt j<|Mt j<|MV j<|Kv 1 (jp (s:=c++[32]) (u:=[92]) (H:=aw i) (by(first|first|assumption|omega|grind):(c++[32]).length+([92]).length<=2^62))<|Kv 3 (jp (s:=c++[32]++[92]) (u:=b.text) (H:=aw i) (by(first|first|assumption|omega|grind):(c++[32]++[92]).length+(b.text).length<=2^62))<|Kl 1 31 (dq a)<|K1 0 (.frz 0 [0,7,8,9]) ti<|Mf<|e (a+1) f (c++[32]++[92]++b.text) (et (bf d.1 g)<|by first|exact⟨rfl,hb⟩|(refine⟨by(rw[<-hj0.1,pY];first|rw[FD j]|rw[FC j h2]|rw[FB j h2]),?_⟩;grind))<|ed g) fun j _=>Kh 0 j<|Kh 0 j<|M1 (.chr<|gD b.text 0) (Av (by first|omega|(simp only[oN,lM,lS]at *;omega)|(simp only[oN,lM,lS,lA,lR,lC,lN]at * <;>omega):0<(b.text).length))<|Mh j<|Kw 0 j<|Mb (aa (Int.ofNat (gD b.text 0).toNat) 92) (fun k=>have:=i9 k;Kv 0 (jp (s:=c++[32]) (u:=[92]) (H:=aw i) (by(first|first|assumption|omega|grind):(c++[32]).length+([92]).length<=2^62))<|Kv 3 (jp (s:=c++[32]++[92]) (u:=b.text) (H:=aw i) (by(first|first|assumption|omega|grind):(c++[32]++[92]).length+(b.text).length<=2^62))<|Kl 1 31 (dq a)<|K1 0 (.frz 0 [0,7,8,9]) ti<|Mf<|e (a+1) f (c++[32]++[92]++b.text) (et (bf d.1 g)<|by first|exact⟨rfl,hb⟩|(refine⟨by(rw[<-hj0.1,pY];first|rw[FD j]|grind[FC]|rw[FB j k]),?_⟩;grind))<|ed g) fun k=>have:=IU k;Kv 2 (jp (s:=c++[32]) (u:=b.text) (H:=aw i) (by(first|first|assumption|omega|grind):(c++[32]).length+(b.text).length<=2^62))<|Kl 1 31 (dq a)<|K1 0 (.frz 0 [0,7,8,9]) ti<|Mf<|e (a+1) f (c++[32]++b.text) (et (bf d.1 g)<|by first|exact⟨rfl,hb⟩|(refine⟨by(rw[<-hj0.1,pY];first|rw[FD j]|rw[FC j k]|grind[FB]),?_⟩;grind))<|ed g
theorem tz{u:TUnit}(h:nj u):nj (dX u):=by
  obtain⟨h1,h2⟩:=NL u
  refine⟨by rw[h1];exact h.1,fun x hx=>?_⟩
  obtain⟨y,hy,rfl⟩:=h2 x hx
  obtain⟨a,b,c,d,e⟩:=h.2 y hy
  rw[m5]
  refine⟨by grind[TUnit.head],by grind[TUnit.words],c,fun w hw=>?_,fun w hw=>?_⟩
  · obtain⟨v,hv,rfl⟩:=gO.1 hw;exact d v hv
  · obtain⟨v,hv,rfl⟩:=gO.1 hw;exact e v hv
theorem CL{u:TUnit}(h:sP u):nj (uD u):=by
  have e:bv (uD u)=[uD u]:=by rw[da];exact congrArg _ fS
  refine⟨by rw[ju];exact bu (xQ (congrArg (1+ ·) mL)) (by omega),fun x hx=>?_⟩
  rw[e]at hx
  rw[oC.1 hx];exact h
theorem Ek(u:TUnit)(h:nj u):kP 318 [eU u] (eU (dX u)):=
  P5 u (bu h.1 (by omega)) fun x hx=>⟨bu (h.2 x hx).1 (by omega),bu (h.2 x hx).2.1 (by omega)⟩
theorem RY(u:TUnit)(d:Nat)(hd:d<=2^20)(h:sP u):kP 334 [eU u,nV d] (.bool (EH u d)):=by
  have h1:=Ek (uD u) (CL h)
  have h2:=ym (dX (uD u)) (tz (CL h))
  have hz:=XD d
  have rr0 b' (h:(EH u d)=b':=by first|rfl|(unfold EH;simp only[aS,aj,bS, *];done)):=h;exact b6 Tryz.func334<|Kn 13 (aL 8<|Int.ofNat d) (fun a=>Kt 0 (dY a)<|Mp (bY.onArgs (.cons (bV (lc<|lc<|lc<|lc<|lc<|lc<|lc<|.cons bO .nil)<|by kernel_rfl) .nil) h1:kP 318 [ak [iV 0,iV 0,iV 0,iV u.kind,ax u.label,aJ (u.head.map aQ),aJ (u.words.map aQ),ab]] _)<|Mt (dY a)<|Mp h2<|MV (dY a)<|Kf 0<|cC<|rr0<|ki<|dX<|uD u) fun a=>Mh (c9 a)<|Mh (c9 a)<|My (c9 a)<|Ky 0<|rr0 false
theorem XT(u:TUnit)(d:Nat)(hd:d<=2^20)(h:sP u)(hm:EH u d=false):kP 320 [eU u,nV d] (.str (gr u d)):=by
  have h1:=RY u d hd h
  rw[hm]at h1
  have e:gr u d=[]:=by unfold gr;simp_all
  rw[e]
  exact b6 Tryz.func320<|Kp 3 h1<|Kf 2<|bo<|ax []
def Og(u:TUnit)(d:Nat)(z18:au):Prop:=(z18=bif aj (aa u.kind (0:Int))then Lib.repeatL [(32:UInt8),(32:UInt8)] d++bL u.kind++([(32:UInt8)]++u.label)else Lib.repeatL [(32:UInt8),(32:UInt8)] d++bL u.kind)/\List.length z18<=(40:Nat)
noncomputable def Of(u:TUnit)(d:Nat)(z18:au):List AV×List AObj:=([AV.ptr 0 0 0 0,AV.str z18],[AObj.row 8 false 0 [AV.agg (uLx u)]])
def Oe(u:TUnit)(z18:au)(z27:au):Prop:=(z27=bif aL (0:Int) (Int.ofNat u.head.length)then iX (z18++[(58:UInt8)]) u.head else z18)/\List.length z27<=(6700:Nat)
noncomputable def Od(u:TUnit)(z18:au)(z27:au):List AV×List AObj:=([AV.ptr 0 0 0 0,AV.str z27],[AObj.row 8 false 0 [AV.agg (uLx u)]])
theorem XS(u:TUnit)(d:Nat)(hd:d<=2^20)(h:sP u)(hm:EH u d=true):kP 320 [eU u,nV d] (.str (gr u d)):=by
  have h1:=RY u d hd h
  obtain⟨hd8,hlb,⟨hh1,hh2⟩,hw1,hw2⟩:=L8 hm
  have hrl:=Lib.repeatL_length [32,32] d
  simp only[lC,lN]at hrl
  have h2:=Xg [32,32] d (by omega) (by grind)
  have hk:=xu u.kind
  have hkl:=pI u.kind
  have hp1:∀s:au,s.length<=2^14->kP 337 [.str s,.ls (u.head.map aQ)] (.str (iX s u.head)):=fun s hs=>Qo s u.head hh2 (by omega) (by omega)
  have hp2:∀s:au,s.length<=2^14->kP 337 [.str s,.ls (u.words.map aQ)] (.str (iX s u.words)):=fun s hs=>Qo s u.words hw2 (by omega) (by omega)
  rw[hm]at h1
  have rr0 b' (h:(gr u d)=b':=by first|rfl|(unfold gr;rw[hm];simp only[aj,cond_false];rw[<-hz18.1,<-hz27.1];first|(rw[h3];rfl)|(rw[h4];rfl)|(rw[h5];rfl)|(rw[h6];rfl)|(rw[h7];rfl))):=h;let q1:=[aZ 8 false 0 [ak (uLx u)]];exact b6 Tryz.func320<|Kp 3 h1<|Kp 2 h2<|Kp 1 hk<|Mv (jp (s:=Lib.repeatL [32,32] d) (u:=bL u.kind) (H:=AHeap.mk 1000000 Tr.nil) (by(first|first|assumption|((try simp only[lA,lC,lN]);omega)|(simp only[lA,lC,lN]at *;omega)):(Lib.repeatL [32,32] d).length+(bL u.kind).length<=2^62))<|Mg 0<|Mj au [2,5] (Of u d) (Og u d) (fun a=>Kn 2 (aa u.kind 0) (fun _=>Kv 2 (jp (s:=[32]) (u:=u.label) (H:=aw q1) (by(first|first|assumption|((try simp only[lA,lC,lN]);omega)|(simp only[lA,lC,lN]at *;omega)):([32]).length+(u.label).length<=2^62))<|Mv (jp (s:=Lib.repeatL [32,32] d++bL u.kind) (u:=32::u.label) (H:=aw q1) (by(first|first|assumption|((try simp only[lA,lC,lN]);omega)|(simp only[lA,lC,lN]at *;omega)):(Lib.repeatL [32,32] d++bL u.kind).length+(32::u.label).length<=2^62))<|Kf 0<|a (Lib.repeatL [32,32] d++bL u.kind++32::u.label) (by(refine⟨by first|simp_all|(rw[h2];rfl)|(rw[h3];rfl)|(rw[h0];rfl),?_⟩;grind):(Lib.repeatL [(32:UInt8),(32:UInt8)] d++bL u.kind++(32:UInt8)::u.label=bif aj (aa u.kind (0:Int))then Lib.repeatL [(32:UInt8),(32:UInt8)] d++bL u.kind++([(32:UInt8)]++u.label)else Lib.repeatL [(32:UInt8),(32:UInt8)] d++bL u.kind)/\(Lib.repeatL [(32:UInt8),(32:UInt8)] d++bL u.kind++(32:UInt8)::u.label).length<=40)) fun _=>Mf<|a (Lib.repeatL [32,32] d++bL u.kind) (by(refine⟨by first|simp_all|(rw[h2];rfl)|(rw[h3];rfl)|(rw[h0];rfl),?_⟩;grind):(Lib.repeatL [(32:UInt8),(32:UInt8)] d++bL u.kind=bif aj (aa u.kind (0:Int))then Lib.repeatL [(32:UInt8),(32:UInt8)] d++bL u.kind++([(32:UInt8)]++u.label)else Lib.repeatL [(32:UInt8),(32:UInt8)] d++bL u.kind)/\(Lib.repeatL [(32:UInt8),(32:UInt8)] d++bL u.kind).length<=40)) fun a hz18=>have hz18:(a=bif aj (aa u.kind (0:Int))then Lib.repeatL [(32:UInt8),(32:UInt8)] d++bL u.kind++([(32:UInt8)]++u.label)else Lib.repeatL [(32:UInt8),(32:UInt8)] d++bL u.kind)/\List.length a<=40:=hz18;Mj au [2,5] (Od u a) (Oe u a) (fun b=>Kl 2 26 (ln aQ u.head)<|Kb 0 (aL 0<|Int.ofNat u.head.length) (fun h3=>Kv 0 (jp (s:=a) (u:=[58]) (H:=aw q1) (by(first|first|assumption|((try simp only[lA,lC,lN]);omega)|(simp only[lA,lC,lN]at *;omega)):(a).length+([58]).length<=2^62))<|Kp 1 (hp1 (a++[58])<|by first|assumption|((try simp only[lA,lC,lN]);omega))<|Kf 0<|b (iX (a++[58]) u.head) (by(refine⟨by first|simp_all|(rw[h2];rfl)|(rw[h4];rfl)|(rw[h5];rfl),?_⟩;first|omega|(have q:=vS (fun w hw=>(hh2 w hw).2) (a++[58]);grind)):(iX (a++[(58:UInt8)]) u.head=bif aL (0:Int) (Int.ofNat u.head.length)then iX (a++[(58:UInt8)]) u.head else a)/\List.length (iX (a++[(58:UInt8)]) u.head)<=6700)) fun h3=>Mf<|b a (by(refine⟨by first|simp_all|(rw[h2];rfl)|(rw[h4];rfl)|(rw[h5];rfl),?_⟩;first|omega|(have q:=vS (fun w hw=>(hh2 w hw).2) (a++[58]);simp only[lA,lC,lN]at q;omega)):(a=bif aL (0:Int) (Int.ofNat u.head.length)then iX (a++[(58:UInt8)]) u.head else a)/\List.length a<=6700)) fun b hz27=>have hz27:(b=bif aL (0:Int) (Int.ofNat u.head.length)then iX (a++[(58:UInt8)]) u.head else a)/\List.length b<=6700:=hz27;Kl 2 35 (ln aQ u.words)<|Kb 0 (aL 0<|Int.ofNat u.words.length) (fun h4=>Kv 0 (jp (s:=b) (u:=[32,124]) (H:=aw q1) (by(first|first|assumption|((try simp only[lA,lC,lN]);omega)|(simp only[lA,lC,lN]at *;omega)):(b).length+([32,124]).length<=2^62))<|Kp 1 (hp2 (b++[32,124])<|by first|assumption|((try simp only[lA,lC,lN]);omega))<|Kf 2<|Le.str<|rr0<|iX (b++[32,124]) u.words) fun h4=>Kf 1<|Le.str<|rr0 b
theorem MY(u:TUnit)(d:Nat)(hd:d<=2^20)(h:sP u):kP 320 [eU u,nV d] (.str (gr u d)):=by
  grind[XT,XS]
noncomputable abbrev IL(ep n:Nat):AObj:=.row 1 false 0 [.slice 2 ep 0 n none]
noncomputable abbrev Fc:AObj:=.row 1 false 0 [.func (.func 319) [] [.ptr 0 0 0 0,.ptr 1 0 0 0]]
noncomputable abbrev Gb(ep:Nat)(l:List au):AObj:=.row 1 true ep (l.map nP)
def tO(u:TUnit)(d:Nat)(l:List au)(x0:Nat×List TUnit×Nat×Nat×List au):Prop:=(u.kids).drop x0.1=x0.2.1/\x0.2.2.2.1=x0.2.2.2.2.length/\x0.2.2.2.2++dc (d+(1:Nat)) x0.2.1=l++[gr u d]++dc (d+(1:Nat)) u.kids/\x0.2.2.2.2.length+eL x0.2.1<=2^20
noncomputable def tL(u:TUnit)(d:Nat)(l:List au)(x0:Nat×List TUnit×Nat×Nat×List au):List AV×List AObj:=([nV d,AV.ptr 1 0 0 0,AV.ls (u.kids.map aY),nV u.kids.length,nV x0.1],[AObj.row 1 false 0 [AV.slice 2 x0.2.2.1 0 x0.2.2.2.1 none],AObj.row 1 false 0 [AV.func (Fn.func 319) [] [AV.ptr 0 0 0 0,AV.ptr 1 0 0 0]],AObj.row 1 true x0.2.2.1 (x0.2.2.2.2.map nP)])
theorem ZO:∀(u:TUnit)(d ep n:Nat)(l:List au),n=l.length->l.length+nU u<=2^20->d+nU u<=2^20->(∀x,x∈bv u->sP x)->kC 319 [eU u,nV d,.ptr 0 0 0 0,.ptr 1 0 0 0] (aw [IL ep n,Fc,Gb ep l])
    (fun v h=>∃y:Nat×Nat×List au,(y.2.1=y.2.2.length/\y.2.2=l++eO d u)/\v=.tuple []/\h=aw [IL y.1 y.2.1,Fc,Gb y.1 y.2.2]):=by
  refine TUnit.ind fun u ih d ep n l hn hl hd ht=>?_
  have hq:=ju u
  have hkl:=bg u
  have hf:=MY u d (by omega) (ht u (cX u))
  have ihk:∀k,k∈u.kids->∀(d ep n:Nat)(l:List au),n=l.length->l.length+nU k<=2^20->d+nU k<=2^20->kC 319 [eU k,nV d,.ptr 0 0 0 0,.ptr 1 0 0 0] (aw [IL ep n,Fc,Gb ep l])
    (fun v h=>∃y:Nat×Nat×List au,(y.2.1=y.2.2.length/\y.2.2=l++eO d k)/\v=.tuple []/\h=aw [IL y.1 y.2.1,Fc,Gb y.1 y.2.2]):=fun k hk d ep n l a b c=>ih k hk d ep n l a b c (fun x hx=>ht x (bj hk hx))
  exact qS Tryz.func319 fun e=>Kp 3 hf<|Mg 0<|Mw (.apx ((l++[gr u d]).map nP)<|.go 3<|.le 16 (nV u.kids.length)<|.go 0<|.frz 3 [1,3,15,16,17]<|.loop (Nat×List TUnit×Nat×Nat×List au) [1,3,15,16,17] (tL u d l) (tO u d l) (fun e=>e.2.1.length) (0,u.kids,(ep+1,n+1,l++[gr u d])) fun e=>.cs TUnit e.2.1 (.go 0<|.ff .fin) fun f _=>.go 0<|.tt<|.elem (eU f)<|.go 6<|.le 24 (nV<|d+1)<|.frz 3 [1,3,15,16,17,21,22,24]<|.eff (Nat×Nat×List au) (fun _=>bP []) (fun e=>aw [IL e.1 e.2.1,Fc,Gb e.1 e.2.2]) (fun g=>g.2.1=g.2.2.length/\g.2.2=e.2.2.2.2++eO (d+1) f) fun _=>.go 0<|.le 26 (nV<|e.1+1)<|.go 0 .fin)<|TP rt (iO (tR 1 true ep 4<|aW KE l) rt) (et (mo _ _:([ax (gr u d)]:List AV)≠[]) rt) (et (cF (aV ep) (by first|assumption|omega|simp_all|(refine aF (m:=2^31) ?_ ?_ ?_<;>(try simp only[lM,lC,lN])<;>omega):n=(l.map nP).length) (by first|assumption|omega|(simp only[lM];omega)|(refine aF (m:=2^31) ?_ ?_ ?_<;>(try simp only[lM,lC,lN])<;>omega):small (n+([AV.str (gr u d)]).length) 16=true))<|cT (f:=nP) (l:=l) (ws:=[gr u d])) (ln aY u.kids) (kg (tR 1 true (ep+1) 3<|aW KE<|l++[gr u d]) rt rt ti) (aV<|tL u d l (0,u.kids,(ep+1,n+1,l++[gr u d]))) (et (rfl:List.drop 0 (u.kids)=u.kids) (by first|rfl|(first|grind|(have h1:=hj0.2.1;have h2:=hj0.2.2;rw[bF]at h2;rw[mM]at h1;exact⟨hy1.1,(by rw[hy1.2,<-h1];simp),(by rw[hy1.2,lA,lr];omega)⟩)):(n+1=(l++[gr u d]).length/\l++[gr u d]++dc (d+1) u.kids=l++[gr u d]++dc (d+1) u.kids/\(l++[gr u d]).length+eL u.kids<=2^20))) fun(f:Nat×List TUnit×Nat×Nat×List au)(g:(tO u d l) f)=>et (fun(i:f.2.1=[])=>have j:=eu g.1 i;have:=gJ (J:=fun e f=>f.2.1=f.2.2.length/\f.2.2++dc (d+1) e=l++[gr u d]++dc (d+1) u.kids/\f.2.2.length+eL e<=2^20) (a:=f.2.2) i g.2;et j<|e (f.2.2.1,f.2.2.2.1,f.2.2.2.2)<|by first|grind[xp,Dk]|rfl) fun(e:TUnit)(i:List TUnit)(j:f.2.1=e::i)=>have o:=fX g.1 j;have:=ap o;have p:=(ei (enc:=aY) g.1 j).trans<|congrArg some<|aR e;have:=cw (J:=fun e f=>f.2.1=f.2.2.length/\f.2.2++dc (d+1) e=l++[gr u d]++dc (d+1) u.kids/\f.2.2.length+eL e<=2^20) (a:=f.2.2) j g.2;have q:=aA g.1 j;have r:f.2.2.2.2.length+nU e<=2^20:=(by grind[bF]);have s:d+1+nU e<=2^20:=(by have:=gv q;omega);xM o p (kf d) (kg (tR 1 true f.2.2.1 3<|aW KE f.2.2.2.2) rt rt ti) (ihk e q (d+1) f.2.2.1 f.2.2.2.1 f.2.2.2.2 (by first|assumption|omega|(simp only[lM];omega)|(refine aF (m:=2^31) ?_ ?_ ?_<;>(try simp only[lM,lC,lN])<;>omega)) r s) fun(o:Nat×Nat×List au)(_:o.2.1=o.2.2.length/\o.2.2=f.2.2.2.2++eO (d+1) e)=>et (kf f.1)<|Nx.mk (I:=tO u d l) (m:=fun e=>e.2.1.length) (S:=tL u d l) (x:=f) (f.1+1,i,(o.1,o.2.1,o.2.2)) (et (bf g.1 j) (by first|exact⟨by simp[hn],rfl,by simp;omega⟩|grind[bF,mM,lr]:(o.2.1=o.2.2.length/\o.2.2++dc (d+1) i=l++[gr u d]++dc (d+1) u.kids/\o.2.2.length+eL i<=2^20)))<|ed j
theorem ZP(u:TUnit)(d:Nat)(hl:nU u<=2^19)(hd:d+nU u<=2^20)(ht:∀x,x∈bv u->sP x):kC 319 [eU u,nV d,.ptr 0 0 0 0,.ptr 1 0 0 0] (aw [.row 1 false 0 [.nils],Fc])
    (fun v h=>∃y:Nat×Nat×List au,(y.2.1=y.2.2.length/\y.2.2=eO d u)/\v=.tuple []/\h=aw [IL y.1 y.2.1,Fc,Gb y.1 y.2.2]):=by
  have hq:=ju u
  have hkl:=bg u
  have hf:=MY u d (by omega) (ht u (cX u))
  have ihk:∀k,k∈u.kids->∀(d ep n:Nat)(l:List au),n=l.length->l.length+nU k<=2^20->d+nU k<=2^20->kC 319 [eU k,nV d,.ptr 0 0 0 0,.ptr 1 0 0 0] (aw [IL ep n,Fc,Gb ep l])
    (fun v h=>∃y:Nat×Nat×List au,(y.2.1=y.2.2.length/\y.2.2=l++eO d k)/\v=.tuple []/\h=aw [IL y.1 y.2.1,Fc,Gb y.1 y.2.2]):=fun k hk d ep n l a b c=>ZO k d ep n l a b c (fun x hx=>ht x (bj hk hx))
  exact qS Tryz.func319 fun e=>Kp 3 hf<|Kl 5 16 (ln aY u.kids)<|Mg 0<|M0 (.ren [0,1,3,2] [] [1,3,15,16,17])<|M1 (.frz 3 [1,3,15,16,17]) (kg rt rt rt ti)<|TS aY u.kids (0:Nat) (1:Nat) ([gr u d]:List au) [1,3,15,16,17] (fun e _ f g i=>([nV d,ah 1 0 0 0,aJ<|u.kids.map aY,nV u.kids.length,nV e],[aZ 1 false 0 [bQ 2 f 0 g none],aZ 1 false 0 [bx (bz 319) [] [ah 0 0 0 0,ah 1 0 0 0]],aZ 1 true f<|i.map nP])) (fun e _ f g=>f=g.length/\g++dc (d+1) e=[gr u d]++dc (d+1) u.kids/\g.length+eL e<=2^20) (by first|rfl|(first|grind|(have h1:=hj0.2.1;have h2:=hj0.2.2;rw[bF]at h2;rw[mM]at h1;exact⟨hy1.1,(by rw[hy1.2,<-h1];simp),(by rw[hy1.2,lA,lr];omega)⟩))) (fun _ _ f g i _ _ _ j _=>Kh 0 j<|Mf<|e (f,g,i)<|by first|grind[xp,Dk]|rfl) fun e _ f g i j m o p q r s _ t _=>have t:=(t).trans<|congrArg some<|aR o;have:=cw (J:=fun e f=>f.2.1=f.2.2.length/\f.2.2++dc (d+1) e=[gr u d]++dc (d+1) u.kids/\f.2.2.length+eL e<=2^20) (a:=(f,g,i)) r m;have j:=aA j r;have m:i.length+nU o<=2^20:=(by grind[bF]);have r:d+1+nU o<=2^20:=(by have:=gv j;omega);Kt 0 s<|Mx t<|Kl 6 24 (kf d)<|M1 (.frz 3 [1,3,15,16,17,21,22,24]) (kg (tR 1 true f 3<|aW KE i) rt rt ti)<|Mq (ihk o j (d+1) f g i (by first|assumption|omega) m r) fun f _=>Kl 0 26 (kf e)<|Kf 0<|q f.1 f.2.1 f.2.2<|by first|exact⟨by simp[hl],rfl,by simp;omega⟩|grind[bF,mM,lr]
theorem XR(u:TUnit)(h:nj u)(hv:ki (dX u)=false):kP 287 [eU u] (.ls (([]:List au).map nP)):=by
  have h1:=Ek u h
  have h2:=ym (dX u) (tz h)
  exact b6 Tryz.func287<|Kp 2 h1<|Mp h2<|Kt 0 (dY hv)<|Kf 0 bO
theorem XP(u:TUnit)(h:nj u)(hv:ki (dX u)=true):kP 287 [eU u] (.ls ((eO 0 u).map nP)):=by
  have h1:=Ek u h
  have h2:=ym (dX u) (tz h)
  have h3:=ZP u 0 h.1 (by have:=h.1;omega) h.2
  have rr0 b' (h:((eO 0 u).map nP)=b':=by first|rfl|(rw[hy0.2])):=h;exact b6 Tryz.func287<|Kp 2 h1<|Mp h2<|Kh 0 (c9 hv)<|Mg 5<|M0 (.ren [1,2,0] [] [3,10,11])<|M1 (.frz 2 [3,10,11]) (cF rt rt ti)<|Mq h3 fun a hy0=>Mg 1<|M2 (.fsl 0 [] 2<|a.2.2.map nP) ti (cF (aV a.1) (tA nP a.2.2 a.2.1 (by first|assumption|omega:(a.2.2).length=a.2.1))<|aW KE a.2.2)<|Ml 2 (fc (a.2.2.map nP) false<|aW KE a.2.2)<|Mf<|ct<|rr0<|a.2.2.map nP
theorem Z4(u:TUnit)(h:nj u)(hv:ki (dX u)=false):kP 254 [eU u] (.tuple [.str (yb u).1,iV (yb u).2]):=by
  have h1:=XR u h hv
  have e:yb u=([],1):=by unfold yb;simp_all
  rw[e]
  exact b6 Tryz.func254<|Kp 3 h1<|Kf 6<|bo<|bP [ax [],iV 1]
theorem Z3(u:TUnit)(h:nj u)(hv:ki (dX u)=true):kP 254 [eU u] (.tuple [.str (yb u).1,iV (yb u).2]):=by
  have h1:=XP u h hv
  have hlen:=lr 0 u
  have hq:=ju u
  have hm:=h.1
  have hjl:=vU (sep:=[10]) (B:=2^14) (l:=eO 0 u) (fun s hs=>AB 0 u s hs)
  rw[hlen]at hjl
  have hj2:(Lib.join (eO 0 u) [10]).length<=140737488355328:=bu hjl (bu (fV _ hm) (by grind))
  have hj3:(Lib.join (eO 0 u) [10]).length<=2^40:=bu hjl (bu (fV _ hm) (by grind))
  have hj:=ET (eO 0 u) [10] (by omega) hj2
  have hz:aa (.ofNat (eO 0 u).length) 0=false:=by grind[Sl]
  have e:yb u=(bif aL 16384 (.ofNat (Lib.join (eO 0 u) [10]++[10]).length)then([],6)else(Lib.join (eO 0 u) [10]++[10],0)):=by unfold yb;simp_all
  rw[e]
  clear e
  generalize Lib.join (eO 0 u) [10]=J at *
  cases hb:aL 16384 (.ofNat (J++[10]).length)
  · have hb2:aL 16384 (.ofNat (J++[10]).length)=false:=hb
    exact b6 Tryz.func254<|Kp 3 h1<|Kl 2 9 (ln nP<|eO 0 u)<|Kh 0 hz<|Kp 0 hj<|Mv (jp (s:=J) (u:=[10]) (H:=aw [aZ 8 false 0 [ak (uLx u)]]) (by(first|first|assumption|grind|omega|(simp only[lA,lC,lN]at *;omega)):(J).length+([10]).length<=2^62))<|Kh 3 hb<|Kf 2<|bo<|bP [ax<|J++[10],iV 0]
  · have hb2:aL 16384 (.ofNat (J++[10]).length)=true:=hb
    exact b6 Tryz.func254<|Kp 3 h1<|Kl 2 9 (ln nP<|eO 0 u)<|Kh 0 hz<|Kp 0 hj<|Mv (jp (s:=J) (u:=[10]) (H:=aw [aZ 8 false 0 [ak (uLx u)]]) (by(first|first|assumption|grind|omega|(simp only[lA,lC,lN]at *;omega)):(J).length+([10]).length<=2^62))<|Kt 3 hb<|Kf 1<|bo<|bP [ax [],iV 6]
theorem Yw(u:TUnit)(h:nj u):kP 254 [eU u] (.tuple [.str (yb u).1,iV (yb u).2]):=by
  grind[Z4,Z3]
def WG(u:TUnit):Bool:=D0 u&&(aj (aa u.kind 0)&&aa (yb u).2 0)
theorem X4(u:TUnit)(h:nj u):kP 190 [eU u] (.bool (WG u)):=by
  have q1:=Yw u h
  have q2:=YR u h
  have rr0 b' (h:(WG u)=b':=by first|rfl|(unfold WG;rw[h0];rfl)|(unfold WG;rw[h0,h1];rfl)|(unfold WG;rw[h0,h1,h2];rfl)):=h;exact b6 Tryz.func190<|Kp 2 q1<|Kp 5 q2<|Kb 0 (D0 u) (fun h0=>Kt 0 h0<|Kt 0 h0<|Ku 0 h0<|Kn 0 (aa u.kind 0) (fun h1=>Kt 0 (dY h1)<|Ku 0 (dY h1)<|Kf 0<|cC<|rr0<|aa (yb u).2 0) fun h1=>Mh (c9 h1)<|My (c9 h1)<|Ky 0<|rr0 false) fun h0=>Mh h0<|Mh h0<|My h0<|Ky 2<|rr0 false
def qe(x:PItem):Prop:=n6 x/\(x.at_.length<2^40/\∀s,s∈x.at_->s.label.length<=2^39)/\(x.to.length<2^40/\∀s,s∈x.to->s.label.length<=2^39)/\(x.old.length<2^40/\∀s,s∈x.old->s.length<=2^39)/\(x.new.length<2^40/\∀s,s∈x.new->s.length<=2^39)/\x.label.length<=2^39/\x.for_.length<=2^39/\x.start.event.length<=2^39/\nj x.unit
def xE(x:PItem):Prop:=(x.kind=0\/x.kind=6->jK x.where_=true)/\((x.kind=0->WG x.unit=true)/\(x.kind=5->gI x.label=true))/\(x.kind=2\/x.kind=3->mA x.old=true/\Ck x.nth_=true)/\(x.kind=2\/x.kind=3\/x.kind=4->mA x.new=true)
theorem rK{l:List au}{n:Int}(h:rV l n=true):mA l=true:=by
  unfold rV at h;rw[bZ]at h;exact h.1
theorem XQ(x:PItem)(hx:qe x)(h0:0<=x.kind)(h6:x.kind<=6):∃b,kP 93 [eI x] (.bool b)/\(b=true->xE x):=by
  obtain⟨k,a,t,w,n,u,o,ne,l,f,s,ac,im,d,e,bs⟩:=x
  obtain⟨hf,⟨ha,has⟩,⟨ht,hts⟩,⟨ho,hos⟩,⟨hn,hns⟩,hl,hfo,hse,hu⟩:=hx
  have hz:uW bC:=⟨by decide,by decide,by decide,trivial⟩
  have n0:(0:Nat)<2^60:=by decide
  obtain⟨f1,f2,f3,f4,f5,f6,f7⟩:=hf
  have hff:∀k w n,n6 ⟨k,a,t,w,n,u,o,ne,l,f,s,ac,im,d,e,bs⟩:=fun _ _ _=>⟨f1,f2,f3,f4,f5,f6,f7⟩
  have h0:0<=k:=h0
  have h6:k<=6:=h6
  have hk:k=0\/k=1\/k=2\/k=3\/k=4\/k=5\/k=6:=by omega
  rcases hk with rfl|rfl|rfl|rfl|rfl|rfl|rfl
  · refine⟨_,pc ⟨0,a,t,w,n,u,o,ne,l,f,s,ac,im,d,e,bs⟩ (oh ⟨0,a,t,w,n,u,o,ne,l,f,s,ac,im,d,e,bs⟩ 0) 187 188 _ _ rfl rfl (V8 _) (uQ _ (hff _ _ _) (xF ⟨0,a,t,w,n,u,o,ne,l,f,s,ac,im,d,e,bs⟩ (oh ⟨0,a,t,w,n,u,o,ne,l,f,s,ac,im,d,e,bs⟩ 0)) ⟨f1,n0,n0,n0,n0,f6,trivial⟩) (VZ a t w n u o ne l f s ac im d e bs (WG u) (X4 u hu)) ha has hfo hse,fun h=>?_⟩
    simp only[bZ]at h
    exact⟨fun _=>h.2.2.2.2.1,⟨fun _=>h.2.2.2.2.2,fun q=>(by cases q)⟩,fun q=>(by rcases q with q|q<;>cases q),fun q=>(by rcases q with q|q|q<;>cases q)⟩
  · refine⟨_,pc ⟨1,a,t,w,n,u,o,ne,l,f,s,ac,im,d,e,bs⟩ (oh ⟨1,a,t,w,n,u,o,ne,l,f,s,ac,im,d,e,bs⟩ 1) 191 192 _ _ rfl rfl (V7 _) (uQ _ (hff _ _ _) (xF ⟨1,a,t,w,n,u,o,ne,l,f,s,ac,im,d,e,bs⟩ (oh ⟨1,a,t,w,n,u,o,ne,l,f,s,ac,im,d,e,bs⟩ 1)) ⟨f1,n0,n0,n0,n0,hz,trivial⟩) (VQ a t w n u o ne l f s ac im d e bs) ha has hfo hse,fun h=>?_⟩
    exact⟨fun q=>(by rcases q with q|q<;>cases q),⟨fun q=>(by cases q),fun q=>(by cases q)⟩,fun q=>(by rcases q with q|q<;>cases q),fun q=>(by rcases q with q|q|q<;>cases q)⟩
  · refine⟨_,pc ⟨2,a,t,w,n,u,o,ne,l,f,s,ac,im,d,e,bs⟩ (oh ⟨2,a,t,w,n,u,o,ne,l,f,s,ac,im,d,e,bs⟩ 2) 193 194 _ _ rfl rfl (V6 _) (uQ _ (hff _ _ _) (xF ⟨2,a,t,w,n,u,o,ne,l,f,s,ac,im,d,e,bs⟩ (oh ⟨2,a,t,w,n,u,o,ne,l,f,s,ac,im,d,e,bs⟩ 2)) ⟨f1,n0,f3,f4,n0,hz,trivial⟩) (U9 a t w n u o ne l f s ac im d e bs ho hn hos hns) ha has hfo hse,fun h=>?_⟩
    simp only[bZ]at h
    exact⟨fun q=>(by rcases q with q|q<;>cases q),⟨fun q=>(by cases q),fun q=>(by cases q)⟩,fun _=>⟨rK h.2.2.2.2.1,h.2.2.2.2.2.2⟩,fun _=>rK h.2.2.2.2.2.1⟩
  · refine⟨_,pc ⟨3,a,t,w,n,u,o,ne,l,f,s,ac,im,d,e,bs⟩ (oh ⟨3,a,t,w,n,u,o,ne,l,f,s,ac,im,d,e,bs⟩ 3) 197 198 _ _ rfl rfl (V5 _) (uQ _ (hff _ _ _) (xF ⟨3,a,t,w,n,u,o,ne,l,f,s,ac,im,d,e,bs⟩ (oh ⟨3,a,t,w,n,u,o,ne,l,f,s,ac,im,d,e,bs⟩ 3)) ⟨f1,n0,f3,f4,n0,hz,trivial⟩) (U8 a t w n u o ne l f s ac im d e bs ho hn hos hns) ha has hfo hse,fun h=>?_⟩
    simp only[bZ]at h
    exact⟨fun q=>(by rcases q with q|q<;>cases q),⟨fun q=>(by cases q),fun q=>(by cases q)⟩,fun _=>⟨rK h.2.2.2.2.1,h.2.2.2.2.2.2.1⟩,fun _=>rK h.2.2.2.2.2.1⟩
  · refine⟨_,pc ⟨4,a,t,w,n,u,o,ne,l,f,s,ac,im,d,e,bs⟩ (oh ⟨4,a,t,w,n,u,o,ne,l,f,s,ac,im,d,e,bs⟩ 4) 199 200 _ _ rfl rfl (V4 _) (uQ _ (hff _ _ _) (xF ⟨4,a,t,w,n,u,o,ne,l,f,s,ac,im,d,e,bs⟩ (oh ⟨4,a,t,w,n,u,o,ne,l,f,s,ac,im,d,e,bs⟩ 4)) ⟨f1,n0,n0,f4,n0,hz,trivial⟩) (U7 a t w n u o ne l f s ac im d e bs hn hns) ha has hfo hse,fun h=>?_⟩
    simp only[bZ]at h
    exact⟨fun q=>(by rcases q with q|q<;>cases q),⟨fun q=>(by cases q),fun q=>(by cases q)⟩,fun q=>(by rcases q with q|q<;>cases q),fun _=>rK h.2.2.2.2⟩
  · refine⟨_,pc ⟨5,a,t,w,n,u,o,ne,l,f,s,ac,im,d,e,bs⟩ (oh ⟨5,a,t,w,n,u,o,ne,l,f,s,ac,im,d,e,bs⟩ 5) 201 202 _ _ rfl rfl (V3 _) (uQ _ (hff _ _ _) (xF ⟨5,a,t,w,n,u,o,ne,l,f,s,ac,im,d,e,bs⟩ (oh ⟨5,a,t,w,n,u,o,ne,l,f,s,ac,im,d,e,bs⟩ 5)) ⟨f1,n0,n0,n0,n0,hz,trivial⟩) (U6 a t w n u o ne l f s ac im d e bs hl) ha has hfo hse,fun h=>?_⟩
    simp only[bZ]at h
    exact⟨fun q=>(by rcases q with q|q<;>cases q),⟨fun q=>(by cases q),fun _=>h.2.2.2.2⟩,fun q=>(by rcases q with q|q<;>cases q),fun q=>(by rcases q with q|q|q<;>cases q)⟩
  · refine⟨_,pc ⟨6,a,t,w,n,u,o,ne,l,f,s,ac,im,d,e,bs⟩ (oh ⟨6,a,t,w,n,u,o,ne,l,f,s,ac,im,d,e,bs⟩ 6) 203 204 _ _ rfl rfl (V2 _) (uQ _ (hff _ _ _) (xF ⟨6,a,t,w,n,u,o,ne,l,f,s,ac,im,d,e,bs⟩ (oh ⟨6,a,t,w,n,u,o,ne,l,f,s,ac,im,d,e,bs⟩ 6)) ⟨f1,f2,n0,n0,n0,hz,trivial⟩) (U5 a t w n u o ne l f s ac im d e bs ht hts) ha has hfo hse,fun h=>?_⟩
    simp only[bZ]at h
    exact⟨fun _=>h.2.2.2.2.1,⟨fun q=>(by cases q),fun q=>(by cases q)⟩,fun q=>(by rcases q with q|q<;>cases q),fun q=>(by rcases q with q|q|q<;>cases q)⟩
theorem xm{u:TUnit}(h:OkB u):∀x,x∈bv u->x.head.length<2^30/\x.words.length<2^30:=fun x hx=>⟨oB (h.w x hx).1 (by omega),oB (h.w x hx).2 (by omega)⟩
theorem Es(p:PId)(u:TUnit)(hn:nU u<=1024): -1<=rj p u/\rj p u<=2^20:=by
  cases h:iZ p u with
  |false=>rw[QE h];omega
  | true=>
    obtain⟨q,i,h1,_,h3,h4,_⟩:=oH u h
    have:=eA h1
    grind[bg]
theorem yM(w:Int)(u:TUnit)(p:PId)(hn:nU u<=1024): -1<=(dx w u p).1.at_/\(dx w u p).1.at_<=2^41:=by
  have hb:=Es p u hn
  have key:∀n:Int,0<=n->n<=1-> -1<=(oU u p n).1.at_/\(oU u p n).1.at_<=2^41:=fun n h0 h1=>by
    unfold oU
    cases iZ p u
    · exact⟨by show(-1:Int)<=0;omega,by show(0:Int)<=_;omega⟩
    grind
  unfold dx
  cases aa w 0
  · cases aa w 1
    · grind
    · show -1<=Int.ofNat _/\Int.ofNat _<=2^41
      have:(ch p u).kids.length<=1024:=by
        cases h:bX p u with
        | true=>
          have:=eA (oa h).1
          grind[bg]
        |false=>unfold ch;rw[h];exact b8 _
      grind
  simp_all
theorem wF{u:TUnit}(hu:OkB u)(p:PId):kP 21 [eU u,aX p] (.tuple [eU (ch p u),.bool (bX p u)]):=Sz p u (bu hu.n (by omega)) (xm hu)
theorem kH{u:TUnit}(hu:OkB u)(p:PId):kP 184 [eU u,aX p] (.tuple [aX (rx p u),iV (rj p u),.bool (iZ p u)]):=QB p u (bu hu.n (by omega))
theorem xl{u:TUnit}(hu:OkB u)(p:List PStep)(hp:p.length<2^40/\∀s,s∈p->s.label.length<=2^39):kP 14 [eU u,.ls (p.map aK)] (.tuple [aX (aH u p).1,iV (aH u p).2]):=
  OD u p (M9 u p (bu hu.n (by omega)) hp.1 hp.2) (bu hu.n (by omega))
theorem MA{u:TUnit}(hu:OkB u)(p:PId):kP 308 [eU u,aX p] (.tuple [fL (dx 0 u p).1,iV (dx 0 u p).2]):=Ry u _ p _ (wF hu p)
theorem Mu{u:TUnit}(hu:OkB u)(p:PId):kP 311 [eU u,aX p] (.tuple [fL (dx 1 u p).1,iV (dx 1 u p).2]):=Rv u _ p _ (wF hu p)
theorem Mm{u:TUnit}(hu:OkB u)(p:PId):kP 313 [eU u,aX p] (.tuple [fL (dx 2 u p).1,iV (dx 2 u p).2]):=Rw u p _ _ _ (kH hu p) (by have:=Es p u hu.n;omega)
theorem Mk{u:TUnit}(hu:OkB u)(p:PId):kP 315 [eU u,aX p] (.tuple [fL (dx 3 u p).1,iV (dx 3 u p).2]):=Rk u p _ _ _ (kH hu p) (by have:=Es p u hu.n;omega)
theorem xK{w:Int}(h:jK w=true):w=0\/w=1\/w=2\/w=3:=by
  unfold jK at h
  rw[bZ]at h
  have h1:=fP h.1
  have h2:=fP h.2
  omega
theorem UA{u:TUnit}(hu:OkB u)(p:List PStep)(hp:p.length<2^40/\∀s,s∈p->s.label.length<=2^39)(w:Int)(hw:jK w=true):kP 234 [eU u,.ls (p.map aK),iV w]
    (.tuple [aX (C2 (aH u p).2 (dx w u (aH u p).1).1 (dx w u (aH u p).1).2).1.id,iV (C2 (aH u p).2 (dx w u (aH u p).1).1 (dx w u (aH u p).1).2).1.at_,iV (C2 (aH u p).2 (dx w u (aH u p).1).1 (dx w u (aH u p).1).2).2]):=by
  rcases xK hw with rfl|rfl|rfl|rfl
  · exact sQ 0 _ rfl rfl u p _ _ _ _ (xl hu p hp) (MA hu _)
  · exact sQ 1 _ rfl rfl u p _ _ _ _ (xl hu p hp) (Mu hu _)
  · exact sQ 2 _ rfl rfl u p _ _ _ _ (xl hu p hp) (Mm hu _)
  · exact sQ 3 _ rfl rfl u p _ _ _ _ (xl hu p hp) (Mk hu _)
theorem YY{u:TUnit}(hu:OkB u)(p q:PId)(w:Int)(hw:jK w=true):∃bs,kP 236 [eU u,aX p,aX q,iV w]
    (.tuple [fL (oe p q (rx p u) (rj p u) (iZ p u) ((pJ q u).any (bh p)) bs (dx w u q).1 (dx w u q).2).1,iV (oe p q (rx p u) (rj p u) (iZ p u) ((pJ q u).any (bh p)) bs (dx w u q).1 (dx w u q).2).2]):=by
  have hb:=Es p u hu.n
  have hb: -1<=rj p u/\rj p u<=2^40:=by omega
  have hn:nU u<=2^20:=bu hu.n (by omega)
  have hal:(pJ q u).length<2^40:=by
    grind[lO,pJ]
  have hC:=Na (pJ q u) p hal
  rcases xK hw with rfl|rfl|rfl|rfl
  · exact⟨_,HG 0 _ rfl rfl rfl u p q _ _ _ _ _ _ _ hb (yM 0 u q hu.n) (kH hu p) (I2 q u hn) hC (MA hu q)⟩
  · exact⟨_,HG 1 _ rfl rfl rfl u p q _ _ _ _ _ _ _ hb (yM 1 u q hu.n) (kH hu p) (I2 q u hn) hC (Mu hu q)⟩
  · exact⟨_,R0 u p q _ _ _ _ _ _ _ hb (yM 2 u q hu.n) (kH hu p) (I2 q u hn) hC (Mm hu q)⟩
  · exact⟨_,RT u p q _ _ _ _ _ _ _ hb (yM 3 u q hu.n) (kH hu p) (I2 q u hn) hC (Mk hu q)⟩
theorem H0{B:Nat}:∀{l:List TUnit},(∀x,x∈l->(oQ x).length<=B)->(l.flatMap oQ).length<=B*l.length
  |[],_=>b8 _
  | x::r,h=>by
    have h1:=h x ef
    have h2:=H0 (l:=r) fun y hy=>h y (dA _ hy)
    rw[zJ,lA,lC,Nat.mul_succ];omega
theorem P2{u:TUnit}(h:nj u):(mT u).length<=2^29:=by
  rw[Th]
  have h1:∀x,x∈bv u->(oQ x).length<=600:=fun x hx=>by
    obtain⟨a,b,_⟩:=h.2 x hx
    unfold oQ;rw[lA];omega
  have h2:=H0 h1
  have h3:(bv u).length=nU u:=by rw[kL];unfold de;rw[lM]
  rw[h3]at h2
  have:=h.1
  omega
theorem Zo{e:Int}{sp:PSpot}{e2:Int}(h:(C2 e sp e2).2=0):e=0/\e2=0/\(C2 e sp e2).1=sp:=by
  unfold C2 at h ⊢
  cases h1:aa e 0 with
  |false=>rw[h1]at h;rw[show e=0 from h]at h1;cases h1
  | true=>
    rw[h1]at h
    cases h2:aa e2 0 with
    |false=>rw[h2]at h;rw[show e2=0 from h]at h2;cases h2
    |true=>exact⟨i9 h1,i9 h2,rfl⟩
theorem Vj{u u2:TUnit}{te:Int}{full cf:Bool}:(Om u te full cf u2).1=u\/(aa te 0=true/\full=false/\cf=false/\(Om u te full cf u2).1=u2):=by
  unfold Om;cases aa te 0<;>cases full<;>cases cf<;>first|exact .inl rfl|exact .inr ⟨rfl,rfl,rfl,rfl⟩
def Bk(u:TUnit)(d:PDeed)(v:TUnit):Prop:=OkB v/\(Rd u->Rd v)
theorem Bk.refl{u:TUnit}(hu:OkB u){d:PDeed}:Bk u d u:=⟨hu,id⟩
theorem WH{u:TUnit}(hu:OkB u)(f:TUnit)(d:PDeed)(hd:qe d.it)(hg:xE d.it)(hk:d.it.kind=0):∃r:qE,kP 126 [eU u,eU f,aq d] (fx r)/\Bk u d r.1:=by
  have hw:=hg.1 (.inl hk)
  have hD:=SA u d.it _ _ _ (by rw[hk];rfl) (UA hu d.it.at_ hd.2.1 d.it.where_ hw)
  cases he:aa (C2 (aH u d.it.at_).2 (dx d.it.where_ u (aH u d.it.at_).1).1 (dx d.it.where_ u (aH u d.it.at_).1).2).2 0 with
  |false=>exact⟨(u,_),Vw u f d _ _ _ he hD,.refl hu⟩
  | true=>
    have e0:=i9 he
    obtain⟨e1,e2,e3⟩:=Zo e0
    obtain⟨n,n1,n2,n3⟩:=Hy hu (rB e1) e2
    rw[e0,e3,n1]at hD
    have ht:=hd.2.2.2.2.2.2.2.2
    have hS:=QZ d.act d.item d.it.unit (bu ht.1 (by decide)) (P2 ht) (fun x hx=>⟨bu (ht.2 x hx).1 (by decide),bu (ht.2 x hx).2.1 (by decide)⟩)
    have hsn:=QX d.act d.item d.it.unit 0 0
    have hsi:=wJ d.act d.item d.it.unit 0 0
    have hsw:=Li d.act d.item 300 d.it.unit 0 0 (fun x hx=>⟨(ht.2 x hx).1,(ht.2 x hx).2.1⟩)
    have hrg:Rg d.it.unit:=Qa (by
      have z:=hg.2.1.1 hk
      unfold WG D0 ki at z
      simp only[bZ]at z
      exact z.1.1.1)
    have hrd:∀j,(ch (dx d.it.where_ u (aH u d.it.at_).1).1.id u).kids.length<64->ld (ch (dx d.it.where_ u (aH u d.it.at_).1).1.id u) (co d.act d.item d.it.unit 0 0)=0->yZ u (dx d.it.where_ u (aH u d.it.at_).1).1.id (co d.act d.item d.it.unit 0 0)=false->Rd u->Rd (cK (dx d.it.where_ u (aH u d.it.at_).1).1.id (dV j (co d.act d.item d.it.unit 0 0)) u):=fun j=>Xi hu hrg
    generalize co d.act d.item d.it.unit 0 0=X at *
    have hn:=hu.n
    have hm:=ht.1
    have hX:nU X<=2^19:=by omega
    have hkp:(ch (dx d.it.where_ u (aH u d.it.at_).1).1.id u).kids.length<2^40:=by
      cases h:bX (dx d.it.where_ u (aH u d.it.at_).1).1.id u with
      |true=>have:=eA (oa h).1;have:=bg (ch (dx d.it.where_ u (aH u d.it.at_).1).1.id u);omega
      |false=>unfold ch;rw[h];exact oB (b8 0) (by decide)
    have hiu:(de u).length<2^40:=by rw[<-kL];omega
    have hix:(de X).length<2^40:=by rw[<-kL];omega
    refine⟨_,Vq u f _ X _ d _ n (nU u) (nU X) _ _ _ _ (de u) (de X) (by omega) (by omega) hD (wF hu _) hS (zi _ X hkp) (Nq u X _ (by omega) (by omega)) (Fz u (by omega)) (Fz X (by omega)) (RH u (by omega)) (RH X (by omega)) (cfX (de X) (de u) hiu hix) (PC _ n X u (by omega) (xm hu) n3),?_⟩
    rcases Vj (u:=u) (u2:=cK (dx d.it.where_ u (aH u d.it.at_).1).1.id (dV n X) u) (te:=ld (ch (dx d.it.where_ u (aH u d.it.at_).1).1.id u) X) (full:=aj (aL (Int.ofNat (ch (dx d.it.where_ u (aH u d.it.at_).1).1.id u).kids.length) 64)||(yZ u (dx d.it.where_ u (aH u d.it.at_).1).1.id X||aL 1024 (Int.ofNat (nU u+nU X)))) (cf:=(de X).any fun i=>(de u).any (bh i))with q|⟨q0,q1,q2,q3⟩
    · rw[q];exact .refl hu
    · rw[q3]
      rw[uc,uc]at q1
      have q4:=aG q1.2.2
      simp only[oN]at q4
      refine⟨hu.ins (by rw[hsi];exact QJ _ _ _ _) (fun p hp hq=>?_) (by omega) hsw,hrd n (by have z:=ap (YO q1.1);simp only[oN]at z;omega) (i9 q0) q1.2.1⟩
      rw[List.any_eq_false]at q2
      have:=q2 p hp
      exact this (List.any_eq_true.2 ⟨p,hq,nM p⟩)
theorem Wr{u:TUnit}(hu:OkB u){p:PId}(hp:iZ p u=true):∃q i,q∈bv u/\rx p u=am q/\rj p u=Int.ofNat i/\i<q.kids.length/\am (gD q.kids i)=p/\kP 177 [eU u,aX p] (eU (cK (am q) (fu i) u)):=by
  obtain⟨q,i,h1,h2,h3,h4,h5⟩:=oH u hp
  have hP:=kH hu p
  rw[h2,h3,hp]at hP
  exact⟨q,i,h1,h2,h3,h4,h5,zy u _ p _ i hP (PE (am q) i u (bu hu.n (by decide)) (xm hu) fun v hv hid=>by rw[hu.uni hv h1 ((gV _ v).1 hid)];exact h4)⟩
theorem Zg{u x:TUnit}(hu:OkB u)(d:PDeed)(hp:iZ (am x) u=true):∃r:qE,kP 127 [eU u,eU x,aq d] (fx r)/\Bk u d r.1:=by
  obtain⟨q,i,h1,h2,h3,h4,h5,h6⟩:=Wr hu hp
  exact⟨_,Uh u x _ d h6,(hu.del h1 h4).1,Qf⟩
theorem Em(l:List PWord):(rq l).length<=256:=by
  unfold rq
  cases h:aL 256 (Int.ofNat l.length)with
  |true=>exact b8 _
  |false=>have:=aG h;simp only[oN]at this;show l.length<=256;omega
theorem Qb(a b:Int)(w:List PWord)(old new:List au)(n:Int):(z8 a b w old new n).1.length<=256:=by
  unfold z8
  cases aa (Int.ofNat old.length) 0
  · cases aa (Int.ofNat (nC (tC (b9 w) old) n).length) 0
    · exact Em _
    · exact b8 _
  · exact b8 _
theorem Vz(a b:Int)(w:List PWord)(part new:List au)(n:Int):(AO a b w part new n).1.length<=256:=by
  unfold AO
  cases(aa (Int.ofNat new.length) 0||(aa (Int.ofNat part.length) 0&&aj (aa n 0)))
  · cases aa (Int.ofNat part.length) 0
    · cases aa (Int.ofNat (nC (tC (b9 w) part) n).length) 0
      · exact Em _
      · exact b8 _
    · exact Em _
  · exact b8 _
theorem uH{l:List au}(h:mA l=true):l.length<=256:=by
  unfold mA at h
  rw[bZ]at h
  have:=fP h.1
  simp only[oN]at this
  omega
theorem L5{n:Int}(h:Ck n=true):0<=n/\n<=256:=by
  unfold Ck at h
  rw[bZ]at h
  exact⟨fP h.1,fP h.2⟩
theorem C9{u:TUnit}(hu:OkB u)(q:PId){l:List PWord}(hl:l.length<=300):OkB (cK q (jN l) u):=hu.keep (fun _=>⟨rfl,rfl⟩) fun v hv=>⟨(hu.w v hv).1,hl⟩
theorem Q4{u:TUnit}(hu:OkB u)(q:PId){l:List PWord}(hl:l.length<=300):OkB (cK q (rl l) u):=hu.keep (fun _=>⟨rfl,rfl⟩) fun v hv=>⟨hl,(hu.w v hv).2⟩
theorem Oz{u:TUnit}(hu:OkB u)(q:PId)(s:au):OkB (cK q (ji s) u):=hu.keep (fun _=>⟨rfl,rfl⟩) fun v hv=>hu.w v hv
theorem Lx{u u2:TUnit}{d:PDeed}{e:Int}(h:OkB u)(h2:Bk u d u2):Bk u d (GQ u e u2).1:=by
  have h:=Bk.refl h (d:=d)
  unfold GQ;cases aa e 0;exact h;exact h2
theorem ZX{u x:TUnit}(hu:OkB u)(hx:x∈bv u)(hp:iZ (am x) u=true)(d:PDeed)(hg:xE d.it)(hk:d.it.kind=2):∃r:qE,kP 128 [eU u,eU x,aq d] (fx r)/\Bk u d r.1:=by
  obtain⟨h1,h2⟩:=hg.2.2.1 (.inl hk)
  have h3:=uH h1
  have h4:=uH (hg.2.2.2 (.inl hk))
  obtain⟨h5,h6⟩:=L5 h2
  have h7:=(hu.w x hx).2
  have hR:=Uf d.act d.item x.words d.it.old d.it.new d.it.nth_ (by omega) (by omega) (by omega) h5 (by omega) (jI h5)
  exact⟨_,TT u x _ d _ _ hR (Pt (am x) _ u (bu hu.n (by decide)) (xm hu)),Lx hu ⟨C9 hu _ (bu (Qb ..) (by decide)),GP hu hx hp (fun h=>Ug h (hg.2.2.2 (.inl hk)))⟩⟩
theorem Zm{u x:TUnit}(hu:OkB u)(hx:x∈bv u)(hp:iZ (am x) u=true)(d:PDeed)(hg:xE d.it)(hk:d.it.kind=3):∃r:qE,kP 129 [eU u,eU x,aq d] (fx r)/\Bk u d r.1:=by
  obtain⟨h1,h2⟩:=hg.2.2.1 (.inr hk)
  have h3:=uH h1
  have h4:=uH (hg.2.2.2 (.inr (.inl hk)))
  obtain⟨h5,h6⟩:=L5 h2
  have h7:=(hu.w x hx).2
  have hR:=ZR d.act d.item x.words d.it.old d.it.new d.it.nth_ (by omega) (by omega) (by omega) h5 (by omega)
  exact⟨_,Up u x _ d _ _ hR (PA (am x) _ u (bu hu.n (by decide)) (xm hu)),Lx hu ⟨C9 hu _ (bu (Vz ..) (by decide)),GP hu hx hp (fun h=>X5 h (hg.2.2.2 (.inr (.inl hk))))⟩⟩
theorem Z2{u x:TUnit}(hu:OkB u)(hx:x∈bv u)(hp:iZ (am x) u=true)(d:PDeed)(hg:xE d.it)(hk:d.it.kind=4):∃r:qE,kP 130 [eU u,eU x,aq d] (fx r)/\Bk u d r.1:=by
  have h4:=uH (hg.2.2.2 (.inr (.inr hk)))
  have hM:=yI d.it.new d.act d.item 0 (by omega) (by decide)
  exact⟨_,Vi u x _ d _ hM (PD (am x) _ u (bu hu.n (by decide)) (xm hu)),Q4 hu _ (by rw[fg];omega),Un hu hx hp (hg.2.2.2 (.inr (.inr hk)))⟩
theorem WD{u:TUnit}(hu:OkB u)(p:PId):(ch p u).kids.length<2^40:=by
  have hn:=hu.n
  cases h:bX p u with
  |true=>have:=eA (oa h).1;have:=bg (ch p u);omega
  |false=>unfold ch;rw[h];exact oB (b8 0) (by decide)
theorem Zi{u x:TUnit}(hu:OkB u)(hx:x∈bv u)(hp:iZ (am x) u=true)(d:PDeed)(hg:xE d.it)(hk:d.it.kind=5):∃r:qE,kP 131 [eU u,eU x,aq d] (fx r)/\Bk u d r.1:=by
  refine⟨_,Ul u x _ _ d _ _ _ _ _ (kH hu (am x)) (wF hu _) (zi _ _ (WD hu _)) (Pu (am x) d u (bu hu.n (by decide)) (xm hu)),?_⟩
  unfold Um
  cases q:aa (ld (ch (rx (am x) u) u) (ji d.it.label x)) 10
  · exact⟨Oz hu _ _,Qe hu hx hp (hg.2.1.2 hk) (IU q)⟩
  · exact .refl hu
theorem US{u u2:TUnit}{d:PDeed}{te:Int}{full:Bool}(h:OkB u)(h2:aa te 0=true->full=false->Bk u d u2):Bk u d (RK u te full u2).1:=by
  have h:=Bk.refl h (d:=d)
  unfold RK;revert h2;cases aa te 0<;>cases full<;>intro h2<;>first|exact h|exact h2 rfl rfl
theorem Z8{e2 e3:Int}{sp:PSpot}(h:(Ie 0 e2 sp e3).2=0):e2=0/\e3=0/\(Ie 0 e2 sp e3).1=sp:=by
  unfold Ie at h ⊢
  rw[show aa 0 0=true from rfl]at h ⊢
  simp only[cond_true]at h ⊢
  cases h1:aa e2 0 with
  |false=>rw[h1]at h;rw[show e2=0 from h]at h1;cases h1
  | true=>
    rw[h1]at h
    cases h2:aa e3 0 with
    |false=>rw[h2]at h;rw[show e3=0 from h]at h2;cases h2
    |true=>exact⟨i9 h1,i9 h2,rfl⟩
theorem ZH{u x:TUnit}(hu:OkB u)(hx:x∈bv u)(d:PDeed)(hd:qe d.it)(hg:xE d.it)(hk:d.it.kind=6)(h0:(aH u d.it.at_).2=0)(hid:(aH u d.it.at_).1=am x)(hp:iZ (am x) u=true):∃r:qE,kP 132 [eU u,eU x,aq d] (fx r)/\Bk u d r.1:=by
  have hw:=hg.1 (.inr hk)
  have hF:=xl hu d.it.at_ hd.2.1
  rw[h0,hid]at hF
  obtain⟨bs,hG⟩:=YY hu (am x) (aH u d.it.to).1 d.it.where_ hw
  obtain⟨q,i,h1,h2,h3,h4,h5,h6⟩:=Wr hu hp
  have hD:=Su u d.it _ _ _ _ _ _ (by rw[hk];rfl) (by rw[hk];rfl) hw hF (xl hu d.it.to hd.2.2.1) hG
  rw[h2,h3,hp]at hD
  cases he:aa (Ie 0 (aH u d.it.to).2 (oe (am x) (aH u d.it.to).1 (am q) (Int.ofNat i) true ((pJ (aH u d.it.to).1 u).any (bh (am x))) bs (dx d.it.where_ u (aH u d.it.to).1).1 (dx d.it.where_ u (aH u d.it.to).1).2).1 (oe (am x) (aH u d.it.to).1 (am q) (Int.ofNat i) true ((pJ (aH u d.it.to).1 u).any (bh (am x))) bs (dx d.it.where_ u (aH u d.it.to).1).1 (dx d.it.where_ u (aH u d.it.to).1).2).2).2 0 with
  |false=>exact⟨(u,_),UT u x d _ _ _ he hD,.refl hu⟩
  | true=>
    have e0:=i9 he
    obtain⟨e1,e2,e3⟩:=Z8 e0
    obtain⟨n,n1,n2,n3⟩:=RS hu h1 h4 (rB e1) e2
    rw[e0,e3,n1]at hD
    obtain⟨hr,hpm⟩:=hu.del h1 h4
    have hkx:gD q.kids i=x:=hu.uni (fW h1 (bj (gc h4) (cX _))) hx h5
    rw[hkx]at hpm
    have hnr:=hr.n
    have hnx:=eA hx
    have hn:=hu.n
    refine⟨_,UR u x _ _ _ d _ _ n _ _ _ _ _ hD (kH hu (am x)) h6 (wF hr _) (zi _ x (WD hr _)) (Nq _ x _ (by omega) (by omega)) (PB _ n x _ (by omega) (xm hr) n3),US hu fun t0 t1=>?_⟩
    have hnd:=List.nodup_append.1 (hpm.nodup_iff.1 hu.nd)
    have hlen:=hpm.length_eq
    rw[lA,<-kL,<-kL,<-kL]at hlen
    exact⟨hr.ins hnd.2.1 (fun p hp hq=>hnd.2.2 p hq p hp rfl) (by omega) (fun y hy=>hu.w y (fW hx hy)),fun h=>by
      have z:=Xh (i:=n) h1 h4 rfl hr (UP hu h1 h4 rfl hr h2 t1) (by rw[hkx];exact i9 t0) (by rw[hkx];exact(uc.1 t1).2) h
      rw[hkx]at z;exact z⟩
theorem abv{u x:TUnit}(hu:OkB u)(hx:x∈bv u)(d:PDeed)(hd:qe d.it)(hg:xE d.it)(hk0:0<=d.it.kind)(hk6:d.it.kind<=6)(h0:(aH u d.it.at_).2=0)(hid:(aH u d.it.at_).1=am x)(hp:iZ (am x) u=true):∃r:qE,kP (WO d.it.kind) [eU u,eU x,aq d] (fx r)/\Bk u d r.1:=by
  have hk:d.it.kind=0\/d.it.kind=1\/d.it.kind=2\/d.it.kind=3\/d.it.kind=4\/d.it.kind=5\/d.it.kind=6:=by omega
  rcases hk with h|h|h|h|h|h|h<;>rw[h]
  · exact WH hu x d hd hg h
  · exact Zg hu d hp
  · exact ZX hu hx hp d hg h
  · exact Zm hu hx hp d hg h
  · exact Z2 hu hx hp d hg h
  · exact Zi hu hx hp d hg h
  · exact ZH hu hx d hd hg h h0 hid hp
theorem WK {u:TUnit}(hu:OkB u)(d:PDeed)(hd:qe d.it)(hk0:0<=d.it.kind)(hk6:d.it.kind<=6):∃r:qE,kP 54 [eU u,aq d] (fx r)/\Bk u d r.1:=by
  obtain⟨b,hV,hg⟩:=XQ d.it hd hk0 hk6
  have hl:=XO d hk0 hk6
  cases b with
  |false=>exact⟨_,WV u d _ hl hV,.refl hu⟩
  | true=>
    have hg:=hg rfl
    have hF:=xl hu d.it.at_ hd.2.1
    cases he:aa (aH u d.it.at_).2 0 with
    |false=>exact⟨_,WU u d _ _ _ hl hV he hF,.refl hu⟩
    | true=>
      have e0:=i9 he
      have hh:=rB e0
      obtain⟨hx,hxi⟩:=oa hh
      rw[e0]at hF
      have hX:=wF hu (aH u d.it.at_).1
      cases hi:(aa (aH u d.it.at_).1.a u.act&&(aa (aH u d.it.at_).1.i u.item&&aa (aH u d.it.at_).1.n u.n))with
      | true=>
        cases hk:aa d.it.kind 0 with
        | true=>
          have hk:=i9 hk
          obtain⟨r,h1,h2⟩:=WH hu (ch (aH u d.it.at_).1 u) d hd hg hk
          exact⟨r,Tz u _ d _ _ _ r hl hV hF hX hi (by rw[hk];rfl) (by rw[hk];exact h1),h2⟩
        |false=>exact⟨_,WY u _ d _ _ _ _ _ hl hV hF hX hi hk (xl hu d.it.to hd.2.2.1),.refl hu⟩
      | false=>
        have hni:eD (aH u d.it.at_).1 u=false:=by
          cases q:eD (aH u d.it.at_).1 u with
          |false=>rfl
          | true=>
            have:=(gV _ u).1 q
            rw[<-this]at hi
            have e:(aa (am u).a u.act&&(aa (am u).i u.item&&aa (am u).n u.n))=true:=by
              show(aa u.act u.act&&(aa u.item u.item&&aa u.n u.n))=true
              rw[bc,bc,bc];rfl
            rw[e]at hi;cases hi
        obtain⟨r,h1,h2⟩:=abv hu hx d hd hg hk0 hk6 e0 hxi.symm (by rw[hxi];exact Vl hh hni)
        exact⟨r,Wq u _ d _ _ _ r hl hV hF hX hi h1,h2⟩
theorem Te{k:Int}(h:jJ k=true):0<=k/\k<=6:=by
  unfold jJ at h;rw[bZ]at h;exact⟨fP h.1,fP h.2⟩
structure AppOk(u:TUnit)(d:PDeed):Prop where
  b:OkB u
  i:qe d.it
  a:jJ d.it.kind=true
theorem TU{u:TUnit}{d:PDeed}(h:AppOk u d):∃r:qE,kP 54 [eU u,aq d] (fx r)/\Bk u d r.1:=WK h.b d h.i (Te h.a).1 (Te h.a).2
open Classical in
noncomputable def aM(u:TUnit)(d:PDeed):qE:=if h:AppOk u d then(TU h).choose else(u,0)
theorem Fh{u:TUnit}{d:PDeed}(h:AppOk u d):kP 54 [eU u,aq d] (.tuple [eU (aM u d).1,iV (aM u d).2])/\Bk u d (aM u d).1:=by
  unfold aM;rw[dif_pos h];exact(TU h).choose_spec
theorem eV{u:TUnit}{d:PDeed}(h:AppOk u d):kP 54 [eU u,aq d] (.tuple [eU (aM u d).1,iV (aM u d).2])/\OkB (aM u d).1:=⟨(Fh h).1,(Fh h).2.1⟩
theorem tX(u:TUnit)(d:PDeed)(h1:OkB u)(h2:qe d.it)(h3:jJ d.it.kind=true):kP 54 [eU u,aq d] (.tuple [eU (aM u d).1,iV (aM u d).2]):=(eV ⟨h1,h2,h3⟩).1
noncomputable def qa(u:TUnit)(d:PDeed):TUnit:=bif jJ d.it.kind then(aM u d).1 else u
noncomputable def Dq(u:TUnit)(d:PDeed):List PFail:=bif jJ d.it.kind then(bif aa (aM u d).2 0 then[]else[⟨d.act,d.item,(aM u d).2⟩])else[]
theorem TY{u:TUnit}{d:PDeed}(h1:OkB u)(h2:qe d.it)(h3:jJ d.it.kind=true):Rd u->Rd (aM u d).1:=(Fh ⟨h1,h2,h3⟩).2.2
noncomputable def cW:TUnit->List PDeed->TUnit
  |u,[]=>u
  |u,d::r=>cW (qa u d) r
noncomputable def fR:TUnit->List PDeed->List PFail
  |_,[]=>[]
  |u,d::r=>Dq u d++fR (qa u d) r
theorem Do:∀(l:List PDeed)(u:TUnit),(fR u l).length<=l.length
  |[],_=>af _
  | d::r,u=>by
    have:=Do r (qa u d)
    have h:(Dq u d).length<=1:=by
      unfold Dq
      cases jJ d.it.kind<;>cases aa (aM u d).2 0<;>simp
    rw[fR,lA,lC];omega
theorem Zb{u:TUnit}{d:PDeed}{r:List PDeed}(h:jJ d.it.kind=false):cW u (d::r)=cW u r/\fR u (d::r)=fR u r:=by
  rw[cW,fR,qa,Dq,h];exact⟨rfl,rfl⟩
theorem UY{u:TUnit}{d:PDeed}{r:List PDeed}(h:jJ d.it.kind=true)(h2:aa (aM u d).2 0=true):cW u (d::r)=cW (aM u d).1 r/\fR u (d::r)=fR (aM u d).1 r:=by
  rw[cW,fR,qa,Dq,h,h2];exact⟨rfl,rfl⟩
theorem UK{u:TUnit}{d:PDeed}{r:List PDeed}(h:jJ d.it.kind=true)(h2:aa (aM u d).2 0=false):cW u (d::r)=cW (aM u d).1 r/\fR u (d::r)=⟨d.act,d.item,(aM u d).2⟩::fR (aM u d).1 r:=by
  rw[cW,fR,qa,Dq,h,h2];exact⟨rfl,rfl⟩
mutual
theorem Lr:∀(u:TUnit)(deep most:Int),na u deep most<=most->Int.ofNat (nU u)<=na u deep most
  | ⟨_,_,_,_,_,_,_,kids⟩,deep,most,h=>by
    rw[na]at h ⊢
    cases hd:aL 20 deep with
    |true=>rw[hd]at h;simp only at h;omega
    | false=>
      rw[hd]at h
      have:=Ls kids deep most 1 h
      rw[nU]
      simp only[oN]at *
      omega
theorem Ls:∀(l:List TUnit)(deep most n:Int),nb l deep most n<=most->n+Int.ofNat (eL l)<=nb l deep most n
  |[],_,_,n,_=>by rw[nb,eL];exact Int.le_of_eq (Int.add_zero n)
  | k::r,deep,most,n,h=>by
    rw[nb]at h ⊢
    cases hd:aL most n with
    |true=>rw[hd]at h;have:=ap hd;simp only at h;omega
    | false=>
      rw[hd]at h
      have h2:=Ls r deep most _ h
      have h1:=Lr k (deep+1) (most-n) (by simp only[oN]at *;omega)
      rw[eL]
      simp only[oN]at *
      omega
end
theorem Gt{l:List PWord}(h:nc l=true):l.length<=300/\∀w,w∈l->w.text.length<=100:=by
  unfold nc at h
  obtain⟨h1,h2⟩:=mQ.1 h
  refine⟨by have:=fP h2;simp only[oN]at this;omega,fun w hw=>?_⟩
  have:=fP (kX.1 h1 w hw)
  simp only[oN]at this;omega
theorem Jj:∀(u:TUnit),ly u=true->∀x,x∈bv u->sP x:=by
  refine TUnit.ind fun u ih h x hx=>?_
  rw[CB]at h
  simp only[bZ]at h
  obtain⟨⟨⟨h0,h1⟩,h2⟩,h3⟩:=h
  rw[da]at hx
  rcases dP.1 hx with rfl|hx
  · have h0:=fP h0
    simp only[oN]at h0
    have q1:=Gt h1
    have q2:=Gt h2
    exact⟨q1.1,q2.1,by omega,fun w hw=>bu (q1.2 w hw) (by decide),fun w hw=>bu (q2.2 w hw) (by decide)⟩
  · obtain⟨k,hk,hx⟩:=lm hx
    exact ih k hk (kX.1 h3 k hk) x hx
theorem Yc{u:TUnit}{n:Nat}(h:IZ u (.ofNat n)=true):nU u<=n/\∀x,x∈bv u->sP x:=by
  unfold IZ at h
  obtain⟨h1,h2⟩:=mQ.1 h
  refine⟨?_,Jj u h2⟩
  have h3:=fP h1
  have:=Lr u 0 (.ofNat n) h3
  simp only[oN]at *
  omega
theorem Q3{x:PItem}(hf:n6 x)(h:nL x=true):qe x:=by
  rw[FQ]at h
  unfold yS at h
  simp only[bZ]at h
  obtain⟨⟨⟨⟨⟨⟨⟨⟨⟨⟨a1,a2⟩,a3⟩,a4⟩,a5⟩,a6⟩,a7⟩,a8⟩,a9⟩,a10⟩,b1,b2,b3,b4,b5⟩:=h
  have a1:=fP a1
  have a2:=fP a2
  have a3:=fP a3
  have a4:=fP a4
  have a5:=fP a5
  have a6:=fP a6
  have a7:=fP a7
  simp only[oN]at a1 a2 a3 a4 a5 a6 a7
  have hs:∀{l:List au},l.all yy=true->∀s,s∈l->s.length<=2^39:=fun h s hs=>by
    have:=fP (kX.1 h s hs);simp only[oN]at this;omega
  have ht:∀{l:List PStep},l.all yw=true->∀s,s∈l->s.label.length<=2^39:=fun h s hs=>by
    have:=fP (kX.1 h s hs);simp only[oN]at this;omega
  have hu:=Yc (n:=30) a10
  exact⟨hf,⟨by omega,ht b3⟩,⟨by omega,ht b4⟩,⟨by omega,hs b1⟩,⟨by omega,hs b2⟩,by omega,by omega,by omega,bu hu.1 (by decide),hu.2⟩
noncomputable abbrev bU(u:TUnit):AObj:=.row 8 false 0 [eU u]
theorem Kz{u v:TUnit}{l r:List PDeed}{xs:List PFail}(h:fR u l=xs++fR v r):xs.length<=l.length:=by
  grind[Do]
theorem Tw(u:TUnit)(l:List PDeed)(hu:OkB u)(hl:l.length<2^30)(ho:∀d,d∈l->qe d.it):kP 65 [eU u,.ls (l.map aq)] (.tuple [eU (cW u l),.ls ((fR u l).map jQ)]):=by
  have rr0 b' (h:((cW u l).act)=b':=by first|(rw[hj0.2.1];rfl)|(rw[hj0.2.2];rfl)|(rw[hj0.2.2.1];rfl)|(rw[hj0.2.2.2];simp only[fR,eF])|exact aW gC _):=h;have rr1 b' (h:((cW u l).item)=b':=by first|(rw[hj0.2.1];rfl)|(rw[hj0.2.2];rfl)|(rw[hj0.2.2.1];rfl)|(rw[hj0.2.2.2];simp only[fR,eF])|exact aW gC _):=h;have rr2 b' (h:((cW u l).n)=b':=by first|(rw[hj0.2.1];rfl)|(rw[hj0.2.2];rfl)|(rw[hj0.2.2.1];rfl)|(rw[hj0.2.2.2];simp only[fR,eF])|exact aW gC _):=h;have rr3 b' (h:((cW u l).kind)=b':=by first|(rw[hj0.2.1];rfl)|(rw[hj0.2.2];rfl)|(rw[hj0.2.2.1];rfl)|(rw[hj0.2.2.2];simp only[fR,eF])|exact aW gC _):=h;have rr4 b' (h:((cW u l).label)=b':=by first|(rw[hj0.2.1];rfl)|(rw[hj0.2.2];rfl)|(rw[hj0.2.2.1];rfl)|(rw[hj0.2.2.2];simp only[fR,eF])|exact aW gC _):=h;have rr5 b' (h:(List.map aQ (cW u l).head)=b':=by first|(rw[hj0.2.1];rfl)|(rw[hj0.2.2];rfl)|(rw[hj0.2.2.1];rfl)|(rw[hj0.2.2.2];simp only[fR,eF])|exact aW gC _):=h;have rr6 b' (h:(List.map aQ (cW u l).words)=b':=by first|(rw[hj0.2.1];rfl)|(rw[hj0.2.2];rfl)|(rw[hj0.2.2.1];rfl)|(rw[hj0.2.2.2];simp only[fR,eF])|exact aW gC _):=h;have rr7 b' (h:(List.map aY (cW u l).kids)=b':=by first|(rw[hj0.2.1];rfl)|(rw[hj0.2.2];rfl)|(rw[hj0.2.2.1];rfl)|(rw[hj0.2.2.2];simp only[fR,eF])|exact aW gC _):=h;have rr8 b' (h:((fR u l).map jQ)=b':=by first|(rw[hj0.2.1];rfl)|(rw[hj0.2.2];rfl)|(rw[hj0.2.2.1];rfl)|(rw[hj0.2.2.2];simp only[fR,eF])|exact aW gC _):=h;exact b6 Tryz.func65<|Kl 2 5 bO<|Kl 2 12 (ln aq l)<|Mg 0<|TG TUnit Nat Nat (List PFail) aq l u [2,4,6,11,12,13] (fun a _ b=>([ah 0 0 0 0,ah 1 0 0 0,ab,aJ<|l.map aq,nV l.length,nV a],[aZ 8 false 0 [ak (uLx b)],aZ 8 false 0 [ak [iV 0,iV 0,iV 0,iV 0,ax [],ab,ab,ab]]])) (fun a _ b c e f=>([ah 0 0 0 0,ah 1 0 0 0,bQ 2 c 0 e none,aJ<|l.map aq,nV l.length,nV a],[aZ 8 false 0 [ak (uLx b)],aZ 8 false 0 [ak [iV 0,iV 0,iV 0,iV 0,ax [],ab,ab,ab]],aZ 3 true c<|f.map jQ])) (fun a b=>OkB b/\cW u l=cW b a/\fR u l=fR b a) (fun a b _ c e=>OkB b/\c=e.length/\cW u l=cW b a/\fR u l=e++fR b a) sA (fun _ _ a _ _ _ b hj0=>Kh 0 b<|Kl 3 5 bO<|Mf<|cb<|.cons (bV (.cons (li<|rr0 a.act)<|.cons (li<|rr1 a.item)<|.cons (li<|rr2 a.n)<|.cons (li<|rr3 a.kind)<|.cons (Le.str<|rr4 a.label)<|.cons (ct<|rr5<|a.head.map aQ)<|.cons (ct<|rr6<|a.words.map aQ)<|.cons (ct<|rr7<|a.kids.map aY) .nil)<|by kernel_rfl)<|.cons (ct<|rr8 []) .nil) (fun a _ b c _ e f g i j k _ n hj0=>have c:=ho _<|aA c j;Kt 0 k<|Mx n<|Kp 5 (K5 e.it.kind)<|Kn 0 (jJ e.it.kind) (fun _=>Kl 0 40 (dq a)<|K1 0 (.frz 2 [2,4,6,11,12,13]) (cF rt rt ti)<|Mf<|g b<|by grind[Zb]) fun j=>Kp 1 (tX b e sA c j)<|Kc 7 (aM b e).2 0 (fun _ _=>Kl 12 40 (dq a)<|Mg 0<|M0 (.ren [0,1,4,2,3] [] [2,4,6,11,12,13])<|M1 (.frz 3 [2,4,6,11,12,13]) (kg rt rt rt ti)<|Mf<|i (aM b e).1 0 1 [PFail.mk e.act e.item (aM b e).2]<|by exact⟨(eV ⟨hj0.1,c,by omega⟩).2,rfl,hj0.2.1.trans (UK (by omega) (by omega)).1,hj0.2.2.trans (UK (by omega) (by omega)).2⟩) fun _ _=>Kl 2 40 (dq a)<|K1 0 (.frz 2 [2,4,6,11,12,13]) (cF rt rt ti)<|Mf<|g (aM b e).1<|by exact⟨(eV ⟨hj0.1,c,by omega⟩).2,hj0.2.1.trans (UY (by omega) (by omega)).1,hj0.2.2.trans (UY (by omega) (by omega)).2⟩) (fun _ _ a b c e _ _ _ f hj0=>Kh 0 f<|Mg 3<|M2 (.fsl 2 [4] 5<|e.map jQ) (cF rt rt ti) (cF (aV b) (tA jQ e c (oA:(e).length=c))<|aW gC e)<|Ml 5 (fc (e.map jQ) false<|aW gC e)<|Mf<|cb<|.cons (bV (.cons (li<|rr0 a.act)<|.cons (li<|rr1 a.item)<|.cons (li<|rr2 a.n)<|.cons (li<|rr3 a.kind)<|.cons (Le.str<|rr4 a.label)<|.cons (ct<|rr5<|a.head.map aQ)<|.cons (ct<|rr6<|a.words.map aQ)<|.cons (ct<|rr7<|a.kids.map aY) .nil)<|by kernel_rfl)<|.cons (ct<|rr8<|e.map jQ) .nil) fun a _ b c e f g _ i j _ k n o _ p hj0=>have g:=ho _<|aA g n;Kt 0 o<|Mx p<|Kp 5 (K5 i.it.kind)<|Kn 0 (jJ i.it.kind) (fun _=>Kl 0 40 (dq a)<|K1 0 (.frz 3 [2,4,6,11,12,13]) (kg (tR 3 true c 3<|aW gC f) rt rt ti)<|Mf<|k b c e f<|by grind[Zb]) fun n=>Kp 1 (tX b i sA g n)<|Kc 7 (aM b i).2 0 (fun _ _=>K1 7 .app (cF (aV c) (sA:e=(f.map jQ).length) (by(have z:=Kz hj0.2.2.2;have z2:=hj0.2.1;refine aF (m:=2^31) ?_ ?_ ?_<;>omega):small (e+1) 24=true))<|M1 (.obj 2<|aZ 3 true (c+1)<|(f++[PFail.mk i.act i.item (aM b i).2]).map jQ) (congrArg (aZ 3 true<|c+1)<|cT (f:=jQ) (l:=f) (ws:=[PFail.mk i.act i.item (aM b i).2]))<|Kl 3 40 (dq a)<|K1 0 (.frz 3 [2,4,6,11,12,13]) (kg (tR 3 true (c+1) 3<|aW gC<|f++[PFail.mk i.act i.item (aM b i).2]) rt rt ti)<|Mf<|k (aM b i).1 (c+1) (e+1) (f++[PFail.mk i.act i.item (aM b i).2])<|by exact⟨(eV ⟨hj0.1,g,by omega⟩).2,by simp_all,hj0.2.2.1.trans (UK (by omega) (by omega)).1,hj0.2.2.2.trans (by grind[UK])⟩) fun _ _=>Kl 2 40 (dq a)<|K1 0 (.frz 3 [2,4,6,11,12,13]) (kg (tR 3 true c 3<|aW gC f) rt rt ti)<|Mf<|k (aM b i).1 c e f<|by exact⟨(eV ⟨hj0.1,g,by omega⟩).2,hj0.2.1,hj0.2.2.1.trans (UY (by omega) (by omega)).1,hj0.2.2.2.trans (by grind[UY])⟩
end Go.Proofs.YtdhkhecalpkngaaGreatDoor
