/- Functions walked: what each of them answers, for A day is among the changed days of a gazette exactly if the book differs before and after it, and revisions and retroactive days are consistent: part 5. Conditions: those that each theorem names. -/
import Derived.Test.YtaepacpodblomaaGreatDoorH4
namespace Go.Proofs.YtaepacpodblomaaGreatDoor
open Go Go.Ev
noncomputable abbrev Cj(l:List PWord):AObj:=.row 4 true 0 (l.map aQ)
noncomputable def Fv:TypeInfo:=(Tryz.prog.info? 102).getD default
theorem Fw:Tryz.prog.info? 102=some Fv:=by kernel_rfl
theorem yE:Fv.size=4:=by kernel_rfl
theorem wi:Fv.bytes=40:=by kernel_rfl
theorem VN(l:List PWord):dc 4 (l.map aQ)=true:=fh (fun w=>by cases w;rfl) l
/-- A copy of words: a row of its own. -/
theorem cl4(ws:List PWord)(hl:ws.length≤2^20)(a b c d:AObj):kD 110 [.ls (ws.map aQ)] (ab [a,b,c,d]) (.sl0 4 0 ws.length none) (ab [a,b,c,d,Cj ws]):=by
  by_cases hne:ws=[]
  · subst hne
    have hE:(ab [a,b,c,d]).push (Cj [])=ab [a,b,c,d,Cj []]:=by kernel_rfl
    have h:=aL.psh (o:=Cj []) (u:=.sl0 4 0 0 none) (rl [] (by omega) (ab [a,b,c,d])) E3
    simp_all
  have hn:ws.map aQ≠[]:=fun h=>hne (List.map_eq_nil_iff.1 h)
  have hf:=VN ws
  have hsm:small (ws.map aQ).length 40=true:=by grind[aN]
  have hlen:ws.length=(ws.map aQ).length:=(b9 ..).symm
  unfold Cj
  rw[hlen]
  generalize ws.map aQ=L at hn hf hsm
  refine(aL.less (Ψ:=fun v h=>v=.slice 4 0 0 L.length none∧h=ab [a,b,c,d,.row 4 true 0 L]) ?_ fun v h ⟨h1,h2⟩=>⟨_,h1▸Le.sl0,rfl,h2⟩)
  refine aL.enter 2 (fn:=Tryz.f110) Tryz.func110 (by kernel_rfl) rfl ⟨by kernel_rfl,by kernel_rfl⟩ ?_
  refine aB.seq (aB.mono (Ec oQ fV (ev 40) (s':=⟨dT 8 [(0,.ls L),(2,.nils)],ab [a,b,c,d]⟩) (.go 0 .fin) (by kernel_rfl)) ?_)
  rintro _ _ ⟨rfl,rfl⟩
  refine aB.seq (aB.seq (aB.mono (yK fV (ev 40) (Ψ:=fun s=>s=⟨dT 8 [(0,.ls L),(2,.nils),(3,.ps L false),(4,.bool false)],ab [a,b,c,d]⟩) (.go 0 (.nz 3 .abs (.go 0 .fin)))
    (W:=(L=[]→False)∧(⟨dT 8 [(0,.ls L),(2,.nils),(3,.ps L false),(4,.bool false)],ab [a,b,c,d]⟩:St)=⟨dT 8 [(0,.ls L),(2,.nils),(3,.ps L false),(4,.bool false)],ab [a,b,c,d]⟩) ⟨hn,rfl⟩ (by kernel_rfl)) ?_))
  rintro _ _ ⟨rfl,rfl⟩
  refine aB.cond (t:=false) (by kernel_rfl) (fun h=>by grind) fun _=>aB.skip ?_
  refine aB.seq (aB.region ?_)
  show cb _ _ _ _ [_,_,_,_] _ _
  refine cb.one (s':=⟨dT 8 [(0,.ls L),(2,.nils),(3,.ps L false),(4,.bool false),(5,.ps [] true)],ab [a,b,c,d]⟩) (ev 40) (by kernel_rfl) ?_
  refine cb.one (s':=⟨dT 8 [(0,.ls L),(2,.nils),(3,.ps L false),(4,.bool false),(5,.ps [] true),(6,.ls L)],ab [a,b,c,d]⟩) (ev 40) (by kernel_rfl) ?_
  refine rE (I:=fun k:Nat=>k=0) (r:=fun _=>.slice 4 0 0 L.length none) (H:=fun _=>ab [a,b,c,d,.row 4 true 0 L]) (by kernel_rfl)
    (fun pl M a w g1 g2 g3=>xi (z:=aQ ⟨[],0,0,0⟩) (z0:=aQ ⟨[],0,0,0⟩) (xs:=L) (t:=35) (tx:=35) (e:=102) (i:=Fv) yE wi (by kernel_rfl) ⟨102,by kernel_rfl⟩ Fw (by kernel_rfl) (Le.refl _) (by kernel_rfl) (by kernel_rfl) hn hf (by kernel_rfl) hsm (by omega) pl M a w g1 g2 g3) fun k _=>?_
  refine⟨dT 8 [(0,.ls L),(2,.nils),(3,.ps L false),(4,.bool false),(5,.ps [] true),(6,.ls L),(7,.slice 4 0 0 L.length none)],by kernel_rfl,?_⟩
  refine cb.one (s':=⟨dT 8 [(0,.ls L),(2,.slice 4 0 0 L.length none),(3,.ps L false),(4,.bool false),(5,.ps [] true),(6,.ls L),(7,.slice 4 0 0 L.length none)],ab [a,b,c,d,.row 4 true 0 L]⟩) (ev 40) (by kernel_rfl) (cb.nil (aB.ret ⟨fun id h=>(by grind),.slice 4 0 0 L.length none,by kernel_rfl,by kernel_rfl,by kernel_rfl⟩))
theorem cl5(ws:List PWord)(hl:ws.length≤2^20)(a b c d e:AObj):kD 110 [.ls (ws.map aQ)] (ab [a,b,c,d,e]) (.sl0 5 0 ws.length none) (ab [a,b,c,d,e,Cj ws]):=by
  by_cases hne:ws=[]
  · subst hne
    have hE:(ab [a,b,c,d,e]).push (Cj [])=ab [a,b,c,d,e,Cj []]:=by kernel_rfl
    have h:=aL.psh (o:=Cj []) (u:=.sl0 5 0 0 none) (rl [] (by omega) (ab [a,b,c,d,e])) E3
    simp_all
  have hn:ws.map aQ≠[]:=fun h=>hne (List.map_eq_nil_iff.1 h)
  have hf:=VN ws
  have hsm:small (ws.map aQ).length 40=true:=by grind[aN]
  have hlen:ws.length=(ws.map aQ).length:=(b9 ..).symm
  unfold Cj
  rw[hlen]
  generalize ws.map aQ=L at hn hf hsm
  refine(aL.less (Ψ:=fun v h=>v=.slice 5 0 0 L.length none∧h=ab [a,b,c,d,e,.row 4 true 0 L]) ?_ fun v h ⟨h1,h2⟩=>⟨_,h1▸Le.sl0,rfl,h2⟩)
  refine aL.enter 2 (fn:=Tryz.f110) Tryz.func110 (by kernel_rfl) rfl ⟨by kernel_rfl,by kernel_rfl⟩ ?_
  refine aB.seq (aB.mono (Ec oQ fV (ev 40) (s':=⟨dT 8 [(0,.ls L),(2,.nils)],ab [a,b,c,d,e]⟩) (.go 0 .fin) (by kernel_rfl)) ?_)
  rintro _ _ ⟨rfl,rfl⟩
  refine aB.seq (aB.seq (aB.mono (yK fV (ev 40) (Ψ:=fun s=>s=⟨dT 8 [(0,.ls L),(2,.nils),(3,.ps L false),(4,.bool false)],ab [a,b,c,d,e]⟩) (.go 0 (.nz 3 .abs (.go 0 .fin)))
    (W:=(L=[]→False)∧(⟨dT 8 [(0,.ls L),(2,.nils),(3,.ps L false),(4,.bool false)],ab [a,b,c,d,e]⟩:St)=⟨dT 8 [(0,.ls L),(2,.nils),(3,.ps L false),(4,.bool false)],ab [a,b,c,d,e]⟩) ⟨hn,rfl⟩ (by kernel_rfl)) ?_))
  rintro _ _ ⟨rfl,rfl⟩
  refine aB.cond (t:=false) (by kernel_rfl) (fun h=>by grind) fun _=>aB.skip ?_
  refine aB.seq (aB.region ?_)
  show cb _ _ _ _ [_,_,_,_] _ _
  refine cb.one (s':=⟨dT 8 [(0,.ls L),(2,.nils),(3,.ps L false),(4,.bool false),(5,.ps [] true)],ab [a,b,c,d,e]⟩) (ev 40) (by kernel_rfl) ?_
  refine cb.one (s':=⟨dT 8 [(0,.ls L),(2,.nils),(3,.ps L false),(4,.bool false),(5,.ps [] true),(6,.ls L)],ab [a,b,c,d,e]⟩) (ev 40) (by kernel_rfl) ?_
  refine rE (I:=fun k:Nat=>k=0) (r:=fun _=>.slice 5 0 0 L.length none) (H:=fun _=>ab [a,b,c,d,e,.row 4 true 0 L]) (by kernel_rfl)
    (fun pl M a w g1 g2 g3=>xi (z:=aQ ⟨[],0,0,0⟩) (z0:=aQ ⟨[],0,0,0⟩) (xs:=L) (t:=35) (tx:=35) (e:=102) (i:=Fv) yE wi (by kernel_rfl) ⟨102,by kernel_rfl⟩ Fw (by kernel_rfl) (Le.refl _) (by kernel_rfl) (by kernel_rfl) hn hf (by kernel_rfl) hsm (by omega) pl M a w g1 g2 g3) fun k _=>?_
  refine⟨dT 8 [(0,.ls L),(2,.nils),(3,.ps L false),(4,.bool false),(5,.ps [] true),(6,.ls L),(7,.slice 5 0 0 L.length none)],by kernel_rfl,?_⟩
  refine cb.one (s':=⟨dT 8 [(0,.ls L),(2,.slice 5 0 0 L.length none),(3,.ps L false),(4,.bool false),(5,.ps [] true),(6,.ls L),(7,.slice 5 0 0 L.length none)],ab [a,b,c,d,e,.row 4 true 0 L]⟩) (ev 40) (by kernel_rfl) (cb.nil (aB.ret ⟨fun id h=>(by grind),.slice 5 0 0 L.length none,by kernel_rfl,by kernel_rfl,by kernel_rfl⟩))
noncomputable abbrev DN(u:TUnit)(k:AV):AV:=.agg [iV u.act,iV u.item,iV u.n,iV u.kind,.str u.label,.sl0 3 0 u.head.length none,.sl0 4 0 u.words.length none,k]
noncomputable abbrev VZ(u:TUnit)(i j:Nat)(k:AV):AObj:=.row 8 false 0 [.agg [iV u.act,iV u.item,iV u.n,iV u.kind,.str u.label,.sl0 i 0 u.head.length none,.sl0 j 0 u.words.length none,k]]
theorem Y9(u:TUnit)(hk:0<u.kids.length)(hn:nU u≤2^20)(ht:∀x,x∈bp u→x.head.length≤2^20∧x.words.length≤2^20):kC 77 [eU u] (ab [wm u,wb])
    (fun v h=>∃y:Nat×Nat×List TUnit,(y.2.1=u.kids.length∧y.2.2=u.kids)∧v=DN u (.slice 5 y.1 0 y.2.1 none)∧h=ab [wm u,wb,VZ u 3 4 (.slice 5 y.1 0 y.2.1 none),Cj u.head,Cj u.words,.row 8 true y.1 (y.2.2.map aV)]):=by
  have hkl:=bf u
  have c1:=(ht u (dK u)).1
  have c2:=(ht u (dK u)).2
  have ihk:∀k,k∈u.kids→kP 77 [eU k] (eU k):=fun k hk=>Hn k (bR (tV (iz hk)) hn) (fun x hx=>⟨nJ (ht x (bA hk hx)).1 (by omega),nJ (ht x (bA hk hx)).2 (by omega)⟩)
  let q1:=[az [iV u.act,iV u.item,iV u.n,iV u.kind,aK u.label,aW (u.head.map aQ),aW (u.words.map aQ),aW (u.kids.map aV)]];let q2:=[az [iV 0,iV 0,iV 0,iV 0,aK [],af,af,af]];let q3:=aZ 8 false 0 q2;let q4:=aZ 8 false 0 q1;let q5:=List.map aQ u.head;let q6:=aZ 4 true 0 q5;exact qJ Tryz.func77 fun a=>Mg 3<|M3 (.efx true (AV.sl0 4 0 u.head.length none)<|ab [aZ 8 false 0 q1,aZ 8 false 0 q2,aZ 8 false 0 q1,aZ 8 false 0 q2,aZ 4 true 0 q5]) (xC rt rt rt rt ti) (xC (aq<|some q3) (aq<|some q4) (aq<|some q3) (aq<|some q4) ti) (cl4 u.head c1 q4 q3 q4 q3)<|Mg 1<|M3 (.efx true (AV.sl0 5 0 u.words.length none)<|ab [aZ 8 false 0 q1,aZ 8 false 0 q2,aZ 8 false 0 q1,aZ 8 false 0 q2,aZ 4 true 0 q5,aZ 4 true 0<|u.words.map aQ]) (ya (tR 4 true 0 5<|aX ip u.head) rt rt rt rt ti) (ya (aq<|some q6) (aq<|some q3) (aq<|some q4) (aq<|some q3) (aq<|some q4) ti) (cl5 u.words c2 q4 q3 q4 q3 q6)<|Kl 7 16 (ln aV u.kids)<|Mg 0<|kw Nat Nat (List TUnit) aV u.kids [1,2,3,15,16,17] (fun a _=>([bY 2 0 0 0,bY 3 0 0 0,af,aW<|u.kids.map aV,nV u.kids.length,nV a],[aZ 8 false 0 [az [iV u.act,iV u.item,iV u.n,iV u.kind,aK u.label,aW<|u.head.map aQ,aW<|u.words.map aQ,aW<|u.kids.map aV]],aZ 8 false 0 [az [iV 0,iV 0,iV 0,iV 0,aK [],af,af,af]],aZ 8 false 0 [az [iV u.act,iV u.item,iV u.n,iV u.kind,aK u.label,AV.sl0 4 0 u.head.length none,AV.sl0 5 0 u.words.length none,aW<|u.kids.map aV]],aZ 8 false 0 [az [iV 0,iV 0,iV 0,iV 0,aK [],af,af,af]],aZ 4 true 0<|u.head.map aQ,aZ 4 true 0<|u.words.map aQ])) (fun a _ b c d=>([bY 2 0 0 0,bY 3 0 0 0,aI 6 b 0 c none,aW<|u.kids.map aV,nV u.kids.length,nV a],[aZ 8 false 0 [az [iV u.act,iV u.item,iV u.n,iV u.kind,aK u.label,aW<|u.head.map aQ,aW<|u.words.map aQ,aW<|u.kids.map aV]],aZ 8 false 0 [az [iV 0,iV 0,iV 0,iV 0,aK [],af,af,af]],aZ 8 false 0 [az [iV u.act,iV u.item,iV u.n,iV u.kind,aK u.label,AV.sl0 4 0 u.head.length none,AV.sl0 5 0 u.words.length none,aW<|u.kids.map aV]],aZ 8 false 0 [az [iV 0,iV 0,iV 0,iV 0,aK [],af,af,af]],aZ 4 true 0<|u.head.map aQ,aZ 4 true 0<|u.words.map aQ,aZ 8 true b<|d.map aV])) (fun a=>a=u.kids) (fun a _ b c=>b=c.length∧(0:Nat)<c.length∧c++a=u.kids∧c.length+a.length=u.kids.length) (by rfl) (fun _ _ _ _ _ a _=>Kh 0 a<|Mg 4<|Mw .abs (sA:False)) (fun a _ _ b c d _ e f g _ i _=>have i:=(i).trans<|congrArg some<|aR c;have b:=cw (J:=fun a _=>a=u.kids) (a:=()) f b;Kt 0 g<|Mx i<|Kp 4 (ihk c gR)<|K1 1 (.obj 7<|aZ 8 true 0<|List.map aV [c]) (congrArg (aZ 8 true 0)<|T3 (f:=aV) (g:=Go.Ev.eU) (ws:=[c]) aR)<|Kl 1 26 (dW a)<|Mg 0<|Mw (.ren [0,1,2,3,4,5,7,6] [4,5,7] [1,2,3,15,16,17]<|.frz 7 [1,2,3,15,16,17] .fin)<|xC (tS 4 true 0<|aX ip u.head) (tS 4 true 0<|aX ip u.words) (tS 8 true 0<|aX iZ [c]) (et8 (tR 8 true 0 7<|aX iZ [c]) (tR 4 true 0 7<|aX ip u.words) (tR 4 true 0 7<|aX ip u.head) rt rt rt rt ti)<|e 0 1 [c]<|by(refine⟨rfl,by simp,?_,?_⟩<;>(rw[←b])<;>(first|rfl|grind))) (fun _ _ b c d _ _ _ e _=>Kh 0 e<|Mg 4<|Mw (.ren [0,1,3,4,5,6,2] [4,5,6] [2]<|.frz 6 [2] .fin)<|xC (tS 4 true 0<|aX ip u.head) (tS 4 true 0<|aX ip u.words) (tS 8 true b<|aX iZ d) (N3 (tR 8 true b 6<|aX iZ d) (tR 4 true 0 6<|aX ip u.words) (tR 4 true 0 6<|aX ip u.head) rt rt rt ti)<|a (b,c,d) sA) fun a _ b c d _ e f g _ i j l _ n _=>have n:=(n).trans<|congrArg some<|aR f;have e:=cw (J:=fun a b=>b.2.1=b.2.2.length∧(0:Nat)<b.2.2.length∧b.2.2++a=u.kids∧b.2.2.length+a.length=u.kids.length) (a:=(b,c,d)) j e;Kt 0 l<|Mx n<|Kp 4 (ihk f gR)<|K1 0 .app (cj (aq b) (sA:c=(d.map aV).length) (by(refine aN (m:=2^21) ?_ ?_ ?_<;>omega):small (c+1) 120=true))<|M1 (.obj 6<|aZ 8 true (b+1)<|(d++[f]).map aV) (congrArg (aZ 8 true<|b+1)<|yx (f:=aV) (g:=Go.Ev.eU) (l:=d) (ws:=[f]) aR)<|Kl 1 26 (dW a)<|K1 0 (.frz 7 [1,2,3,15,16,17]) (et8 (tR 8 true (b+1) 7<|aX iZ<|d++[f]) (tR 4 true 0 7<|aX ip u.words) (tR 4 true 0 7<|aX ip u.head) rt rt rt rt ti)<|Mf<|i (b+1) (c+1) (d++[f])<|by(refine⟨by simp_all,by simp,?_,?_⟩<;>first|(rw[←e.2.2.1];simp;done)|grind)
theorem ZQ(u:TUnit)(hk:u.kids=[])(ht:∀x,x∈bp u→x.head.length≤2^20∧x.words.length≤2^20):kD 77 [eU u] (ab [wm u,wb]) (DN u .nils) (ab [wm u,wb,VZ u 3 4 .nils,Cj u.head,Cj u.words]):=by
  have c1:=(ht u (dK u)).1
  have c2:=(ht u (dK u)).2
  have hz:au 0 (Int.ofNat u.kids.length)=false:=by rw[hk];rfl
  let q:=[az [iV u.act,iV u.item,iV u.n,iV u.kind,aK u.label,aW (u.head.map aQ),aW (u.words.map aQ),aW (u.kids.map aV)]];let q1:=[az [iV 0,iV 0,iV 0,iV 0,aK [],af,af,af]];let q2:=[aZ 8 false 0 q,aZ 8 false 0 q1,aZ 8 false 0 [az [iV u.act,iV u.item,iV u.n,iV u.kind,aK u.label,AV.sl0 4 0 u.head.length none,AV.sl0 5 0 u.words.length none,aW (u.kids.map aV)]],aZ 8 false 0 q1,aZ 4 true 0 (u.head.map aQ),aZ 4 true 0 (u.words.map aQ)];let q3:=aZ 8 false 0 q1;let q4:=aZ 8 false 0 q;let q5:=[bY 2 0 0 0,bY 3 0 0 0,af,aW (u.kids.map aV),nV u.kids.length,iV 0];let q6:=List.map aQ u.head;let q7:=aZ 4 true 0 q6;exact eM Tryz.func77 fun a=>Mg 3<|M3 (.efx true (AV.sl0 4 0 u.head.length none)<|ab [aZ 8 false 0 q,aZ 8 false 0 q1,aZ 8 false 0 q,aZ 8 false 0 q1,aZ 4 true 0 q6]) (xC rt rt rt rt ti) (xC (aq<|some q3) (aq<|some q4) (aq<|some q3) (aq<|some q4) ti) (cl4 u.head c1 q4 q3 q4 q3)<|Mg 1<|M3 (.efx true (AV.sl0 5 0 u.words.length none)<|ab [aZ 8 false 0 q,aZ 8 false 0 q1,aZ 8 false 0 q,aZ 8 false 0 q1,aZ 4 true 0 q6,aZ 4 true 0<|u.words.map aQ]) (ya (tR 4 true 0 5<|aX ip u.head) rt rt rt rt ti) (ya (aq<|some q7) (aq<|some q3) (aq<|some q4) (aq<|some q3) (aq<|some q4) ti) (cl5 u.words c2 q4 q3 q4 q3 q7)<|Kl 7 16 (ln aV u.kids)<|Mg 0<|Zm [1,2,3,15,16,17] (q5,q2) True 0 ti fun _ _=>Kh 0 hz<|Mg 4<|M2 (.ren [0,1,3,4,5,2] [4,5] [2]) (tS 4 true 0<|aX ip u.head) (tS 4 true 0<|aX ip u.words)<|M1 (.frz 5 [2]) (ya (tR 4 true 0 5<|aX ip u.words) (tR 4 true 0 5<|aX ip u.head) rt rt rt ti)<|Mf a
noncomputable abbrev ZB(ep:Nat)(l:List TUnit):AObj:=.row 8 true ep (l.map aV)
theorem Lw(u:TUnit){k k':AV}(h:Le k k')(h2:cH k=true):Le (DN u k) (DN u k'):=aT (.cons (Le.refl _) (.cons (Le.refl _) (.cons (Le.refl _) (.cons (Le.refl _) (.cons (Le.refl _) (.cons (Le.refl _) (.cons (Le.refl _) (.cons h .nil)))))))) (by simp only[List.all_cons,List.all_nil,h2];rfl)
theorem Y8(u:TUnit)(hn:nU u≤2^20)(ht:∀x,x∈bp u→x.head.length≤2^20∧x.words.length≤2^20):kC 77 [eU u] (ab [wm u,wb])
    (fun v h=>∃ep:Nat,True∧v=DN u (.sl0 5 ep u.kids.length none)∧h=ab [wm u,wb,.dead,Cj u.head,Cj u.words,ZB ep u.kids]):=by
  rcases Nat.eq_zero_or_pos u.kids.length with hk|hk
  · have hk:=List.length_eq_zero_iff.1 hk
    refine aL.dead (i:=2) (JN (Ψ':=fun v h=>v=DN u (.sl0 5 0 0 none)∧h=ab [wm u,wb,VZ u 3 4 .nils,Cj u.head,Cj u.words,ZB 0 u.kids]) (ZB 0 u.kids) (ZQ u hk ht) fun v h' ⟨h1,h2⟩=>⟨DN u (.sl0 5 0 0 none),h1▸Lw u Le.sl0n rfl,rfl,?_⟩) (ar 2) (by omega) fun v h' ⟨h1,h2⟩=>⟨0,trivial,by simp_all,?_⟩
    · rw[h2];kernel_rfl
    · rw[h2];kernel_rfl
  · refine aL.dead (i:=2) (aL.less (Ψ':=fun v h=>∃ep:Nat,v=DN u (.sl0 5 ep u.kids.length none)∧h=ab [wm u,wb,VZ u 3 4 (.slice 5 ep 0 u.kids.length none),Cj u.head,Cj u.words,ZB ep u.kids]) (Y9 u hk hn ht) fun v h' ⟨y,⟨e1,e2⟩,h1,h2⟩=>⟨DN u (.sl0 5 y.1 u.kids.length none),?_,y.1,rfl,?_⟩) (ar 2) (by omega) fun v h' ⟨ep,h1,h2⟩=>⟨ep,trivial,h1,?_⟩
    · rw[h1,e1];exact Lw u Le.sl0 rfl
    · simp_all
    · rw[h2];kernel_rfl
/-- The first 'i' elements changed by 'f'. -/
def ke{α:Type}(f:α→α)(l:List α)(i:Nat):List α:=(l.take i).map f++l.drop i
theorem vM{α:Type}{f:α→α}{l:List α}{i:Nat}:(ke f l i).length=l.length:=by
  grind[ke]
theorem vN{α:Type}{f:α→α}{l:List α}{i:Nat}(h:l.length≤i):ke f l i=l.map f:=by
  grind[ke,List.take_of_length_le]
theorem zL{α:Type}[Inhabited α]{f:α→α}{l:List α}{i:Nat}(h:i<l.length):gD (ke f l i) i=gD l i:=by
  have e:((l.take i).map f).length=i:=by grind
  simp_all[ke,gD,ph]
theorem CP{α:Type}[Inhabited α]{f:α→α}{l:List α}{i:Nat}(h:i<l.length):(ke f l i).set i (f (gD l i))=ke f l (i+1):=by
  have e:((l.take i).map f).length=i:=by grind
  have hg:gD l i=l[i]:=by unfold gD;simp_all
  unfold ke
  rw[List.set_append_right _ _ (by omega),e,Nat.sub_self,hg,OH h,List.set_cons_zero,OI h,pL,md]
  rfl
theorem zH{l:List PWord}{i:Nat}(h:i<l.length):(ke gG l i).set i ⟨(gD (ke gG l i) i).text,0,0,0⟩=ke gG l (i+1):=by
  rw[zL h];exact CP h
theorem Pz:∀u:TUnit,nU u≤2^20→(∀x,x∈bp u→x.head.length≤2^20∧x.words.length≤2^20)→kP 283 [eU u] (eU (cG u)):=by
  refine TUnit.ind fun u ih hn ht=>?_
  have hkl:=bf u
  have c1:=(ht u (dK u)).1
  have c2:=(ht u (dK u)).2
  have hc:=Y8 u hn ht
  have ihk:∀k,k∈u.kids→kP 283 [eU k] (eU (cG k)):=fun k hk=>ih k hk (bR (tV (iz hk)) hn) (fun x hx=>ht x (bA hk hx))
  rw[mU]
  have rr0 b' (h:(List.map aQ (TUnit.mk 0 0 0 u.kind u.label (u.head.map gG) (u.words.map gG) (u.kids.map cG)).head)=b':=by(rw[hx1.2,vN (by(simp only[oN]at *;omega))];rfl)):=h;have rr1 b' (h:(List.map aQ (TUnit.mk 0 0 0 u.kind u.label (u.head.map gG) (u.words.map gG) (u.kids.map cG)).words)=b':=by(rw[hx2.2,vN (by(simp only[oN]at *;omega))];rfl)):=h;have rr2 b' (h:(List.map aV (TUnit.mk 0 0 0 u.kind u.label (u.head.map gG) (u.words.map gG) (u.kids.map cG)).kids)=b':=by(rw[hx3.2,vN (by(simp only[oN]at *;omega))];rfl)):=h;exact bC Tryz.func283<|Mg 2<|Mq hc fun a _=>Mg 10<|M0 (.un 2)<|Mg 7<|MY (0:Nat) u.head [1,2,4,15,16,17,22,23] (fun b c=>([bY 0 0 0 0,bY 1 0 0 0,AV.sl0 3 0 u.head.length none,jW [AV.sl0 3 0 u.head.length none,AV.sl0 4 0 u.words.length none] true,iV 2,iV 0,nV u.head.length,nV b],[aZ 8 false 0 [az [iV 0,iV 0,iV 0,iV u.kind,aK u.label,AV.sl0 3 0 u.head.length none,AV.sl0 4 0 u.words.length none,AV.sl0 5 a u.kids.length none]],aZ 8 false 0 [az [iV 0,iV 0,iV 0,iV 0,aK [],af,af,af]],AObj.dead,aZ 4 true 0<|c.map aQ,aZ 4 true 0<|u.words.map aQ,aZ 8 true a<|u.kids.map aV])) (fun a b=>a≤u.head.length∧b=ke gG u.head a) (fun a _=>u.head.length-a) (by exact⟨bH _,rfl⟩) fun b c hx1 d=>have hx1:b≤u.head.length∧c=ke gG u.head b:=hx1;have:c.length=u.head.length:=(by grind[vM]);Ka 0 (Int.ofNat b) (Int.ofNat u.head.length) (fun _ _=>K1 4 .rix (et (aq 0) (sA:b<u.head.length))<|K1 0 (.rst (aQ<|gD c b)<|(c.set b<|PWord.mk (gD c b).text 0 0 0).map aQ) (cj (aq 0) (bZ aQ (sA:b<(c).length))<|j4 (f:=aQ) (l:=c) (i:=b) (w:=PWord.mk (gD c b).text 0 0 0))<|Kl 0 31 (g0 b)<|Kf 0<|d (b+1) (c.set b<|PWord.mk (gD c b).text 0 0 0) (by grind[zH]) gR) fun _ _=>Mg 9<|MY (0:Nat) u.words [1,2,4,15,16,17,22,23] (fun b d=>([bY 0 0 0 0,bY 1 0 0 0,AV.sl0 4 0 u.words.length none,jW [AV.sl0 3 0 u.head.length none,AV.sl0 4 0 u.words.length none] true,iV 2,iV 1,nV u.words.length,nV b],[aZ 8 false 0 [az [iV 0,iV 0,iV 0,iV u.kind,aK u.label,AV.sl0 3 0 u.head.length none,AV.sl0 4 0 u.words.length none,AV.sl0 5 a u.kids.length none]],aZ 8 false 0 [az [iV 0,iV 0,iV 0,iV 0,aK [],af,af,af]],AObj.dead,aZ 4 true 0<|c.map aQ,aZ 4 true 0<|d.map aQ,aZ 8 true a<|u.kids.map aV])) (fun a b=>a≤u.words.length∧b=ke gG u.words a) (fun a _=>u.words.length-a) (by exact⟨bH _,rfl⟩) fun b d hx2 e=>have hx2:b≤u.words.length∧d=ke gG u.words b:=hx2;have:d.length=u.words.length:=(by grind[vM]);Ka 0 (Int.ofNat b) (Int.ofNat u.words.length) (fun _ _=>K1 4 .rix (et (aq 0) (sA:b<u.words.length))<|K1 0 (.rst (aQ<|gD d b)<|(d.set b<|PWord.mk (gD d b).text 0 0 0).map aQ) (cj (aq 0) (bZ aQ (sA:b<(d).length))<|j4 (f:=aQ) (l:=d) (i:=b) (w:=PWord.mk (gD d b).text 0 0 0))<|Kl 0 31 (g0 b)<|Kf 0<|e (b+1) (d.set b<|PWord.mk (gD d b).text 0 0 0) (by grind[zH]) gR) fun _ _=>Mg 7<|MY (0:Nat) u.kids [1,2,35,36] (fun b e=>([bY 0 0 0 0,bY 1 0 0 0,nV u.kids.length,nV b],[aZ 8 false 0 [az [iV 0,iV 0,iV 0,iV u.kind,aK u.label,AV.sl0 3 0 u.head.length none,AV.sl0 4 0 u.words.length none,AV.sl0 5 a u.kids.length none]],aZ 8 false 0 [az [iV 0,iV 0,iV 0,iV 0,aK [],af,af,af]],AObj.dead,aZ 4 true 0<|c.map aQ,aZ 4 true 0<|d.map aQ,aZ 8 true a<|e.map aV])) (fun a b=>a≤u.kids.length∧b=ke cG u.kids a) (fun a _=>u.kids.length-a) (by exact⟨bH _,rfl⟩) fun b e hx3 f=>have hx3:b≤u.kids.length∧e=ke cG u.kids b:=hx3;have:e.length=u.kids.length:=(by grind[vM]);have g:b<u.kids.length→kP (283:FuncId) [eU (gD e b)] (eU (cG (gD e b))):=fun h=>ihk _ (by grind[zL,fI]);Ka 0 (Int.ofNat b) (Int.ofNat u.kids.length) (fun _ _=>K1 7 .rix (et (aq a) (sA:b<u.kids.length))<|Mr (et (aq a)<|rz aV (g:=Go.Ev.eU) aR (sA:b<(e).length))<|Mp (g sA)<|M1 .rix (et (aq a) (sA:b<u.kids.length))<|M3 (.rst (az [iV (gD e b).act,iV (gD e b).item,iV (gD e b).n,iV (gD e b).kind,aK (gD e b).label,aW<|List.map aQ (gD e b).head,aW<|List.map aQ (gD e b).words,aW<|List.map aV (gD e b).kids])<|(e.set b<|cG<|gD e b).map aV) rt (gT (tR 8 true a 6<|aX iZ e) rt) (cj (aq a) (rz aV (g:=Go.Ev.eU) aR (sA:b<(e).length))<|DC (f:=aV) (g:=Go.Ev.eU) aR (l:=e) (i:=b) (w:=cG<|gD e b))<|Kl 0 49 (g0 b)<|Kf 0<|f (b+1) (e.set b<|cG<|gD e b) (by grind[zL,CP]) gR) fun _ _=>M2 (.fza 0 7 5 [1,2]<|e.map aV) (ya (tR 4 true 0 5<|aX ip d) (tR 4 true 0 5<|aX ip c) rt rt rt ti) (cj (aq a) (tA aV e u.kids.length (oA:(e).length=u.kids.length))<|aX iZ e)<|M2 (.fza 0 6 4 [1,2]<|d.map aQ) (xC (tR 4 true 0 4<|aX ip c) rt rt rt ti) (cj (aq 0) (tA aQ d u.words.length (oA:(d).length=u.words.length))<|aX ip d)<|M2 (.fza 0 5 3 [1,2]<|c.map aQ) (jQ rt rt rt ti) (cj (aq 0) (tA aQ c u.head.length (oA:(c).length=u.head.length))<|aX ip c)<|Kf 1 (aT (lc<|lc<|lc<|lc<|lc<|.cons (b6<|rr0<|c.map aQ)<|.cons (b6<|rr1<|d.map aQ)<|.cons (b6<|rr2<|e.map aV) .nil)<|by kernel_rfl:Le _ (AV.agg [iV 0,iV 0,iV 0,iV u.kind,AV.str u.label,AV.ls (c.map aQ),AV.ls (d.map aQ),AV.ls (e.map aV)]))
theorem Qb:Go.Proofs.Builder.Extra Tryz.prog Tryz.ljoin_ren:=by
  repeat' (first|kernel_rfl|(intro w;kernel_rfl)|decide|constructor)
theorem UZ(l:List aO)(sep:aO)(h1:l.length≤140737488355328)(h2:(Lib.join l sep).length≤140737488355328):kP 259 [.ls (l.map mS),.str sep] (.str (Lib.join l sep)):=NB (Go.Proofs.enters_of Tryz.func259 (by kernel_rfl) rfl) (fun a b c d e f g h i j k=>Go.Proofs.Any.strings_Join Go.Proofs.Tryz.ljoin Qb a b c d e f g h i j k) (fun a b c d=>Go.Proofs.Any.strings_Join_none Go.Proofs.Tryz.ljoin Qb a b c d) l sep h1 h2
theorem YH:Go.Proofs.Builder.Extra Tryz.prog Tryz.lrep_ren:=by
  repeat' (first|kernel_rfl|(intro w;kernel_rfl)|decide|constructor)
theorem Wk(s:aO)(c:Nat)(h1:c≤9223372036854775807)(h2:s.length*c≤140737488355328):kP 300 [.str s,nV c] (.str (Lib.repeatL s c)):=FN (Go.Proofs.enters_of Tryz.func300 (by kernel_rfl) rfl) (fun a b d e f=>Go.Proofs.Any.strings_Repeat Go.Proofs.Tryz.lrep YH a b d e f) s c h1 h2
theorem PE(s:aO)(ws:List PWord)(hw:∀w,w∈ws→1≤w.text.length∧w.text.length≤24)(hb:s.length+26*ws.length≤2^40)(hn:ws.length≤2^20):kP 302 [.str s,.ls (ws.map aQ)] (.str (lO s ws)):=by
  have rr0 b' (h:(lO s ws)=b':=by first|rfl|(exact hj0.1.symm)):=h;exact bC Tryz.func302<|Kl 2 8 (ln aQ ws)<|Mg 0<|Ve (0:Nat) ws s [0,7,8,9] (fun a _ b=>([aK b,aW<|ws.map aQ,nV ws.length,nV a],[])) (fun a b c=>(ws).drop a=b∧lO c b=lO s ws∧List.length c+26*b.length≤2^40) (fun _ a _=>a.length) (et rfl<|by first|rfl|(first|simp_all|(refine⟨by(rw[←hj0.1,ov];first|rw[E1 h1]|rw[E0 h1 h2]|rw[ET h1 h2]),?_⟩;have q:=hj0.2;simp only[lA,lC,lN]at *;omega))) fun a b c d e=>Mc b (fun a=>have b:=eG d.1 a;have hj0:=gd (J:=fun a b=>lO b a=lO s ws∧List.length b+26*a.length≤2^40) (a:=c) a d.2;Kh 0 b<|Kf 1<|Le.str<|rr0 c) fun b f g=>let i:=[aZ 4 false 0 [az [aK b.text,iV b.act,iV b.item,iV b.at_]]];have j:=fJ d.1 g;have:=an j;have k:=eF (enc:=aQ) d.1 g;have hj0:=cw (J:=fun a b=>lO b a=lO s ws∧List.length b+26*a.length≤2^40) (a:=c) g d.2;have:=hw b<|bQ d.1 g;Kt 0 j<|Mx k<|Kv 3 (iN (s:=c) (u:=[32]) (H:=ab i) (by(first|first|assumption|omega|grind):(c).length+([32]).length≤2^62))<|K1 2 (.chr<|gD b.text 0) (zn (by first|omega|(simp only[oN,lM,lS]at *;omega)|(simp only[oN,lM,lS,lA,lR,lC,lN]at * <;>omega):0<(b.text).length))<|Kj 1 (Int.ofNat (gD b.text 0).toNat) 124 (fun j _=>Mt j<|Mt j<|Mt j<|MV j<|Kv 1 (iN (s:=c++[32]) (u:=[92]) (H:=ab i) (by(first|first|assumption|omega|grind):(c++[32]).length+([92]).length≤2^62))<|Kv 3 (iN (s:=c++[32]++[92]) (u:=b.text) (H:=ab i) (by(first|first|assumption|omega|grind):(c++[32]++[92]).length+(b.text).length≤2^62))<|Kl 1 31 (dW a)<|K1 0 (.frz 0 [0,7,8,9]) ti<|Mf<|e (a+1) f (c++[32]++[92]++b.text) (et (bJ d.1 g)<|by first|exact⟨rfl,hb⟩|(refine⟨by(rw[←hj0.1,ov];first|rw[E1 j]|rw[E0 j h2]|rw[ET j h2]),?_⟩;grind))<|dl g) fun j _=>Kh 0 j<|Kh 0 j<|M1 (.chr<|gD b.text 0) (zn (by first|omega|(simp only[oN,lM,lS]at *;omega)|(simp only[oN,lM,lS,lA,lR,lC,lN]at * <;>omega):0<(b.text).length))<|Mh j<|Kw 0 j<|Mb (al (Int.ofNat (gD b.text 0).toNat) 92) (fun k=>have:=kV k;Kv 0 (iN (s:=c++[32]) (u:=[92]) (H:=ab i) (by(first|first|assumption|omega|grind):(c++[32]).length+([92]).length≤2^62))<|Kv 3 (iN (s:=c++[32]++[92]) (u:=b.text) (H:=ab i) (by(first|first|assumption|omega|grind):(c++[32]++[92]).length+(b.text).length≤2^62))<|Kl 1 31 (dW a)<|K1 0 (.frz 0 [0,7,8,9]) ti<|Mf<|e (a+1) f (c++[32]++[92]++b.text) (et (bJ d.1 g)<|by first|exact⟨rfl,hb⟩|(refine⟨by(rw[←hj0.1,ov];first|rw[E1 j]|grind[E0]|rw[ET j k]),?_⟩;grind))<|dl g) fun k=>have:=Hz k;Kv 2 (iN (s:=c++[32]) (u:=b.text) (H:=ab i) (by(first|first|assumption|omega|grind):(c++[32]).length+(b.text).length≤2^62))<|Kl 1 31 (dW a)<|K1 0 (.frz 0 [0,7,8,9]) ti<|Mf<|e (a+1) f (c++[32]++b.text) (et (bJ d.1 g)<|by first|exact⟨rfl,hb⟩|(refine⟨by(rw[←hj0.1,ov];first|rw[E1 j]|rw[E0 j k]|grind[ET]),?_⟩;grind))<|dl g
theorem sd{u:TUnit}(h:mf u):mf (cG u):=by
  obtain⟨h1,h2⟩:=MI u
  refine⟨by rw[h1];exact h.1,fun x hx=>?_⟩
  obtain⟨y,hy,rfl⟩:=h2 x hx
  obtain⟨a,b,c,d,e⟩:=h.2 y hy
  rw[mU]
  refine⟨by grind[TUnit.head],by grind[TUnit.words],c,fun w hw=>?_,fun w hw=>?_⟩
  · obtain⟨v,hv,rfl⟩:=ka.1 hw;exact d v hv
  · obtain⟨v,hv,rfl⟩:=ka.1 hw;exact e v hv
theorem Cb{u:TUnit}(h:r9 u):mf (td u):=by
  have e:bp (td u)=[td u]:=by rw[dq];exact congrArg _ fR
  refine⟨by rw[i7];exact bR (tU (congrArg (1+ ·) mX)) (by omega),fun x hx=>?_⟩
  rw[e]at hx
  rw[nN.1 hx];exact h
theorem Ds(u:TUnit)(h:mf u):kP 283 [eU u] (eU (cG u)):=
  Pz u (bR h.1 (by omega)) fun x hx=>⟨bR (h.2 x hx).1 (by omega),bR (h.2 x hx).2.1 (by omega)⟩
theorem Qy(u:TUnit)(d:Nat)(hd:d≤2^20)(h:r9 u):kP 299 [eU u,nV d] (.bool (EK u d)):=by
  have h1:=Ds (td u) (Cb h)
  have h2:=xR (cG (td u)) (sd (Cb h))
  have hz:=Wl d
  have rr0 b' (h:(EK u d)=b':=by first|rfl|(unfold EK;simp only[aS,aw,bS, *];done)):=h;exact bC Tryz.func299<|Kn 13 (au 8<|Int.ofNat d) (fun a=>Kt 0 (bO a)<|Mp (aA.onArgs (.cons (aT (lc<|lc<|lc<|lc<|lc<|lc<|lc<|.cons bI .nil)<|by kernel_rfl) .nil) h1:kP 283 [az [iV 0,iV 0,iV 0,iV u.kind,aK u.label,aW (u.head.map aQ),aW (u.words.map aQ),af]] _)<|Mt (bO a)<|Mp h2<|MV (bO a)<|Kf 0<|ch<|rr0<|kr<|cG<|td u) fun a=>Mh (bN a)<|Mh (bN a)<|My (bN a)<|Ky 0<|rr0 false
theorem WG(u:TUnit)(d:Nat)(hd:d≤2^20)(h:r9 u)(hm:EK u d=false):kP 285 [eU u,nV d] (.str (gX u d)):=by
  have h1:=Qy u d hd h
  rw[hm]at h1
  have e:gX u d=[]:=by unfold gX;simp_all
  rw[e]
  exact bC Tryz.func285<|Kp 3 h1<|Kf 2<|bd<|aK []
def NA(u:TUnit)(d:Nat)(z18:aO):Prop:=(z18=bif aw (al u.kind (0:Int))then Lib.repeatL [(32:UInt8),(32:UInt8)] d++c8 u.kind++([(32:UInt8)]++u.label)else Lib.repeatL [(32:UInt8),(32:UInt8)] d++c8 u.kind)∧List.length z18≤(40:Nat)
noncomputable def Nu(u:TUnit)(d:Nat)(z18:aO):List AV×List AObj:=([AV.ptr 0 0 0 0,AV.str z18],[AObj.row 8 false 0 [AV.agg [iV u.act,iV u.item,iV u.n,iV u.kind,AV.str u.label,AV.ls (u.head.map aQ),AV.ls (u.words.map aQ),AV.ls (u.kids.map aV)]]])
def Nt(u:TUnit)(z18:aO)(z27:aO):Prop:=(z27=bif au (0:Int) (Int.ofNat u.head.length)then lO (z18++[(58:UInt8)]) u.head else z18)∧List.length z27≤(6700:Nat)
noncomputable def Ns(u:TUnit)(z18:aO)(z27:aO):List AV×List AObj:=([AV.ptr 0 0 0 0,AV.str z27],[AObj.row 8 false 0 [AV.agg [iV u.act,iV u.item,iV u.n,iV u.kind,AV.str u.label,AV.ls (u.head.map aQ),AV.ls (u.words.map aQ),AV.ls (u.kids.map aV)]]])
theorem WF(u:TUnit)(d:Nat)(hd:d≤2^20)(h:r9 u)(hm:EK u d=true):kP 285 [eU u,nV d] (.str (gX u d)):=by
  have h1:=Qy u d hd h
  obtain⟨hd8,hlb,⟨hh1,hh2⟩,hw1,hw2⟩:=LU hm
  have hrl:=Lib.repeatL_length [32,32] d
  simp only[lC,lN]at hrl
  have h2:=Wk [32,32] d (by omega) (by grind)
  have hk:=wT u.kind
  have hkl:=AJ u.kind
  have hp1:∀s:aO,s.length≤2^14→kP 302 [.str s,.ls (u.head.map aQ)] (.str (lO s u.head)):=fun s hs=>PE s u.head hh2 (by omega) (by omega)
  have hp2:∀s:aO,s.length≤2^14→kP 302 [.str s,.ls (u.words.map aQ)] (.str (lO s u.words)):=fun s hs=>PE s u.words hw2 (by omega) (by omega)
  rw[hm]at h1
  have rr0 b' (h:(gX u d)=b':=by first|rfl|(unfold gX;rw[hm];simp only[aw,cond_false];rw[←hz18.1,←hz27.1];first|(rw[h3];rfl)|(rw[h4];rfl)|(rw[h5];rfl)|(rw[h6];rfl)|(rw[h7];rfl))):=h;let q1:=[aZ 8 false 0 [az [iV u.act,iV u.item,iV u.n,iV u.kind,aK u.label,aW (u.head.map aQ),aW (u.words.map aQ),aW (u.kids.map aV)]]];exact bC Tryz.func285<|Kp 3 h1<|Kp 2 h2<|Kp 1 hk<|Mv (iN (s:=Lib.repeatL [32,32] d) (u:=c8 u.kind) (H:=AHeap.mk 1000000 Tr.nil) (by(first|first|assumption|((try simp only[lA,lC,lN]);omega)|(simp only[lA,lC,lN]at *;omega)):(Lib.repeatL [32,32] d).length+(c8 u.kind).length≤2^62))<|Mg 0<|Mj aO [2,5] (Nu u d) (NA u d) (fun a=>Kn 2 (al u.kind 0) (fun _=>Kv 2 (iN (s:=[32]) (u:=u.label) (H:=ab q1) (by(first|first|assumption|((try simp only[lA,lC,lN]);omega)|(simp only[lA,lC,lN]at *;omega)):([32]).length+(u.label).length≤2^62))<|Mv (iN (s:=Lib.repeatL [32,32] d++c8 u.kind) (u:=32::u.label) (H:=ab q1) (by(first|first|assumption|((try simp only[lA,lC,lN]);omega)|(simp only[lA,lC,lN]at *;omega)):(Lib.repeatL [32,32] d++c8 u.kind).length+(32::u.label).length≤2^62))<|Kf 0<|a (Lib.repeatL [32,32] d++c8 u.kind++32::u.label) (by(refine⟨by first|simp_all|(rw[h2];rfl)|(rw[h3];rfl)|(rw[h0];rfl),?_⟩;grind):(Lib.repeatL [(32:UInt8),(32:UInt8)] d++c8 u.kind++(32:UInt8)::u.label=bif aw (al u.kind (0:Int))then Lib.repeatL [(32:UInt8),(32:UInt8)] d++c8 u.kind++([(32:UInt8)]++u.label)else Lib.repeatL [(32:UInt8),(32:UInt8)] d++c8 u.kind)∧(Lib.repeatL [(32:UInt8),(32:UInt8)] d++c8 u.kind++(32:UInt8)::u.label).length≤40)) fun _=>Mf<|a (Lib.repeatL [32,32] d++c8 u.kind) (by(refine⟨by first|simp_all|(rw[h2];rfl)|(rw[h3];rfl)|(rw[h0];rfl),?_⟩;grind):(Lib.repeatL [(32:UInt8),(32:UInt8)] d++c8 u.kind=bif aw (al u.kind (0:Int))then Lib.repeatL [(32:UInt8),(32:UInt8)] d++c8 u.kind++([(32:UInt8)]++u.label)else Lib.repeatL [(32:UInt8),(32:UInt8)] d++c8 u.kind)∧(Lib.repeatL [(32:UInt8),(32:UInt8)] d++c8 u.kind).length≤40)) fun a hz18=>have hz18:(a=bif aw (al u.kind (0:Int))then Lib.repeatL [(32:UInt8),(32:UInt8)] d++c8 u.kind++([(32:UInt8)]++u.label)else Lib.repeatL [(32:UInt8),(32:UInt8)] d++c8 u.kind)∧List.length a≤40:=hz18;Mj aO [2,5] (Ns u a) (Nt u a) (fun b=>Kl 2 26 (ln aQ u.head)<|Kb 0 (au 0<|Int.ofNat u.head.length) (fun h3=>Kv 0 (iN (s:=a) (u:=[58]) (H:=ab q1) (by(first|first|assumption|((try simp only[lA,lC,lN]);omega)|(simp only[lA,lC,lN]at *;omega)):(a).length+([58]).length≤2^62))<|Kp 1 (hp1 (a++[58])<|by first|assumption|((try simp only[lA,lC,lN]);omega))<|Kf 0<|b (lO (a++[58]) u.head) (by(refine⟨by first|simp_all|(rw[h2];rfl)|(rw[h4];rfl)|(rw[h5];rfl),?_⟩;first|omega|(have q:=vJ (fun w hw=>(hh2 w hw).2) (a++[58]);grind)):(lO (a++[(58:UInt8)]) u.head=bif au (0:Int) (Int.ofNat u.head.length)then lO (a++[(58:UInt8)]) u.head else a)∧List.length (lO (a++[(58:UInt8)]) u.head)≤6700)) fun h3=>Mf<|b a (by(refine⟨by first|simp_all|(rw[h2];rfl)|(rw[h4];rfl)|(rw[h5];rfl),?_⟩;first|omega|(have q:=vJ (fun w hw=>(hh2 w hw).2) (a++[58]);simp only[lA,lC,lN]at q;omega)):(a=bif au (0:Int) (Int.ofNat u.head.length)then lO (a++[(58:UInt8)]) u.head else a)∧List.length a≤6700)) fun b hz27=>have hz27:(b=bif au (0:Int) (Int.ofNat u.head.length)then lO (a++[(58:UInt8)]) u.head else a)∧List.length b≤6700:=hz27;Kl 2 35 (ln aQ u.words)<|Kb 0 (au 0<|Int.ofNat u.words.length) (fun h4=>Kv 0 (iN (s:=b) (u:=[32,124]) (H:=ab q1) (by(first|first|assumption|((try simp only[lA,lC,lN]);omega)|(simp only[lA,lC,lN]at *;omega)):(b).length+([32,124]).length≤2^62))<|Kp 1 (hp2 (b++[32,124])<|by first|assumption|((try simp only[lA,lC,lN]);omega))<|Kf 2<|Le.str<|rr0<|lO (b++[32,124]) u.words) fun h4=>Kf 1<|Le.str<|rr0 b
theorem Lk(u:TUnit)(d:Nat)(hd:d≤2^20)(h:r9 u):kP 285 [eU u,nV d] (.str (gX u d)):=by
  grind[WG,WF]
noncomputable abbrev HI(ep n:Nat):AObj:=.row 1 false 0 [.slice 2 ep 0 n none]
noncomputable abbrev EI:AObj:=.row 1 false 0 [.func (.func 284) [] [.ptr 0 0 0 0,.ptr 1 0 0 0]]
noncomputable abbrev Fe(ep:Nat)(l:List aO):AObj:=.row 1 true ep (l.map mS)
def sM(u:TUnit)(d:Nat)(l:List aO)(x0:Nat×List TUnit×Nat×Nat×List aO):Prop:=(u.kids).drop x0.1=x0.2.1∧x0.2.2.2.1=x0.2.2.2.2.length∧x0.2.2.2.2++dQ (d+(1:Nat)) x0.2.1=l++[gX u d]++dQ (d+(1:Nat)) u.kids∧x0.2.2.2.2.length+eQ x0.2.1≤2^20
noncomputable def sL(u:TUnit)(d:Nat)(l:List aO)(x0:Nat×List TUnit×Nat×Nat×List aO):List AV×List AObj:=([nV d,AV.ptr 1 0 0 0,AV.ls (u.kids.map aV),nV u.kids.length,nV x0.1],[AObj.row 1 false 0 [AV.slice 2 x0.2.2.1 0 x0.2.2.2.1 none],AObj.row 1 false 0 [AV.func (Fn.func 284) [] [AV.ptr 0 0 0 0,AV.ptr 1 0 0 0]],AObj.row 1 true x0.2.2.1 (x0.2.2.2.2.map mS)])
theorem YI:∀(u:TUnit)(d ep n:Nat)(l:List aO),n=l.length→l.length+nU u≤2^20→d+nU u≤2^20→(∀x,x∈bp u→r9 x)→kC 284 [eU u,nV d,.ptr 0 0 0 0,.ptr 1 0 0 0] (ab [HI ep n,EI,Fe ep l])
    (fun v h=>∃y:Nat×Nat×List aO,(y.2.1=y.2.2.length∧y.2.2=l++eZ d u)∧v=.tuple []∧h=ab [HI y.1 y.2.1,EI,Fe y.1 y.2.2]):=by
  refine TUnit.ind fun u ih d ep n l hn hl hd ht=>?_
  have hq:=i7 u
  have hkl:=bf u
  have hf:=Lk u d (by omega) (ht u (dK u))
  have ihk:∀k,k∈u.kids→∀(d ep n:Nat)(l:List aO),n=l.length→l.length+nU k≤2^20→d+nU k≤2^20→kC 284 [eU k,nV d,.ptr 0 0 0 0,.ptr 1 0 0 0] (ab [HI ep n,EI,Fe ep l])
    (fun v h=>∃y:Nat×Nat×List aO,(y.2.1=y.2.2.length∧y.2.2=l++eZ d k)∧v=.tuple []∧h=ab [HI y.1 y.2.1,EI,Fe y.1 y.2.2]):=fun k hk d ep n l a b c=>ih k hk d ep n l a b c (fun x hx=>ht x (bA hk hx))
  exact qJ Tryz.func284 fun e=>Kp 3 hf<|Mg 0<|Mw (.apx ((l++[gX u d]).map mS)<|.go 3<|.le 16 (nV u.kids.length)<|.go 0<|.frz 3 [1,3,15,16,17]<|.loop (Nat×List TUnit×Nat×Nat×List aO) [1,3,15,16,17] (sL u d l) (sM u d l) (fun e=>e.2.1.length) (0,u.kids,(ep+1,n+1,l++[gX u d])) fun e=>.cs TUnit e.2.1 (.go 0<|.ff .fin) fun f _=>.go 0<|.tt<|.elem (eU f)<|.go 6<|.le 24 (nV<|d+1)<|.frz 3 [1,3,15,16,17,21,22,24]<|.eff (Nat×Nat×List aO) (fun _=>eV []) (fun e=>ab [HI e.1 e.2.1,EI,Fe e.1 e.2.2]) (fun g=>g.2.1=g.2.2.length∧g.2.2=e.2.2.2.2++eZ (d+1) f) fun _=>.go 0<|.le 26 (nV<|e.1+1)<|.go 0 .fin)<|et9 rt (gT (tR 1 true ep 4<|aX Jh l) rt) (et (km _ _:([aK (gX u d)]:List AV)≠[]) rt) (et (cj (aq ep) (by first|assumption|omega|simp_all|(refine aN (m:=2^31) ?_ ?_ ?_<;>(try simp only[lM,lC,lN])<;>omega):n=(l.map mS).length) (by first|assumption|omega|(simp only[lM];omega)|(refine aN (m:=2^31) ?_ ?_ ?_<;>(try simp only[lM,lC,lN])<;>omega):small (n+([AV.str (gX u d)]).length) 16=true))<|cM (f:=mS) (l:=l) (ws:=[gX u d])) (ln aV u.kids) (jQ (tR 1 true (ep+1) 3<|aX Jh<|l++[gX u d]) rt rt ti) (aq<|sL u d l (0,u.kids,(ep+1,n+1,l++[gX u d]))) (et (rfl:List.drop 0 (u.kids)=u.kids) (by first|rfl|(first|grind|(have h1:=hj0.2.1;have h2:=hj0.2.2;rw[bh]at h2;rw[mW]at h1;exact⟨hy1.1,(by rw[hy1.2,←h1];simp),(by rw[hy1.2,lA,kE];omega)⟩)):(n+1=(l++[gX u d]).length∧l++[gX u d]++dQ (d+1) u.kids=l++[gX u d]++dQ (d+1) u.kids∧(l++[gX u d]).length+eQ u.kids≤2^20))) fun(f:Nat×List TUnit×Nat×Nat×List aO)(g:(sM u d l) f)=>et (fun(i:f.2.1=[])=>have j:=eG g.1 i;have:=gd (J:=fun e f=>f.2.1=f.2.2.length∧f.2.2++dQ (d+1) e=l++[gX u d]++dQ (d+1) u.kids∧f.2.2.length+eQ e≤2^20) (a:=f.2.2) i g.2;et j<|e (f.2.2.1,f.2.2.2.1,f.2.2.2.2)<|by first|grind[wP,CR]|rfl) fun(e:TUnit)(i:List TUnit)(j:f.2.1=e::i)=>have o:=fJ g.1 j;have:=an o;have p:=(eF (enc:=aV) g.1 j).trans<|congrArg some<|aR e;have:=cw (J:=fun e f=>f.2.1=f.2.2.length∧f.2.2++dQ (d+1) e=l++[gX u d]++dQ (d+1) u.kids∧f.2.2.length+eQ e≤2^20) (a:=f.2.2) j g.2;have q:=bQ g.1 j;have r:f.2.2.2.2.length+nU e≤2^20:=(by grind[bh]);have s:d+1+nU e≤2^20:=(by have:=iz q;omega);ya o p (g0 d) (jQ (tR 1 true f.2.2.1 3<|aX Jh f.2.2.2.2) rt rt ti) (ihk e q (d+1) f.2.2.1 f.2.2.2.1 f.2.2.2.2 (by first|assumption|omega|(simp only[lM];omega)|(refine aN (m:=2^31) ?_ ?_ ?_<;>(try simp only[lM,lC,lN])<;>omega)) r s) fun(o:Nat×Nat×List aO)(_:o.2.1=o.2.2.length∧o.2.2=f.2.2.2.2++eZ (d+1) e)=>et (g0 f.1)<|Nx.mk (I:=sM u d l) (m:=fun e=>e.2.1.length) (S:=sL u d l) (x:=f) (f.1+1,i,(o.1,o.2.1,o.2.2)) (et (bJ g.1 j) (by first|exact⟨by simp[hn],rfl,by simp;omega⟩|grind[bh,mW,kE]:(o.2.1=o.2.2.length∧o.2.2++dQ (d+1) i=l++[gX u d]++dQ (d+1) u.kids∧o.2.2.length+eQ i≤2^20)))<|dl j
theorem YL(u:TUnit)(d:Nat)(hl:nU u≤2^19)(hd:d+nU u≤2^20)(ht:∀x,x∈bp u→r9 x):kC 284 [eU u,nV d,.ptr 0 0 0 0,.ptr 1 0 0 0] (ab [.row 1 false 0 [.nils],EI])
    (fun v h=>∃y:Nat×Nat×List aO,(y.2.1=y.2.2.length∧y.2.2=eZ d u)∧v=.tuple []∧h=ab [HI y.1 y.2.1,EI,Fe y.1 y.2.2]):=by
  have hq:=i7 u
  have hkl:=bf u
  have hf:=Lk u d (by omega) (ht u (dK u))
  have ihk:∀k,k∈u.kids→∀(d ep n:Nat)(l:List aO),n=l.length→l.length+nU k≤2^20→d+nU k≤2^20→kC 284 [eU k,nV d,.ptr 0 0 0 0,.ptr 1 0 0 0] (ab [HI ep n,EI,Fe ep l])
    (fun v h=>∃y:Nat×Nat×List aO,(y.2.1=y.2.2.length∧y.2.2=l++eZ d k)∧v=.tuple []∧h=ab [HI y.1 y.2.1,EI,Fe y.1 y.2.2]):=fun k hk d ep n l a b c=>YI k d ep n l a b c (fun x hx=>ht x (bA hk hx))
  exact qJ Tryz.func284 fun e=>Kp 3 hf<|Kl 5 16 (ln aV u.kids)<|Mg 0<|M0 (.ren [0,1,3,2] [] [1,3,15,16,17])<|M1 (.frz 3 [1,3,15,16,17]) (jQ rt rt rt ti)<|Vd aV u.kids (0:Nat) (1:Nat) ([gX u d]:List aO) [1,3,15,16,17] (fun e _ f g i=>([nV d,bY 1 0 0 0,aW<|u.kids.map aV,nV u.kids.length,nV e],[aZ 1 false 0 [aI 2 f 0 g none],aZ 1 false 0 [bq (bU 284) [] [bY 0 0 0 0,bY 1 0 0 0]],aZ 1 true f<|i.map mS])) (fun e _ f g=>f=g.length∧g++dQ (d+1) e=[gX u d]++dQ (d+1) u.kids∧g.length+eQ e≤2^20) (by first|rfl|(first|grind|(have h1:=hj0.2.1;have h2:=hj0.2.2;rw[bh]at h2;rw[mW]at h1;exact⟨hy1.1,(by rw[hy1.2,←h1];simp),(by rw[hy1.2,lA,kE];omega)⟩))) (fun _ _ f g i _ _ _ j _=>Kh 0 j<|Mf<|e (f,g,i)<|by first|grind[wP,CR]|rfl) fun e _ f g i j m o p q r s _ t _=>have t:=(t).trans<|congrArg some<|aR o;have:=cw (J:=fun e f=>f.2.1=f.2.2.length∧f.2.2++dQ (d+1) e=[gX u d]++dQ (d+1) u.kids∧f.2.2.length+eQ e≤2^20) (a:=(f,g,i)) r m;have j:=bQ j r;have m:i.length+nU o≤2^20:=(by grind[bh]);have r:d+1+nU o≤2^20:=(by have:=iz j;omega);Kt 0 s<|Mx t<|Kl 6 24 (g0 d)<|M1 (.frz 3 [1,3,15,16,17,21,22,24]) (jQ (tR 1 true f 3<|aX Jh i) rt rt ti)<|Mq (ihk o j (d+1) f g i (by first|assumption|omega) m r) fun f _=>Kl 0 26 (g0 e)<|Kf 0<|q f.1 f.2.1 f.2.2<|by first|exact⟨by simp[hl],rfl,by simp;omega⟩|grind[bh,mW,kE]
theorem WE(u:TUnit)(h:mf u)(hv:kr (cG u)=false):kP 258 [eU u] (.ls (([]:List aO).map mS)):=by
  have h1:=Ds u h
  have h2:=xR (cG u) (sd h)
  exact bC Tryz.func258<|Kp 2 h1<|Mp h2<|Kt 0 (bO hv)<|Kf 0 bI
theorem WD(u:TUnit)(h:mf u)(hv:kr (cG u)=true):kP 258 [eU u] (.ls ((eZ 0 u).map mS)):=by
  have h1:=Ds u h
  have h2:=xR (cG u) (sd h)
  have h3:=YL u 0 h.1 (by have:=h.1;omega) h.2
  have rr0 b' (h:((eZ 0 u).map mS)=b':=by first|rfl|(rw[hy0.2])):=h;exact bC Tryz.func258<|Kp 2 h1<|Mp h2<|Kh 0 (bN hv)<|Mg 5<|M0 (.ren [1,2,0] [] [3,10,11])<|M1 (.frz 2 [3,10,11]) (cj rt rt ti)<|Mq h3 fun a hy0=>Mg 1<|M2 (.fsl 0 [] 2<|a.2.2.map mS) ti (cj (aq a.1) (tA mS a.2.2 a.2.1 (by first|assumption|omega:(a.2.2).length=a.2.1))<|aX Jh a.2.2)<|Ml 2 (eS (a.2.2.map mS) false<|aX Jh a.2.2)<|Mf<|b6<|rr0<|a.2.2.map mS
theorem Y2(u:TUnit)(h:mf u)(hv:kr (cG u)=false):kP 234 [eU u] (.tuple [.str (xB u).1,iV (xB u).2]):=by
  have h1:=WE u h hv
  have e:xB u=([],1):=by unfold xB;simp_all
  rw[e]
  exact bC Tryz.func234<|Kp 3 h1<|Kf 6<|bd<|eV [aK [],iV 1]
theorem Y1(u:TUnit)(h:mf u)(hv:kr (cG u)=true):kP 234 [eU u] (.tuple [.str (xB u).1,iV (xB u).2]):=by
  have h1:=WD u h hv
  have hlen:=kE 0 u
  have hq:=i7 u
  have hm:=h.1
  have hjl:=Qm (sep:=[10]) (B:=2^14) (l:=eZ 0 u) (fun s hs=>AZ 0 u s hs)
  rw[hlen]at hjl
  have hj2:(Lib.join (eZ 0 u) [10]).length≤140737488355328:=bR hjl (bR (ee _ hm) (by grind))
  have hj3:(Lib.join (eZ 0 u) [10]).length≤2^40:=bR hjl (bR (ee _ hm) (by grind))
  have hj:=UZ (eZ 0 u) [10] (by omega) hj2
  have hz:al (.ofNat (eZ 0 u).length) 0=false:=by grind[Ri]
  have e:xB u=(bif au 16384 (.ofNat (Lib.join (eZ 0 u) [10]++[10]).length)then([],6)else(Lib.join (eZ 0 u) [10]++[10],0)):=by unfold xB;simp_all
  rw[e]
  clear e
  generalize Lib.join (eZ 0 u) [10]=J at *
  cases hb:au 16384 (.ofNat (J++[10]).length)
  · have hb2:au 16384 (.ofNat (J++[10]).length)=false:=hb
    exact bC Tryz.func234<|Kp 3 h1<|Kl 2 9 (ln mS<|eZ 0 u)<|Kh 0 hz<|Kp 0 hj<|Mv (iN (s:=J) (u:=[10]) (H:=ab [aZ 8 false 0 [az [iV u.act,iV u.item,iV u.n,iV u.kind,aK u.label,aW<|u.head.map aQ,aW<|u.words.map aQ,aW<|u.kids.map aV]]]) (by(first|first|assumption|grind|omega|(simp only[lA,lC,lN]at *;omega)):(J).length+([10]).length≤2^62))<|Kh 3 hb<|Kf 2<|bd<|eV [aK<|J++[10],iV 0]
  · have hb2:au 16384 (.ofNat (J++[10]).length)=true:=hb
    exact bC Tryz.func234<|Kp 3 h1<|Kl 2 9 (ln mS<|eZ 0 u)<|Kh 0 hz<|Kp 0 hj<|Mv (iN (s:=J) (u:=[10]) (H:=ab [aZ 8 false 0 [az [iV u.act,iV u.item,iV u.n,iV u.kind,aK u.label,aW<|u.head.map aQ,aW<|u.words.map aQ,aW<|u.kids.map aV]]]) (by(first|first|assumption|grind|omega|(simp only[lA,lC,lN]at *;omega)):(J).length+([10]).length≤2^62))<|Kt 3 hb<|Kf 1<|bd<|eV [aK [],iV 6]
theorem XK(u:TUnit)(h:mf u):kP 234 [eU u] (.tuple [.str (xB u).1,iV (xB u).2]):=by
  grind[Y2,Y1]
def WO(u:TUnit):Bool:=HP u&&(aw (al u.kind 0)&&al (xB u).2 0)
theorem WN(u:TUnit)(h:mf u):kP 177 [eU u] (.bool (WO u)):=by
  have q1:=XK u h
  have q2:=XI u h
  have rr0 b' (h:(WO u)=b':=by first|rfl|(unfold WO;rw[h0];rfl)|(unfold WO;rw[h0,h1];rfl)|(unfold WO;rw[h0,h1,h2];rfl)):=h;exact bC Tryz.func177<|Kp 2 q1<|Kp 5 q2<|Kb 0 (HP u) (fun h0=>Kt 0 h0<|Kt 0 h0<|Ku 0 h0<|Kn 0 (al u.kind 0) (fun h1=>Kt 0 (bO h1)<|Ku 0 (bO h1)<|Kf 0<|ch<|rr0<|al (xB u).2 0) fun h1=>Mh (bN h1)<|My (bN h1)<|Ky 0<|rr0 false) fun h0=>Mh h0<|Mh h0<|My h0<|Ky 2<|rr0 false
/-- What an item must be, so that the walks can count. -/
def yV(x:PItem):Prop:=nZ x∧(x.at_.length<2^40∧∀s,s∈x.at_→s.label.length≤2^39)∧(x.to.length<2^40∧∀s,s∈x.to→s.label.length≤2^39)∧(x.old.length<2^40∧∀s,s∈x.old→s.length≤2^39)∧(x.new.length<2^40∧∀s,s∈x.new→s.length≤2^39)∧x.label.length≤2^39∧x.for_.length≤2^39∧x.start.event.length≤2^39∧mf x.unit
/-- What a valid item is known to be. -/
def Ab(x:PItem):Prop:=(x.kind=0∨x.kind=6→ie x.where_=true)∧(x.kind=0→WO x.unit=true)∧(x.kind=2∨x.kind=3→qk x.old=true∧BI x.nth_=true)∧(x.kind=2∨x.kind=3∨x.kind=4→qk x.new=true)
theorem qx{l:List aO}{n:Int}(h:qj l n=true):qk l=true:=by
  simp_all[qj]
theorem V7(x:PItem)(hx:yV x)(h0:0≤x.kind)(h6:x.kind≤6):∃b,kP 106 [eI x] (.bool b)∧(b=true→Ab x):=by
  obtain⟨k,a,t,w,n,u,o,ne,l,f,s,ac,im,d,e,bs⟩:=x
  obtain⟨hf,⟨ha,has⟩,⟨ht,hts⟩,⟨ho,hos⟩,⟨hn,hns⟩,hl,hfo,hse,hu⟩:=hx
  have hz:pW be:=⟨by grind,by grind,by grind,trivial⟩
  have n0:(0:Nat)<2^60:=by omega
  obtain⟨f1,f2,f3,f4,f5,f6,f7⟩:=hf
  have hff:∀k w n,nZ ⟨k,a,t,w,n,u,o,ne,l,f,s,ac,im,d,e,bs⟩:=fun _ _ _=>⟨f1,f2,f3,f4,f5,f6,f7⟩
  have h0:0≤k:=h0
  have h6:k≤6:=h6
  have hk:k=0∨k=1∨k=2∨k=3∨k=4∨k=5∨k=6:=by omega
  rcases hk with rfl|rfl|rfl|rfl|rfl|rfl|rfl
  · refine⟨_,ot ⟨0,a,t,w,n,u,o,ne,l,f,s,ac,im,d,e,bs⟩ (nM ⟨0,a,t,w,n,u,o,ne,l,f,s,ac,im,d,e,bs⟩ 0) 174 175 _ _ rfl rfl (U2 _) (sS _ (hff _ _ _) (xJ ⟨0,a,t,w,n,u,o,ne,l,f,s,ac,im,d,e,bs⟩ (nM ⟨0,a,t,w,n,u,o,ne,l,f,s,ac,im,d,e,bs⟩ 0)) ⟨f1,n0,n0,n0,n0,f6,trivial⟩) (T1 a t w n u o ne l f s ac im d e bs (WO u) (WN u hu)) ha has hfo hse,fun h=>?_⟩
    simp only[bx]at h
    exact⟨fun _=>h.2.2.2.2.1,fun _=>h.2.2.2.2.2,fun q=>(by rcases q with q|q<;>cases q),fun q=>(by rcases q with q|q|q<;>cases q)⟩
  · refine⟨_,ot ⟨1,a,t,w,n,u,o,ne,l,f,s,ac,im,d,e,bs⟩ (nM ⟨1,a,t,w,n,u,o,ne,l,f,s,ac,im,d,e,bs⟩ 1) 178 179 _ _ rfl rfl (U1 _) (sS _ (hff _ _ _) (xJ ⟨1,a,t,w,n,u,o,ne,l,f,s,ac,im,d,e,bs⟩ (nM ⟨1,a,t,w,n,u,o,ne,l,f,s,ac,im,d,e,bs⟩ 1)) ⟨f1,n0,n0,n0,n0,hz,trivial⟩) (T0 a t w n u o ne l f s ac im d e bs) ha has hfo hse,fun h=>?_⟩
    exact⟨fun q=>(by rcases q with q|q<;>cases q),fun q=>(by cases q),fun q=>(by rcases q with q|q<;>cases q),fun q=>(by rcases q with q|q|q<;>cases q)⟩
  · refine⟨_,ot ⟨2,a,t,w,n,u,o,ne,l,f,s,ac,im,d,e,bs⟩ (nM ⟨2,a,t,w,n,u,o,ne,l,f,s,ac,im,d,e,bs⟩ 2) 180 181 _ _ rfl rfl (U0 _) (sS _ (hff _ _ _) (xJ ⟨2,a,t,w,n,u,o,ne,l,f,s,ac,im,d,e,bs⟩ (nM ⟨2,a,t,w,n,u,o,ne,l,f,s,ac,im,d,e,bs⟩ 2)) ⟨f1,n0,f3,f4,n0,hz,trivial⟩) (TT a t w n u o ne l f s ac im d e bs ho hn hos hns) ha has hfo hse,fun h=>?_⟩
    simp only[bx]at h
    exact⟨fun q=>(by rcases q with q|q<;>cases q),fun q=>(by cases q),fun _=>⟨qx h.2.2.2.2.1,h.2.2.2.2.2.2⟩,fun _=>qx h.2.2.2.2.2.1⟩
  · refine⟨_,ot ⟨3,a,t,w,n,u,o,ne,l,f,s,ac,im,d,e,bs⟩ (nM ⟨3,a,t,w,n,u,o,ne,l,f,s,ac,im,d,e,bs⟩ 3) 184 185 _ _ rfl rfl (UT _) (sS _ (hff _ _ _) (xJ ⟨3,a,t,w,n,u,o,ne,l,f,s,ac,im,d,e,bs⟩ (nM ⟨3,a,t,w,n,u,o,ne,l,f,s,ac,im,d,e,bs⟩ 3)) ⟨f1,n0,f3,f4,n0,hz,trivial⟩) (TS a t w n u o ne l f s ac im d e bs ho hn hos hns) ha has hfo hse,fun h=>?_⟩
    simp only[bx]at h
    exact⟨fun q=>(by rcases q with q|q<;>cases q),fun q=>(by cases q),fun _=>⟨qx h.2.2.2.2.1,h.2.2.2.2.2.2.1⟩,fun _=>qx h.2.2.2.2.2.1⟩
  · refine⟨_,ot ⟨4,a,t,w,n,u,o,ne,l,f,s,ac,im,d,e,bs⟩ (nM ⟨4,a,t,w,n,u,o,ne,l,f,s,ac,im,d,e,bs⟩ 4) 186 187 _ _ rfl rfl (US _) (sS _ (hff _ _ _) (xJ ⟨4,a,t,w,n,u,o,ne,l,f,s,ac,im,d,e,bs⟩ (nM ⟨4,a,t,w,n,u,o,ne,l,f,s,ac,im,d,e,bs⟩ 4)) ⟨f1,n0,n0,f4,n0,hz,trivial⟩) (TR a t w n u o ne l f s ac im d e bs hn hns) ha has hfo hse,fun h=>?_⟩
    simp only[bx]at h
    exact⟨fun q=>(by rcases q with q|q<;>cases q),fun q=>(by cases q),fun q=>(by rcases q with q|q<;>cases q),fun _=>qx h.2.2.2.2⟩
  · refine⟨_,ot ⟨5,a,t,w,n,u,o,ne,l,f,s,ac,im,d,e,bs⟩ (nM ⟨5,a,t,w,n,u,o,ne,l,f,s,ac,im,d,e,bs⟩ 5) 188 189 _ _ rfl rfl (UR _) (sS _ (hff _ _ _) (xJ ⟨5,a,t,w,n,u,o,ne,l,f,s,ac,im,d,e,bs⟩ (nM ⟨5,a,t,w,n,u,o,ne,l,f,s,ac,im,d,e,bs⟩ 5)) ⟨f1,n0,n0,n0,n0,hz,trivial⟩) (TP a t w n u o ne l f s ac im d e bs hl) ha has hfo hse,fun h=>?_⟩
    exact⟨fun q=>(by rcases q with q|q<;>cases q),fun q=>(by cases q),fun q=>(by rcases q with q|q<;>cases q),fun q=>(by rcases q with q|q|q<;>cases q)⟩
  · refine⟨_,ot ⟨6,a,t,w,n,u,o,ne,l,f,s,ac,im,d,e,bs⟩ (nM ⟨6,a,t,w,n,u,o,ne,l,f,s,ac,im,d,e,bs⟩ 6) 191 192 _ _ rfl rfl (UP _) (sS _ (hff _ _ _) (xJ ⟨6,a,t,w,n,u,o,ne,l,f,s,ac,im,d,e,bs⟩ (nM ⟨6,a,t,w,n,u,o,ne,l,f,s,ac,im,d,e,bs⟩ 6)) ⟨f1,f2,n0,n0,n0,hz,trivial⟩) (TO a t w n u o ne l f s ac im d e bs ht hts) ha has hfo hse,fun h=>?_⟩
    simp only[bx]at h
    exact⟨fun _=>h.2.2.2.2.1,fun q=>(by cases q),fun q=>(by rcases q with q|q<;>cases q),fun q=>(by rcases q with q|q|q<;>cases q)⟩
theorem wM{u:TUnit}(h:OkB u):∀x,x∈bp u→x.head.length<2^30∧x.words.length<2^30:=fun x hx=>⟨nJ (h.w x hx).1 (by omega),nJ (h.w x hx).2 (by omega)⟩
theorem DS(p:PId)(u:TUnit)(hn:nU u≤1024): -1≤qa p u∧qa p u≤2^20:=by
  cases h:iQ p u with
  |false=>rw[PP h];omega
  | true=>
    obtain⟨q,i,h1,_,h3,h4,_⟩:=vA u h
    have:=dL h1
    grind[bf]
theorem yj(w:Int)(u:TUnit)(p:PId)(hn:nU u≤1024): -1≤(dz w u p).1.at_∧(dz w u p).1.at_≤2^41:=by
  have hb:=DS p u hn
  have key:∀n:Int,0≤n→n≤1→ -1≤(ni u p n).1.at_∧(ni u p n).1.at_≤2^41:=fun n h0 h1=>by
    unfold ni
    cases iQ p u
    · exact⟨by show(-1:Int)≤0;omega,by show(0:Int)≤_;omega⟩
    grind
  unfold dz
  cases al w 0
  · cases al w 1
    · grind
    · show -1≤Int.ofNat _∧Int.ofNat _≤2^41
      have:(ej p u).kids.length≤1024:=by
        cases h:cV p u with
        | true=>
          have:=dL (vt h).1
          grind[bf]
        |false=>unfold ej;rw[h];exact bH _
      grind
  simp_all
theorem v9{u:TUnit}(hu:OkB u)(p:PId):kP 62 [eU u,aY p] (.tuple [eU (ej p u),.bool (cV p u)]):=Rz p u (bR hu.n (by omega)) (wM hu)
theorem j7{u:TUnit}(hu:OkB u)(p:PId):kP 171 [eU u,aY p] (.tuple [aY (su p u),iV (qa p u),.bool (iQ p u)]):=PM p u (bR hu.n (by omega))
theorem wI{u:TUnit}(hu:OkB u)(p:List PStep)(hp:p.length<2^40∧∀s,s∈p→s.label.length≤2^39):kP 107 [eU u,.ls (p.map aj)] (.tuple [aY (aG u p).1,iV (aG u p).2]):=
  NN u p (Uo u p (bR hu.n (by omega)) hp.1 hp.2) (bR hu.n (by omega))
theorem Lb{u:TUnit}(hu:OkB u)(p:PId):kP 273 [eU u,aY p] (.tuple [fU (dz 0 u p).1,iV (dz 0 u p).2]):=Qh u _ p _ (v9 hu p)
theorem La{u:TUnit}(hu:OkB u)(p:PId):kP 276 [eU u,aY p] (.tuple [fU (dz 1 u p).1,iV (dz 1 u p).2]):=Qg u _ p _ (v9 hu p)
theorem Ly{u:TUnit}(hu:OkB u)(p:PId):kP 278 [eU u,aY p] (.tuple [fU (dz 2 u p).1,iV (dz 2 u p).2]):=Qf u p _ _ _ (j7 hu p) (by have:=DS p u hu.n;omega)
theorem Lv{u:TUnit}(hu:OkB u)(p:PId):kP 280 [eU u,aY p] (.tuple [fU (dz 3 u p).1,iV (dz 3 u p).2]):=Qe u p _ _ _ (j7 hu p) (by have:=DS p u hu.n;omega)
theorem wg{w:Int}(h:ie w=true):w=0∨w=1∨w=2∨w=3:=by
  unfold ie at h
  rw[bx]at h
  have h1:=ge h.1
  have h2:=ge h.2
  omega
/-- Where a unit is inserted. -/
theorem Tl{u:TUnit}(hu:OkB u)(p:List PStep)(hp:p.length<2^40∧∀s,s∈p→s.label.length≤2^39)(w:Int)(hw:ie w=true):kP 210 [eU u,.ls (p.map aj),iV w]
    (.tuple [aY (Cn (aG u p).2 (dz w u (aG u p).1).1 (dz w u (aG u p).1).2).1.id,iV (Cn (aG u p).2 (dz w u (aG u p).1).1 (dz w u (aG u p).1).2).1.at_,iV (Cn (aG u p).2 (dz w u (aG u p).1).1 (dz w u (aG u p).1).2).2]):=by
  rcases wg hw with rfl|rfl|rfl|rfl
  · exact rY 0 _ rfl rfl u p _ _ _ _ (wI hu p hp) (Lb hu _)
  · exact rY 1 _ rfl rfl u p _ _ _ _ (wI hu p hp) (La hu _)
  · exact rY 2 _ rfl rfl u p _ _ _ _ (wI hu p hp) (Ly hu _)
  · exact rY 3 _ rfl rfl u p _ _ _ _ (wI hu p hp) (Lv hu _)
theorem XQ{u:TUnit}(hu:OkB u)(p q:PId)(w:Int)(hw:ie w=true):∃bs,kP 212 [eU u,aY p,aY q,iV w]
    (.tuple [fU (nI p q (su p u) (qa p u) (iQ p u) ((pF q u).any (bg p)) bs (dz w u q).1 (dz w u q).2).1,iV (nI p q (su p u) (qa p u) (iQ p u) ((pF q u).any (bg p)) bs (dz w u q).1 (dz w u q).2).2]):=by
  have hb:=DS p u hu.n
  have hb: -1≤qa p u∧qa p u≤2^40:=by omega
  have hn:nU u≤2^20:=bR hu.n (by omega)
  have hal:(pF q u).length<2^40:=by
    grind[l9,pF]
  have hC:=L1 (pF q u) p hal
  rcases wg hw with rfl|rfl|rfl|rfl
  · exact⟨_,GM 0 _ rfl rfl rfl u p q _ _ _ _ _ _ _ hb (yj 0 u q hu.n) (j7 hu p) (H2 q u hn) hC (Lb hu q)⟩
  · exact⟨_,GM 1 _ rfl rfl rfl u p q _ _ _ _ _ _ _ hb (yj 1 u q hu.n) (j7 hu p) (H2 q u hn) hC (La hu q)⟩
  · exact⟨_,Q4 u p q _ _ _ _ _ _ _ hb (yj 2 u q hu.n) (j7 hu p) (H2 q u hn) hC (Ly hu q)⟩
  · exact⟨_,Q3 u p q _ _ _ _ _ _ _ hb (yj 3 u q hu.n) (j7 hu p) (H2 q u hn) hC (Lv hu q)⟩
theorem G4{B:Nat}:∀{l:List TUnit},(∀x,x∈l→(nY x).length≤B)→(l.flatMap nY).length≤B*l.length
  |[],_=>bH _
  | x::r,h=>by
    have h1:=h x eT
    have h2:=G4 (l:=r) fun y hy=>h y (e9 _ hy)
    rw[List.flatMap_cons,lA,lC,Nat.mul_succ];omega
theorem PU{u:TUnit}(h:mf u):(m6 u).length≤2^29:=by
  rw[Sl]
  have h1:∀x,x∈bp u→(nY x).length≤600:=fun x hx=>by
    obtain⟨a,b,_⟩:=h.2 x hx
    unfold nY;rw[lA];omega
  have h2:=G4 h1
  have h3:(bp u).length=nU u:=by rw[lG];unfold dY;rw[lM]
  rw[h3]at h2
  have:=h.1
  omega
theorem Yh{e:Int}{sp:PSpot}{e2:Int}(h:(Cn e sp e2).2=0):e=0∧e2=0∧(Cn e sp e2).1=sp:=by
  unfold Cn at h ⊢
  cases h1:al e 0 with
  |false=>rw[h1]at h;rw[show e=0 from h]at h1;cases h1
  | true=>
    rw[h1]at h
    cases h2:al e2 0 with
    |false=>rw[h2]at h;rw[show e2=0 from h]at h2;cases h2
    |true=>exact⟨kV h1,kV h2,rfl⟩
theorem UY{u u2:TUnit}{te:Int}{full cf:Bool}:(ND u te full cf u2).1=u∨(full=false∧cf=false∧(ND u te full cf u2).1=u2):=by
  unfold ND;cases al te 0<;>cases full<;>cases cf<;>first|exact .inl rfl|exact .inr ⟨rfl,rfl,rfl⟩
/-- What an outcome is known to be. -/
def Bk(u:TUnit)(d:PDeed)(v:TUnit):Prop:=OkB v∧Rt u v
theorem Bk.refl{u:TUnit}(hu:OkB u){d:PDeed}:Bk u d u:=⟨hu,rfl⟩
/-- An insertion has an outcome. -/
theorem VM{u:TUnit}(hu:OkB u)(f:TUnit)(d:PDeed)(hd:yV d.it)(hg:Ab d.it)(hk:d.it.kind=0):∃r:pG,kP 128 [eU u,eU f,aU d] (eA r)∧Bk u d r.1:=by
  have hw:=hg.1 (.inl hk)
  have hD:=RA u d.it _ _ _ (by rw[hk];rfl) (Tl hu d.it.at_ hd.2.1 d.it.where_ hw)
  cases he:al (Cn (aG u d.it.at_).2 (dz d.it.where_ u (aG u d.it.at_).1).1 (dz d.it.where_ u (aG u d.it.at_).1).2).2 0 with
  |false=>exact⟨(u,_),Uq u f d _ _ _ he hD,.refl hu⟩
  | true=>
    have e0:=kV he
    obtain⟨e1,e2,e3⟩:=Yh e0
    obtain⟨n,n1,n2,n3⟩:=Ga hu (qC e1) e2
    rw[e0,e3,n1]at hD
    have ht:=hd.2.2.2.2.2.2.2.2
    have hS:=Pw d.act d.item d.it.unit (bR ht.1 (by decide)) (PU ht) (fun x hx=>⟨bR (ht.2 x hx).1 (by decide),bR (ht.2 x hx).2.1 (by decide)⟩)
    have hsn:=Pv d.act d.item d.it.unit 0 0
    have hsi:=va d.act d.item d.it.unit 0 0
    have hsw:=KJ d.act d.item 300 d.it.unit 0 0 (fun x hx=>⟨(ht.2 x hx).1,(ht.2 x hx).2.1⟩)
    generalize cR d.act d.item d.it.unit 0 0=X at *
    have hn:=hu.n
    have hm:=ht.1
    have hX:nU X≤2^19:=by omega
    have hkp:(ej (dz d.it.where_ u (aG u d.it.at_).1).1.id u).kids.length<2^40:=by
      cases h:cV (dz d.it.where_ u (aG u d.it.at_).1).1.id u with
      |true=>have:=dL (vt h).1;have:=bf (ej (dz d.it.where_ u (aG u d.it.at_).1).1.id u);omega
      |false=>unfold ej;rw[h];exact nJ (bH 0) (by decide)
    have hiu:(dY u).length<2^40:=by rw[←lG];omega
    have hix:(dY X).length<2^40:=by rw[←lG];omega
    refine⟨_,UW u f _ X _ d _ n (nU u) (nU X) _ _ _ _ (dY u) (dY X) (by omega) (by omega) hD (v9 hu _) hS (yM _ X hkp) (LM u X _ (by omega) (by omega)) (Et u (by omega)) (Et X (by omega)) (QP u (by omega)) (QP X (by omega)) (cfX (dY X) (dY u) hiu hix) (OT _ n X u (by omega) (wM hu) n3),?_⟩
    rcases UY (u:=u) (u2:=dZ (dz d.it.where_ u (aG u d.it.at_).1).1.id (dr n X) u) (te:=yN (ej (dz d.it.where_ u (aG u d.it.at_).1).1.id u) X) (full:=aw (au (Int.ofNat (ej (dz d.it.where_ u (aG u d.it.at_).1).1.id u).kids.length) 64)||(RH u (dz d.it.where_ u (aG u d.it.at_).1).1.id X||au 1024 (Int.ofNat (nU u+nU X)))) (cf:=(dY X).any fun i=>(dY u).any (bg i))with q|⟨q1,q2,q3⟩
    · rw[q];exact .refl hu
    · rw[q3]
      rw[CJ,CJ]at q1
      have q4:=aF q1.2.2
      simp only[oN]at q4
      refine⟨hu.ins (by rw[hsi];exact Pa _ _ _ _) (fun p hp hq=>?_) (by omega) hsw,KH (f:=dr n X) (fun _=>rfl) u⟩
      rw[List.any_eq_false]at q2
      have:=q2 p hp
      exact this (List.any_eq_true.2 ⟨p,hq,mM p⟩)
/-- A unit is taken away. -/
theorem Vu{u:TUnit}(hu:OkB u){p:PId}(hp:iQ p u=true):∃q i,q∈bp u∧su p u=bz q∧qa p u=Int.ofNat i∧i<q.kids.length∧bz (gD q.kids i)=p∧kP 164 [eU u,aY p] (eU (dZ (bz q) (gm i) u)):=by
  obtain⟨q,i,h1,h2,h3,h4,h5⟩:=vA u hp
  have hP:=j7 hu p
  rw[h2,h3,hp]at hP
  exact⟨q,i,h1,h2,h3,h4,h5,yC u _ p _ i hP (O1 (bz q) i u (bR hu.n (by decide)) (wM hu) fun v hv hid=>by rw[hu.uni hv h1 ((gg _ v).1 hid)];exact h4)⟩
theorem Yb{u x:TUnit}(hu:OkB u)(d:PDeed)(hp:iQ (bz x) u=true):∃r:pG,kP 129 [eU u,eU x,aU d] (eA r)∧Bk u d r.1:=by
  obtain⟨q,i,h1,h2,h3,h4,h5,h6⟩:=Vu hu hp
  exact⟨_,Tw u x _ d h6,(hu.del h1 h4).1,KH (f:=gm i) (fun _=>rfl) u⟩
theorem DO(l:List PWord):(vp l).length≤256:=by
  unfold vp
  cases h:au 256 (Int.ofNat l.length)with
  |true=>exact bH _
  |false=>have:=aF h;simp only[oN]at this;show l.length≤256;omega
theorem Ps(a b:Int)(w:List PWord)(old new:List aO)(n:Int):(FM a b w old new n).1.length≤256:=by
  unfold FM
  cases al (Int.ofNat old.length) 0
  · cases al (Int.ofNat (nG (uW (b7 w) old) n).length) 0
    · exact DO _
    · exact bH _
  · exact bH _
theorem UJ(a b:Int)(w:List PWord)(part new:List aO)(n:Int):(Ew a b w part new n).1.length≤256:=by
  unfold Ew
  cases(al (Int.ofNat new.length) 0||(al (Int.ofNat part.length) 0&&aw (al n 0)))
  · cases al (Int.ofNat part.length) 0
    · cases al (Int.ofNat (nG (uW (b7 w) part) n).length) 0
      · exact DO _
      · exact bH _
    · exact DO _
  · exact bH _
theorem tu{l:List aO}(h:qk l=true):l.length≤256:=by
  unfold qk at h
  rw[bx]at h
  have:=ge h.1
  simp only[oN]at this
  omega
theorem LJ{n:Int}(h:BI n=true):0≤n∧n≤256:=by
  unfold BI at h
  rw[bx]at h
  exact⟨ge h.1,ge h.2⟩
theorem CB{u:TUnit}(hu:OkB u)(q:PId){l:List PWord}(hl:l.length≤300):OkB (dZ q (l8 l) u):=hu.keep (fun _=>⟨rfl,rfl⟩) fun v hv=>⟨(hu.w v hv).1,hl⟩
theorem QZ{u:TUnit}(hu:OkB u)(q:PId){l:List PWord}(hl:l.length≤300):OkB (dZ q (Aw l) u):=hu.keep (fun _=>⟨rfl,rfl⟩) fun v hv=>⟨hl,(hu.w v hv).2⟩
theorem Ng{u:TUnit}(hu:OkB u)(q:PId)(s:aO):OkB (dZ q (o9 s) u):=hu.keep (fun _=>⟨rfl,rfl⟩) fun v hv=>hu.w v hv
theorem J1{u u2:TUnit}{d:PDeed}{e:Int}(h:OkB u)(h2:Bk u d u2):Bk u d (Fq u e u2).1:=by
  have h:=Bk.refl h (d:=d)
  unfold Fq;cases al e 0;exact h;exact h2
theorem X5{u x:TUnit}(hu:OkB u)(hx:x∈bp u)(hp:iQ (bz x) u=true)(d:PDeed)(hg:Ab d.it)(hk:d.it.kind=2):∃r:pG,kP 130 [eU u,eU x,aU d] (eA r)∧Bk u d r.1:=by
  obtain⟨h1,h2⟩:=hg.2.2.1 (.inl hk)
  have h3:=tu h1
  have h4:=tu (hg.2.2.2 (.inl hk))
  obtain⟨h5,h6⟩:=LJ h2
  have h7:=(hu.w x hx).2
  have hR:=Tk d.act d.item x.words d.it.old d.it.new d.it.nth_ (by omega) (by omega) (by omega) h5 (by omega) (jx h5)
  exact⟨_,SH u x _ d _ _ hR (ON (bz x) _ u (bR hu.n (by decide)) (wM hu)),J1 hu ⟨CB hu _ (bR (Ps ..) (by decide)),KG hp⟩⟩
theorem Yf{u x:TUnit}(hu:OkB u)(hx:x∈bp u)(hp:iQ (bz x) u=true)(d:PDeed)(hg:Ab d.it)(hk:d.it.kind=3):∃r:pG,kP 131 [eU u,eU x,aU d] (eA r)∧Bk u d r.1:=by
  obtain⟨h1,h2⟩:=hg.2.2.1 (.inr hk)
  have h3:=tu h1
  have h4:=tu (hg.2.2.2 (.inr (.inl hk)))
  obtain⟨h5,h6⟩:=LJ h2
  have h7:=(hu.w x hx).2
  have hR:=YM d.act d.item x.words d.it.old d.it.new d.it.nth_ (by omega) (by omega) (by omega) h5 (by omega)
  exact⟨_,Te u x _ d _ _ hR (OP (bz x) _ u (bR hu.n (by decide)) (wM hu)),J1 hu ⟨CB hu _ (bR (UJ ..) (by decide)),KG hp⟩⟩
theorem YT{u x:TUnit}(hu:OkB u)(hp:iQ (bz x) u=true)(d:PDeed)(hg:Ab d.it)(hk:d.it.kind=4):∃r:pG,kP 132 [eU u,eU x,aU d] (eA r)∧Bk u d r.1:=by
  have h4:=tu (hg.2.2.2 (.inr (.inr hk)))
  have hM:=yz d.it.new d.act d.item 0 (by omega) (by decide)
  exact⟨_,Ud u x _ d _ hM (O0 (bz x) _ u (bR hu.n (by decide)) (wM hu)),QZ hu _ (by rw[fS];omega),KG hp⟩
theorem VE{u:TUnit}(hu:OkB u)(p:PId):(ej p u).kids.length<2^40:=by
  have hn:=hu.n
  cases h:cV p u with
  |true=>have:=dL (vt h).1;have:=bf (ej p u);omega
  |false=>unfold ej;rw[h];exact nJ (bH 0) (by decide)
theorem Yd{u x:TUnit}(hu:OkB u)(hp:iQ (bz x) u=true)(d:PDeed):∃r:pG,kP 133 [eU u,eU x,aU d] (eA r)∧Bk u d r.1:=by
  refine⟨_,Ty u x _ _ d _ _ _ _ _ (j7 hu (bz x)) (v9 hu _) (yM _ _ (VE hu _)) (OO (bz x) d u (bR hu.n (by decide)) (wM hu)),?_⟩
  unfold Ta
  cases al (yN (ej (su (bz x) u) u) (o9 d.it.label x)) 10
  · exact⟨Ng hu _ _,KG hp⟩
  · exact .refl hu
theorem TG{u u2:TUnit}{d:PDeed}{te:Int}{full:Bool}(h:OkB u)(h2:Bk u d u2):Bk u d (Qk u te full u2).1:=by
  have h:=Bk.refl h (d:=d)
  unfold Qk;cases al te 0<;>cases full<;>first|exact h|exact h2
theorem Y6{e2 e3:Int}{sp:PSpot}(h:(Hf 0 e2 sp e3).2=0):e2=0∧e3=0∧(Hf 0 e2 sp e3).1=sp:=by
  unfold Hf at h ⊢
  rw[show al 0 0=true from rfl]at h ⊢
  simp only[cond_true]at h ⊢
  cases h1:al e2 0 with
  |false=>rw[h1]at h;rw[show e2=0 from h]at h1;cases h1
  | true=>
    rw[h1]at h
    cases h2:al e3 0 with
    |false=>rw[h2]at h;rw[show e3=0 from h]at h2;cases h2
    |true=>exact⟨kV h1,kV h2,rfl⟩
/-- A move has an outcome. -/
theorem YB{u x:TUnit}(hu:OkB u)(hx:x∈bp u)(d:PDeed)(hd:yV d.it)(hg:Ab d.it)(hk:d.it.kind=6)(h0:(aG u d.it.at_).2=0)(hid:(aG u d.it.at_).1=bz x)(hp:iQ (bz x) u=true):∃r:pG,kP 134 [eU u,eU x,aU d] (eA r)∧Bk u d r.1:=by
  have hw:=hg.1 (.inr hk)
  have hF:=wI hu d.it.at_ hd.2.1
  rw[h0,hid]at hF
  obtain⟨bs,hG⟩:=XQ hu (bz x) (aG u d.it.to).1 d.it.where_ hw
  obtain⟨q,i,h1,h2,h3,h4,h5,h6⟩:=Vu hu hp
  have hD:=Ru u d.it _ _ _ _ _ _ (by rw[hk];rfl) (by rw[hk];rfl) hw hF (wI hu d.it.to hd.2.2.1) hG
  rw[h2,h3,hp]at hD
  cases he:al (Hf 0 (aG u d.it.to).2 (nI (bz x) (aG u d.it.to).1 (bz q) (Int.ofNat i) true ((pF (aG u d.it.to).1 u).any (bg (bz x))) bs (dz d.it.where_ u (aG u d.it.to).1).1 (dz d.it.where_ u (aG u d.it.to).1).2).1 (nI (bz x) (aG u d.it.to).1 (bz q) (Int.ofNat i) true ((pF (aG u d.it.to).1 u).any (bg (bz x))) bs (dz d.it.where_ u (aG u d.it.to).1).1 (dz d.it.where_ u (aG u d.it.to).1).2).2).2 0 with
  |false=>exact⟨(u,_),TH u x d _ _ _ he hD,.refl hu⟩
  | true=>
    have e0:=kV he
    obtain⟨e1,e2,e3⟩:=Y6 e0
    obtain⟨n,n1,n2,n3⟩:=Q2 hu h1 h4 (qC e1) e2
    rw[e0,e3,n1]at hD
    obtain⟨hr,hpm⟩:=hu.del h1 h4
    have hkx:gD q.kids i=x:=hu.uni (iL h1 (bA (fI h4) (dK _))) hx h5
    rw[hkx]at hpm
    have hnr:=hr.n
    have hnx:=dL hx
    have hn:=hu.n
    refine⟨_,TE u x _ _ _ d _ _ n _ _ _ _ _ hD (j7 hu (bz x)) h6 (v9 hr _) (yM _ x (VE hr _)) (LM _ x _ (by omega) (by omega)) (OR _ n x _ (by omega) (wM hr) n3),TG hu ?_⟩
    have hnd:=List.nodup_append.1 (hpm.nodup_iff.1 hu.nd)
    have hlen:=hpm.length_eq
    rw[lA,←lG,←lG,←lG]at hlen
    exact⟨hr.ins hnd.2.1 (fun p hp hq=>hnd.2.2 p hq p hp rfl) (by omega) (fun y hy=>hu.w y (iL hx hy)),(KH (f:=dr _ _) (fun _=>rfl) _).trans (KH (f:=gm i) (fun _=>rfl) u)⟩
/-- An item's doer. -/
theorem aak{u x:TUnit}(hu:OkB u)(hx:x∈bp u)(d:PDeed)(hd:yV d.it)(hg:Ab d.it)(hk0:0≤d.it.kind)(hk6:d.it.kind≤6)(h0:(aG u d.it.at_).2=0)(hid:(aG u d.it.at_).1=bz x)(hp:iQ (bz x) u=true):∃r:pG,kP (VR d.it.kind) [eU u,eU x,aU d] (eA r)∧Bk u d r.1:=by
  have hk:d.it.kind=0∨d.it.kind=1∨d.it.kind=2∨d.it.kind=3∨d.it.kind=4∨d.it.kind=5∨d.it.kind=6:=by omega
  rcases hk with h|h|h|h|h|h|h<;>rw[h]
  · exact VM hu x d hd hg h
  · exact Yb hu d hp
  · exact X5 hu hx hp d hg h
  · exact Yf hu hx hp d hg h
  · exact YT hu hp d hg h
  · exact Yd hu hp d
  · exact YB hu hx d hd hg h h0 hid hp
/-- An amendment has one outcome. -/
theorem VV {u:TUnit}(hu:OkB u)(d:PDeed)(hd:yV d.it)(hk0:0≤d.it.kind)(hk6:d.it.kind≤6):∃r:pG,kP 74 [eU u,aU d] (eA r)∧Bk u d r.1:=by
  obtain⟨b,hV,hg⟩:=V7 d.it hd hk0 hk6
  have hl:=WB d hk0 hk6
  cases b with
  |false=>exact⟨_,VY u d _ hl hV,.refl hu⟩
  | true=>
    have hg:=hg rfl
    have hF:=wI hu d.it.at_ hd.2.1
    cases he:al (aG u d.it.at_).2 0 with
    |false=>exact⟨_,Vq u d _ _ _ hl hV he hF,.refl hu⟩
    | true=>
      have e0:=kV he
      have hh:=qC e0
      obtain⟨hx,hxi⟩:=vt hh
      rw[e0]at hF
      have hX:=v9 hu (aG u d.it.at_).1
      cases hi:(al (aG u d.it.at_).1.a u.act&&(al (aG u d.it.at_).1.i u.item&&al (aG u d.it.at_).1.n u.n))with
      | true=>
        cases hk:al d.it.kind 0 with
        | true=>
          have hk:=kV hk
          obtain⟨r,h1,h2⟩:=VM hu (ej (aG u d.it.at_).1 u) d hd hg hk
          exact⟨r,Sw u _ d _ _ _ r hl hV hF hX hi (by rw[hk];rfl) (by rw[hk];exact h1),h2⟩
        |false=>exact⟨_,VU u _ d _ _ _ _ _ hl hV hF hX hi hk (wI hu d.it.to hd.2.2.1),.refl hu⟩
      | false=>
        have hni:fG (aG u d.it.at_).1 u=false:=by
          cases q:fG (aG u d.it.at_).1 u with
          |false=>rfl
          | true=>
            have:=(gg _ u).1 q
            rw[←this]at hi
            have e:(al (bz u).a u.act&&(al (bz u).i u.item&&al (bz u).n u.n))=true:=by
              show(al u.act u.act&&(al u.item u.item&&al u.n u.n))=true
              rw[bw,bw,bw];rfl
            rw[e]at hi;cases hi
        obtain⟨r,h1,h2⟩:=aak hu hx d hd hg hk0 hk6 e0 hxi.symm (by rw[hxi];exact Uf hh hni)
        exact⟨r,Vz u _ d _ _ _ r hl hV hF hX hi h1,h2⟩
theorem Sg{k:Int}(h:qO k=true):0≤k∧k≤6:=by
  unfold qO at h;rw[bx]at h;exact⟨ge h.1,ge h.2⟩
/-- What an amendment makes of a book: the one outcome there is. -/
structure AppOk(u:TUnit)(d:PDeed):Prop where
  b:OkB u
  i:yV d.it
  a:qO d.it.kind=true
theorem Sj{u:TUnit}{d:PDeed}(h:AppOk u d):∃r:pG,kP 74 [eU u,aU d] (eA r)∧Bk u d r.1:=VV h.b d h.i (Sg h.a).1 (Sg h.a).2
open Classical in
noncomputable def jp(u:TUnit)(d:PDeed):pG:=if h:AppOk u d then(Sj h).choose else(u,0)
theorem MZ{u:TUnit}{d:PDeed}(h:AppOk u d):kP 74 [eU u,aU d] (.tuple [eU (jp u d).1,iV (jp u d).2])∧Bk u d (jp u d).1:=by
  unfold jp;rw[dif_pos h];exact(Sj h).choose_spec
theorem rA{u:TUnit}{d:PDeed}(h:AppOk u d):kP 74 [eU u,aU d] (.tuple [eU (jp u d).1,iV (jp u d).2])∧OkB (jp u d).1:=⟨(MZ h).1,(MZ h).2.1⟩
theorem V2(u:TUnit)(d:PDeed)(h1:OkB u)(h2:yV d.it)(h3:qO d.it.kind=true):kP 74 [eU u,aU d] (.tuple [eU (jp u d).1,iV (jp u d).2]):=(rA ⟨h1,h2,h3⟩).1
noncomputable def ta(u:TUnit)(d:PDeed):TUnit:=bif qO d.it.kind then(jp u d).1 else u
noncomputable def CM(u:TUnit)(d:PDeed):List PFail:=bif qO d.it.kind then(bif al (jp u d).2 0 then[]else[⟨d.act,d.item,(jp u d).2⟩])else[]
theorem Pk{u:TUnit}{d:PDeed}(h1:OkB u)(h2:yV d.it):OkB (ta u d):=by
  unfold ta
  cases h:qO d.it.kind with
  |false=>exact h1
  |true=>exact(rA ⟨h1,h2,h⟩).2
noncomputable def dj:TUnit→List PDeed→TUnit
  |u,[]=>u
  |u,d::r=>dj (ta u d) r
noncomputable def fk:TUnit→List PDeed→List PFail
  |_,[]=>[]
  |u,d::r=>CM u d++fk (ta u d) r
theorem HM:∀{l:List PDeed}{u:TUnit},OkB u→(∀d,d∈l→yV d.it)→OkB (dj u l)
  |[],_,h,_=>h
  |d::r,u,h,hl=>HM (l:=r) (u:=ta u d) (Pk h (hl d (eT ..))) fun x hx=>hl x (e9 _ hx)
theorem DZ:∀(l:List PDeed)(u:TUnit),(fk u l).length≤l.length
  |[],_=>ar _
  | d::r,u=>by
    have:=DZ r (ta u d)
    have h:(CM u d).length≤1:=by
      unfold CM
      cases qO d.it.kind<;>cases al (jp u d).2 0<;>simp
    rw[fk,lA,lC];omega
theorem YZ{u:TUnit}{d:PDeed}{r:List PDeed}(h:qO d.it.kind=false):dj u (d::r)=dj u r∧fk u (d::r)=fk u r:=by
  rw[dj,fk,ta,CM,h];exact⟨rfl,rfl⟩
theorem S6{u:TUnit}{d:PDeed}{r:List PDeed}(h:qO d.it.kind=true)(h2:al (jp u d).2 0=true):dj u (d::r)=dj (jp u d).1 r∧fk u (d::r)=fk (jp u d).1 r:=by
  rw[dj,fk,ta,CM,h,h2];exact⟨rfl,rfl⟩
theorem S5{u:TUnit}{d:PDeed}{r:List PDeed}(h:qO d.it.kind=true)(h2:al (jp u d).2 0=false):dj u (d::r)=dj (jp u d).1 r∧fk u (d::r)=⟨d.act,d.item,(jp u d).2⟩::fk (jp u d).1 r:=by
  rw[dj,fk,ta,CM,h,h2];exact⟨rfl,rfl⟩
mutual
theorem Kz:∀(u:TUnit)(deep most:Int),mh u deep most≤most→Int.ofNat (nU u)≤mh u deep most
  | ⟨_,_,_,_,_,_,_,kids⟩,deep,most,h=>by
    rw[mh]at h ⊢
    cases hd:au 20 deep with
    |true=>rw[hd]at h;simp only at h;omega
    | false=>
      rw[hd]at h
      have:=Kk kids deep most 1 h
      rw[nU]
      simp only[oN]at *
      omega
theorem Kk:∀(l:List TUnit)(deep most n:Int),ml l deep most n≤most→n+Int.ofNat (eQ l)≤ml l deep most n
  |[],_,_,n,_=>by rw[ml,eQ];exact Int.le_of_eq (Int.add_zero n)
  | k::r,deep,most,n,h=>by
    rw[ml]at h ⊢
    cases hd:au most n with
    |true=>rw[hd]at h;have:=an hd;simp only at h;omega
    | false=>
      rw[hd]at h
      have h2:=Kk r deep most _ h
      have h1:=Kz k (deep+1) (most-n) (by simp only[oN]at *;omega)
      rw[eQ]
      simp only[oN]at *
      omega
end
theorem FB{l:List PWord}(h:mn l=true):l.length≤300∧∀w,w∈l→w.text.length≤100:=by
  unfold mn at h
  obtain⟨h1,h2⟩:=pN.1 h
  refine⟨by have:=ge h2;simp only[oN]at this;omega,fun w hw=>?_⟩
  have:=ge (nK.1 h1 w hw)
  simp only[oN]at this;omega
theorem IY:∀(u:TUnit),kn u=true→∀x,x∈bp u→r9 x:=by
  refine TUnit.ind fun u ih h x hx=>?_
  rw[Cz]at h
  simp only[bx]at h
  obtain⟨⟨⟨h0,h1⟩,h2⟩,h3⟩:=h
  rw[dq]at hx
  rcases fw.1 hx with rfl|hx
  · have h0:=ge h0
    simp only[oN]at h0
    have q1:=FB h1
    have q2:=FB h2
    exact⟨q1.1,q2.1,by omega,fun w hw=>bR (q1.2 w hw) (by decide),fun w hw=>bR (q2.2 w hw) (by decide)⟩
  · obtain⟨k,hk,hx⟩:=mj hx
    exact ih k hk (nK.1 h3 k hk) x hx
theorem Xz{u:TUnit}{n:Nat}(h:HJ u (.ofNat n)=true):nU u≤n∧∀x,x∈bp u→r9 x:=by
  unfold HJ at h
  obtain⟨h1,h2⟩:=pN.1 h
  refine⟨?_,IY u h2⟩
  have h3:=ge h1
  have:=Kz u 0 (.ofNat n) h3
  simp only[oN]at *
  omega
theorem QQ{x:PItem}(hf:nZ x)(h:mL x=true):yV x:=by
  rw[Ei]at h
  unfold yy at h
  simp only[bx]at h
  obtain⟨⟨⟨⟨⟨⟨⟨⟨⟨⟨a1,a2⟩,a3⟩,a4⟩,a5⟩,a6⟩,a7⟩,a8⟩,a9⟩,a10⟩,b1,b2,b3,b4,b5⟩:=h
  have a1:=ge a1
  have a2:=ge a2
  have a3:=ge a3
  have a4:=ge a4
  have a5:=ge a5
  have a6:=ge a6
  have a7:=ge a7
  simp only[oN]at a1 a2 a3 a4 a5 a6 a7
  have hs:∀{l:List aO},l.all xt=true→∀s,s∈l→s.length≤2^39:=fun h s hs=>by
    have:=ge (nK.1 h s hs);simp only[oN]at this;omega
  have ht:∀{l:List PStep},l.all xr=true→∀s,s∈l→s.label.length≤2^39:=fun h s hs=>by
    have:=ge (nK.1 h s hs);simp only[oN]at this;omega
  have hu:=Xz (n:=30) a10
  exact⟨hf,⟨by omega,ht b3⟩,⟨by omega,ht b4⟩,⟨by omega,hs b1⟩,⟨by omega,hs b2⟩,by omega,by omega,by omega,bR hu.1 (by decide),hu.2⟩
theorem Tu:∀(u:TUnit),nU u≤1024→(∀x,x∈bp u→x.head.length≤300∧x.words.length≤300)→pW u:=by
  refine TUnit.ind fun u ih hn hw=>?_
  have:=bf u
  obtain⟨h1,h2⟩:=hw u (dK u)
  exact lU.2 ⟨by omega,by omega,by omega,fun k hk=>ih k hk (by have:=iz hk;omega) fun x hx=>hw x (bA hk hx)⟩
theorem uZ{u:TUnit}(h:OkB u):pW u:=Tu u h.n h.w
theorem Jv{u v:TUnit}{l r:List PDeed}{xs:List PFail}(h:fk u l=xs++fk v r):xs.length≤l.length:=by
  grind[DZ]
theorem Sb(u:TUnit)(l:List PDeed)(hu:OkB u)(hl:l.length<2^30)(ho:∀d,d∈l→yV d.it):kP 59 [eU u,.ls (l.map aU)] (.tuple [eU (dj u l),.ls ((fk u l).map ic)]):=by
  have rr0 b' (h:((dj u l).act)=b':=by first|(rw[hj0.2.1];rfl)|(rw[hj0.2.2];rfl)|(rw[hj0.2.2.1];rfl)|(rw[hj0.2.2.2];simp only[fk,dG])|exact aX gK _):=h;have rr1 b' (h:((dj u l).item)=b':=by first|(rw[hj0.2.1];rfl)|(rw[hj0.2.2];rfl)|(rw[hj0.2.2.1];rfl)|(rw[hj0.2.2.2];simp only[fk,dG])|exact aX gK _):=h;have rr2 b' (h:((dj u l).n)=b':=by first|(rw[hj0.2.1];rfl)|(rw[hj0.2.2];rfl)|(rw[hj0.2.2.1];rfl)|(rw[hj0.2.2.2];simp only[fk,dG])|exact aX gK _):=h;have rr3 b' (h:((dj u l).kind)=b':=by first|(rw[hj0.2.1];rfl)|(rw[hj0.2.2];rfl)|(rw[hj0.2.2.1];rfl)|(rw[hj0.2.2.2];simp only[fk,dG])|exact aX gK _):=h;have rr4 b' (h:((dj u l).label)=b':=by first|(rw[hj0.2.1];rfl)|(rw[hj0.2.2];rfl)|(rw[hj0.2.2.1];rfl)|(rw[hj0.2.2.2];simp only[fk,dG])|exact aX gK _):=h;have rr5 b' (h:(List.map aQ (dj u l).head)=b':=by first|(rw[hj0.2.1];rfl)|(rw[hj0.2.2];rfl)|(rw[hj0.2.2.1];rfl)|(rw[hj0.2.2.2];simp only[fk,dG])|exact aX gK _):=h;have rr6 b' (h:(List.map aQ (dj u l).words)=b':=by first|(rw[hj0.2.1];rfl)|(rw[hj0.2.2];rfl)|(rw[hj0.2.2.1];rfl)|(rw[hj0.2.2.2];simp only[fk,dG])|exact aX gK _):=h;have rr7 b' (h:(List.map aV (dj u l).kids)=b':=by first|(rw[hj0.2.1];rfl)|(rw[hj0.2.2];rfl)|(rw[hj0.2.2.1];rfl)|(rw[hj0.2.2.2];simp only[fk,dG])|exact aX gK _):=h;have rr8 b' (h:((fk u l).map ic)=b':=by first|(rw[hj0.2.1];rfl)|(rw[hj0.2.2];rfl)|(rw[hj0.2.2.1];rfl)|(rw[hj0.2.2.2];simp only[fk,dG])|exact aX gK _):=h;exact bC Tryz.func59<|Kl 2 5 bI<|Kl 2 12 (ln aU l)<|Mg 0<|Zi TUnit Nat Nat (List PFail) aU l u [2,4,6,11,12,13] (fun a _ b=>([bY 0 0 0 0,bY 1 0 0 0,af,aW<|l.map aU,nV l.length,nV a],[aZ 8 false 0 [az [iV b.act,iV b.item,iV b.n,iV b.kind,aK b.label,aW<|b.head.map aQ,aW<|b.words.map aQ,aW<|b.kids.map aV]],aZ 8 false 0 [az [iV 0,iV 0,iV 0,iV 0,aK [],af,af,af]]])) (fun a _ b c e f=>([bY 0 0 0 0,bY 1 0 0 0,aI 2 c 0 e none,aW<|l.map aU,nV l.length,nV a],[aZ 8 false 0 [az [iV b.act,iV b.item,iV b.n,iV b.kind,aK b.label,aW<|b.head.map aQ,aW<|b.words.map aQ,aW<|b.kids.map aV]],aZ 8 false 0 [az [iV 0,iV 0,iV 0,iV 0,aK [],af,af,af]],aZ 3 true c<|f.map ic])) (fun a b=>OkB b∧dj u l=dj b a∧fk u l=fk b a) (fun a b _ c e=>OkB b∧c=e.length∧dj u l=dj b a∧fk u l=e++fk b a) sA (fun _ _ a _ _ _ b hj0=>Kh 0 b<|Kl 3 5 bI<|Mf<|eD<|.cons (aT (.cons (li<|rr0 a.act)<|.cons (li<|rr1 a.item)<|.cons (li<|rr2 a.n)<|.cons (li<|rr3 a.kind)<|.cons (Le.str<|rr4 a.label)<|.cons (b6<|rr5<|a.head.map aQ)<|.cons (b6<|rr6<|a.words.map aQ)<|.cons (b6<|rr7<|a.kids.map aV) .nil)<|by kernel_rfl)<|.cons (b6<|rr8 []) .nil) (fun a _ b c _ e f g i j k _ n hj0=>have c:=ho _<|bQ c j;Kt 0 k<|Mx n<|Kp 5 (JG e.it.kind)<|Kn 0 (qO e.it.kind) (fun _=>Kl 0 40 (dW a)<|K1 0 (.frz 2 [2,4,6,11,12,13]) (cj rt rt ti)<|Mf<|g b<|by grind[YZ]) fun j=>Kp 1 (V2 b e sA c j)<|Kc 7 (jp b e).2 0 (fun _ _=>Kl 12 40 (dW a)<|Mg 0<|M0 (.ren [0,1,4,2,3] [] [2,4,6,11,12,13])<|M1 (.frz 3 [2,4,6,11,12,13]) (jQ rt rt rt ti)<|Mf<|i (jp b e).1 0 1 [PFail.mk e.act e.item (jp b e).2]<|by exact⟨(rA ⟨hj0.1,c,by omega⟩).2,rfl,hj0.2.1.trans (S5 (by omega) (by omega)).1,hj0.2.2.trans (S5 (by omega) (by omega)).2⟩) fun _ _=>Kl 2 40 (dW a)<|K1 0 (.frz 2 [2,4,6,11,12,13]) (cj rt rt ti)<|Mf<|g (jp b e).1<|by exact⟨(rA ⟨hj0.1,c,by omega⟩).2,hj0.2.1.trans (S6 (by omega) (by omega)).1,hj0.2.2.trans (S6 (by omega) (by omega)).2⟩) (fun _ _ a b c e _ _ _ f hj0=>Kh 0 f<|Mg 3<|M2 (.fsl 2 [4] 5<|e.map ic) (cj rt rt ti) (cj (aq b) (tA ic e c (oA:(e).length=c))<|aX gK e)<|Ml 5 (eS (e.map ic) false<|aX gK e)<|Mf<|eD<|.cons (aT (.cons (li<|rr0 a.act)<|.cons (li<|rr1 a.item)<|.cons (li<|rr2 a.n)<|.cons (li<|rr3 a.kind)<|.cons (Le.str<|rr4 a.label)<|.cons (b6<|rr5<|a.head.map aQ)<|.cons (b6<|rr6<|a.words.map aQ)<|.cons (b6<|rr7<|a.kids.map aV) .nil)<|by kernel_rfl)<|.cons (b6<|rr8<|e.map ic) .nil) fun a _ b c e f g _ i j _ k n o _ p hj0=>have g:=ho _<|bQ g n;Kt 0 o<|Mx p<|Kp 5 (JG i.it.kind)<|Kn 0 (qO i.it.kind) (fun _=>Kl 0 40 (dW a)<|K1 0 (.frz 3 [2,4,6,11,12,13]) (jQ (tR 3 true c 3<|aX gK f) rt rt ti)<|Mf<|k b c e f<|by grind[YZ]) fun n=>Kp 1 (V2 b i sA g n)<|Kc 7 (jp b i).2 0 (fun _ _=>K1 7 .app (cj (aq c) (sA:e=(f.map ic).length) (by(have z:=Jv hj0.2.2.2;have z2:=hj0.2.1;refine aN (m:=2^31) ?_ ?_ ?_<;>omega):small (e+1) 24=true))<|M1 (.obj 2<|aZ 3 true (c+1)<|(f++[PFail.mk i.act i.item (jp b i).2]).map ic) (congrArg (aZ 3 true<|c+1)<|cM (f:=ic) (l:=f) (ws:=[PFail.mk i.act i.item (jp b i).2]))<|Kl 3 40 (dW a)<|K1 0 (.frz 3 [2,4,6,11,12,13]) (jQ (tR 3 true (c+1) 3<|aX gK<|f++[PFail.mk i.act i.item (jp b i).2]) rt rt ti)<|Mf<|k (jp b i).1 (c+1) (e+1) (f++[PFail.mk i.act i.item (jp b i).2])<|by exact⟨(rA ⟨hj0.1,g,by omega⟩).2,by simp_all,hj0.2.2.1.trans (S5 (by omega) (by omega)).1,hj0.2.2.2.trans (by grind[S5])⟩) fun _ _=>Kl 2 40 (dW a)<|K1 0 (.frz 3 [2,4,6,11,12,13]) (jQ (tR 3 true c 3<|aX gK f) rt rt ti)<|Mf<|k (jp b i).1 c e f<|by exact⟨(rA ⟨hj0.1,g,by omega⟩).2,hj0.2.1,hj0.2.2.1.trans (S6 (by omega) (by omega)).1,hj0.2.2.2.trans (by grind[S6])⟩
end Go.Proofs.YtaepacpodblomaaGreatDoor
