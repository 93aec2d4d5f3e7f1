/- Functions walked: what each of them answers, for The book is constant between change days and differs on each change day from the day before: part 5. Conditions: those that each theorem names. -/
import Derived.Test.YtaepacpodblomaaGreatDoorH4
namespace Go.Proofs.YtaepacpodblomaaGreatDoor
open Go Go.Ev
noncomputable abbrev B6(l:List PWord):AObj:=.row 4 true 0 (l.map aQ)
noncomputable def FU:TypeInfo:=(Tryz.prog.info? 102).getD default
theorem FY:Tryz.prog.info? 102=some FU:=by kernel_rfl
theorem yn:FU.size=4:=by kernel_rfl
theorem wb:FU.bytes=40:=by kernel_rfl
theorem VC(l:List PWord):dB 4 (l.map aQ)=true:=gg (fun w=>by cases w;rfl) l
/-- A copy of words: a row of its own. -/
theorem cl4(ws:List PWord)(hl:ws.length≤2^20)(a b c d:AObj):kD 110 [.ls (ws.map aQ)] (av [a,b,c,d]) (.sl0 4 0 ws.length none) (av [a,b,c,d,B6 ws]):=by
  by_cases hne:ws=[]
  · subst hne
    have hE:(av [a,b,c,d]).push (B6 [])=av [a,b,c,d,B6 []]:=by kernel_rfl
    have h:=aL.psh (o:=B6 []) (u:=.sl0 4 0 0 none) (ri [] (by omega) (av [a,b,c,d])) EI
    simp_all
  have hn:ws.map aQ≠[]:=fun h=>hne (List.map_eq_nil_iff.1 h)
  have hf:=VC ws
  have hsm:small (ws.map aQ).length 40=true:=by grind[aO]
  have hlen:ws.length=(ws.map aQ).length:=(cJ ..).symm
  unfold B6
  rw[hlen]
  generalize ws.map aQ=L at hn hf hsm
  refine(aL.less (Ψ:=fun v h=>v=.slice 4 0 0 L.length none∧h=av [a,b,c,d,.row 4 true 0 L]) ?_ fun v h ⟨h1,h2⟩=>⟨_,h1▸Le.sl0,rfl,h2⟩)
  refine aL.enter 2 (fn:=Tryz.f110) Tryz.func110 (by kernel_rfl) rfl ⟨by kernel_rfl,by kernel_rfl⟩ ?_
  refine aA.seq (aA.mono (EQ qc jU (ev 40) (s':=⟨eZ 8 [(0,.ls L),(2,.nils)],av [a,b,c,d]⟩) (.go 0 .fin) (by kernel_rfl)) ?_)
  rintro _ _ ⟨rfl,rfl⟩
  refine aA.seq (aA.seq (aA.mono (xS jU (ev 40) (Ψ:=fun s=>s=⟨eZ 8 [(0,.ls L),(2,.nils),(3,.ps L false),(4,.bool false)],av [a,b,c,d]⟩) (.go 0 (.nz 3 .abs (.go 0 .fin)))
    (W:=(L=[]→False)∧(⟨eZ 8 [(0,.ls L),(2,.nils),(3,.ps L false),(4,.bool false)],av [a,b,c,d]⟩:St)=⟨eZ 8 [(0,.ls L),(2,.nils),(3,.ps L false),(4,.bool false)],av [a,b,c,d]⟩) ⟨hn,rfl⟩ (by kernel_rfl)) ?_))
  rintro _ _ ⟨rfl,rfl⟩
  refine aA.cond (t:=false) (by kernel_rfl) (fun h=>by grind) fun _=>aA.skip ?_
  refine aA.seq (aA.region ?_)
  show cb _ _ _ _ [_,_,_,_] _ _
  refine cb.one (s':=⟨eZ 8 [(0,.ls L),(2,.nils),(3,.ps L false),(4,.bool false),(5,.ps [] true)],av [a,b,c,d]⟩) (ev 40) (by kernel_rfl) ?_
  refine cb.one (s':=⟨eZ 8 [(0,.ls L),(2,.nils),(3,.ps L false),(4,.bool false),(5,.ps [] true),(6,.ls L)],av [a,b,c,d]⟩) (ev 40) (by kernel_rfl) ?_
  refine rD (I:=fun k:Nat=>k=0) (r:=fun _=>.slice 4 0 0 L.length none) (H:=fun _=>av [a,b,c,d,.row 4 true 0 L]) (by kernel_rfl)
    (fun pl M a w g1 g2 g3=>xg (z:=aQ ⟨[],0,0,0⟩) (z0:=aQ ⟨[],0,0,0⟩) (xs:=L) (t:=35) (tx:=35) (e:=102) (i:=FU) yn wb (by kernel_rfl) ⟨102,by kernel_rfl⟩ FY (by kernel_rfl) (Le.refl _) (by kernel_rfl) (by kernel_rfl) hn hf (by kernel_rfl) hsm (by omega) pl M a w g1 g2 g3) fun k _=>?_
  refine⟨eZ 8 [(0,.ls L),(2,.nils),(3,.ps L false),(4,.bool false),(5,.ps [] true),(6,.ls L),(7,.slice 4 0 0 L.length none)],by kernel_rfl,?_⟩
  refine cb.one (s':=⟨eZ 8 [(0,.ls L),(2,.slice 4 0 0 L.length none),(3,.ps L false),(4,.bool false),(5,.ps [] true),(6,.ls L),(7,.slice 4 0 0 L.length none)],av [a,b,c,d,.row 4 true 0 L]⟩) (ev 40) (by kernel_rfl) (cb.nil (aA.ret ⟨fun id h=>(by grind),.slice 4 0 0 L.length none,by kernel_rfl,by kernel_rfl,by kernel_rfl⟩))
theorem cl5(ws:List PWord)(hl:ws.length≤2^20)(a b c d e:AObj):kD 110 [.ls (ws.map aQ)] (av [a,b,c,d,e]) (.sl0 5 0 ws.length none) (av [a,b,c,d,e,B6 ws]):=by
  by_cases hne:ws=[]
  · subst hne
    have hE:(av [a,b,c,d,e]).push (B6 [])=av [a,b,c,d,e,B6 []]:=by kernel_rfl
    have h:=aL.psh (o:=B6 []) (u:=.sl0 5 0 0 none) (ri [] (by omega) (av [a,b,c,d,e])) EI
    simp_all
  have hn:ws.map aQ≠[]:=fun h=>hne (List.map_eq_nil_iff.1 h)
  have hf:=VC ws
  have hsm:small (ws.map aQ).length 40=true:=by grind[aO]
  have hlen:ws.length=(ws.map aQ).length:=(cJ ..).symm
  unfold B6
  rw[hlen]
  generalize ws.map aQ=L at hn hf hsm
  refine(aL.less (Ψ:=fun v h=>v=.slice 5 0 0 L.length none∧h=av [a,b,c,d,e,.row 4 true 0 L]) ?_ fun v h ⟨h1,h2⟩=>⟨_,h1▸Le.sl0,rfl,h2⟩)
  refine aL.enter 2 (fn:=Tryz.f110) Tryz.func110 (by kernel_rfl) rfl ⟨by kernel_rfl,by kernel_rfl⟩ ?_
  refine aA.seq (aA.mono (EQ qc jU (ev 40) (s':=⟨eZ 8 [(0,.ls L),(2,.nils)],av [a,b,c,d,e]⟩) (.go 0 .fin) (by kernel_rfl)) ?_)
  rintro _ _ ⟨rfl,rfl⟩
  refine aA.seq (aA.seq (aA.mono (xS jU (ev 40) (Ψ:=fun s=>s=⟨eZ 8 [(0,.ls L),(2,.nils),(3,.ps L false),(4,.bool false)],av [a,b,c,d,e]⟩) (.go 0 (.nz 3 .abs (.go 0 .fin)))
    (W:=(L=[]→False)∧(⟨eZ 8 [(0,.ls L),(2,.nils),(3,.ps L false),(4,.bool false)],av [a,b,c,d,e]⟩:St)=⟨eZ 8 [(0,.ls L),(2,.nils),(3,.ps L false),(4,.bool false)],av [a,b,c,d,e]⟩) ⟨hn,rfl⟩ (by kernel_rfl)) ?_))
  rintro _ _ ⟨rfl,rfl⟩
  refine aA.cond (t:=false) (by kernel_rfl) (fun h=>by grind) fun _=>aA.skip ?_
  refine aA.seq (aA.region ?_)
  show cb _ _ _ _ [_,_,_,_] _ _
  refine cb.one (s':=⟨eZ 8 [(0,.ls L),(2,.nils),(3,.ps L false),(4,.bool false),(5,.ps [] true)],av [a,b,c,d,e]⟩) (ev 40) (by kernel_rfl) ?_
  refine cb.one (s':=⟨eZ 8 [(0,.ls L),(2,.nils),(3,.ps L false),(4,.bool false),(5,.ps [] true),(6,.ls L)],av [a,b,c,d,e]⟩) (ev 40) (by kernel_rfl) ?_
  refine rD (I:=fun k:Nat=>k=0) (r:=fun _=>.slice 5 0 0 L.length none) (H:=fun _=>av [a,b,c,d,e,.row 4 true 0 L]) (by kernel_rfl)
    (fun pl M a w g1 g2 g3=>xg (z:=aQ ⟨[],0,0,0⟩) (z0:=aQ ⟨[],0,0,0⟩) (xs:=L) (t:=35) (tx:=35) (e:=102) (i:=FU) yn wb (by kernel_rfl) ⟨102,by kernel_rfl⟩ FY (by kernel_rfl) (Le.refl _) (by kernel_rfl) (by kernel_rfl) hn hf (by kernel_rfl) hsm (by omega) pl M a w g1 g2 g3) fun k _=>?_
  refine⟨eZ 8 [(0,.ls L),(2,.nils),(3,.ps L false),(4,.bool false),(5,.ps [] true),(6,.ls L),(7,.slice 5 0 0 L.length none)],by kernel_rfl,?_⟩
  refine cb.one (s':=⟨eZ 8 [(0,.ls L),(2,.slice 5 0 0 L.length none),(3,.ps L false),(4,.bool false),(5,.ps [] true),(6,.ls L),(7,.slice 5 0 0 L.length none)],av [a,b,c,d,e,.row 4 true 0 L]⟩) (ev 40) (by kernel_rfl) (cb.nil (aA.ret ⟨fun id h=>(by grind),.slice 5 0 0 L.length none,by kernel_rfl,by kernel_rfl,by kernel_rfl⟩))
noncomputable abbrev Dn(u:TUnit)(k:AV):AV:=.agg [iV u.act,iV u.item,iV u.n,iV u.kind,.str u.label,.sl0 3 0 u.head.length none,.sl0 4 0 u.words.length none,k]
noncomputable abbrev U1(u:TUnit)(i j:Nat)(k:AV):AObj:=.row 8 false 0 [.agg [iV u.act,iV u.item,iV u.n,iV u.kind,.str u.label,.sl0 i 0 u.head.length none,.sl0 j 0 u.words.length none,k]]
theorem Y0(u:TUnit)(hk:0<u.kids.length)(hn:nU u≤2^20)(ht:∀x,x∈bp u→x.head.length≤2^20∧x.words.length≤2^20):kC 77 [eU u] (av [we u,wv])
    (fun v h=>∃y:Nat×Nat×List TUnit,(y.2.1=u.kids.length∧y.2.2=u.kids)∧v=Dn u (.slice 5 y.1 0 y.2.1 none)∧h=av [we u,wv,U1 u 3 4 (.slice 5 y.1 0 y.2.1 none),B6 u.head,B6 u.words,.row 8 true y.1 (y.2.2.map aK)]):=by
  have hkl:=bf u
  have c1:=(ht u (dq u)).1
  have c2:=(ht u (dq u)).2
  have ihk:∀k,k∈u.kids→kP 77 [eU k] (eU k):=fun k hk=>Hg k (bT (tW (iy hk)) hn) (fun x hx=>⟨nK (ht x (bA hk hx)).1 (by omega),nK (ht x (bA hk hx)).2 (by omega)⟩)
  let q1:=[ab [iV u.act,iV u.item,iV u.n,iV u.kind,ax u.label,aW (u.head.map aQ),aW (u.words.map aQ),aW (u.kids.map aK)]];let q2:=[ab [iV 0,iV 0,iV 0,iV 0,ax [],ah,ah,ah]];let q3:=aZ 8 false 0 q2;let q4:=aZ 8 false 0 q1;let q5:=List.map aQ u.head;let q6:=aZ 4 true 0 q5;exact qQ Tryz.func77 fun a=>Mg 3<|M3 (.efx true (AV.sl0 4 0 u.head.length none)<|av [aZ 8 false 0 q1,aZ 8 false 0 q2,aZ 8 false 0 q1,aZ 8 false 0 q2,aZ 4 true 0 q5]) (xV rt rt rt rt ti) (xV (aU<|some q3) (aU<|some q4) (aU<|some q3) (aU<|some q4) ti) (cl4 u.head c1 q4 q3 q4 q3)<|Mg 1<|M3 (.efx true (AV.sl0 5 0 u.words.length none)<|av [aZ 8 false 0 q1,aZ 8 false 0 q2,aZ 8 false 0 q1,aZ 8 false 0 q2,aZ 4 true 0 q5,aZ 4 true 0<|u.words.map aQ]) (vP (tR 4 true 0 5<|aX iD u.head) rt rt rt rt ti) (vP (aU<|some q6) (aU<|some q3) (aU<|some q4) (aU<|some q3) (aU<|some q4) ti) (cl5 u.words c2 q4 q3 q4 q3 q6)<|Kl 7 16 (ln aK u.kids)<|Mg 0<|ko Nat Nat (List TUnit) aK u.kids [1,2,3,15,16,17] (fun a _=>([bU 2 0 0 0,bU 3 0 0 0,ah,aW<|u.kids.map aK,nV u.kids.length,nV a],[aZ 8 false 0 [ab [iV u.act,iV u.item,iV u.n,iV u.kind,ax u.label,aW<|u.head.map aQ,aW<|u.words.map aQ,aW<|u.kids.map aK]],aZ 8 false 0 [ab [iV 0,iV 0,iV 0,iV 0,ax [],ah,ah,ah]],aZ 8 false 0 [ab [iV u.act,iV u.item,iV u.n,iV u.kind,ax u.label,AV.sl0 4 0 u.head.length none,AV.sl0 5 0 u.words.length none,aW<|u.kids.map aK]],aZ 8 false 0 [ab [iV 0,iV 0,iV 0,iV 0,ax [],ah,ah,ah]],aZ 4 true 0<|u.head.map aQ,aZ 4 true 0<|u.words.map aQ])) (fun a _ b c d=>([bU 2 0 0 0,bU 3 0 0 0,aN 6 b 0 c none,aW<|u.kids.map aK,nV u.kids.length,nV a],[aZ 8 false 0 [ab [iV u.act,iV u.item,iV u.n,iV u.kind,ax u.label,aW<|u.head.map aQ,aW<|u.words.map aQ,aW<|u.kids.map aK]],aZ 8 false 0 [ab [iV 0,iV 0,iV 0,iV 0,ax [],ah,ah,ah]],aZ 8 false 0 [ab [iV u.act,iV u.item,iV u.n,iV u.kind,ax u.label,AV.sl0 4 0 u.head.length none,AV.sl0 5 0 u.words.length none,aW<|u.kids.map aK]],aZ 8 false 0 [ab [iV 0,iV 0,iV 0,iV 0,ax [],ah,ah,ah]],aZ 4 true 0<|u.head.map aQ,aZ 4 true 0<|u.words.map aQ,aZ 8 true b<|d.map aK])) (fun a=>a=u.kids) (fun a _ b c=>b=c.length∧(0:Nat)<c.length∧c++a=u.kids∧c.length+a.length=u.kids.length) (by rfl) (fun _ _ _ _ _ a _=>Kh 0 a<|Mg 4<|Mw .abs (sA:False)) (fun a _ _ b c d _ e f g _ i _=>have i:=(i).trans<|congrArg some<|aR c;have b:=cw (J:=fun a _=>a=u.kids) (a:=()) f b;Kt 0 g<|Mx i<|Kp 4 (ihk c gR)<|K1 1 (.obj 7<|aZ 8 true 0<|List.map aK [c]) (congrArg (aZ 8 true 0)<|TO (f:=aK) (g:=Go.Ev.eU) (ws:=[c]) aR)<|Kl 1 26 (dK a)<|Mg 0<|Mw (.ren [0,1,2,3,4,5,7,6] [4,5,7] [1,2,3,15,16,17]<|.frz 7 [1,2,3,15,16,17] .fin)<|xV (tS 4 true 0<|aX iD u.head) (tS 4 true 0<|aX iD u.words) (tS 8 true 0<|aX iW [c]) (et8 (tR 8 true 0 7<|aX iW [c]) (tR 4 true 0 7<|aX iD u.words) (tR 4 true 0 7<|aX iD u.head) rt rt rt rt ti)<|e 0 1 [c]<|by(refine⟨rfl,by simp,?_,?_⟩<;>(rw[←b])<;>(first|rfl|grind))) (fun _ _ b c d _ _ _ e _=>Kh 0 e<|Mg 4<|Mw (.ren [0,1,3,4,5,6,2] [4,5,6] [2]<|.frz 6 [2] .fin)<|xV (tS 4 true 0<|aX iD u.head) (tS 4 true 0<|aX iD u.words) (tS 8 true b<|aX iW d) (E1 (tR 8 true b 6<|aX iW d) (tR 4 true 0 6<|aX iD u.words) (tR 4 true 0 6<|aX iD u.head) rt rt rt ti)<|a (b,c,d) sA) fun a _ b c d _ e f g _ i j l _ n _=>have n:=(n).trans<|congrArg some<|aR f;have e:=cw (J:=fun a b=>b.2.1=b.2.2.length∧(0:Nat)<b.2.2.length∧b.2.2++a=u.kids∧b.2.2.length+a.length=u.kids.length) (a:=(b,c,d)) j e;Kt 0 l<|Mx n<|Kp 4 (ihk f gR)<|K1 0 .app (cn (aU b) (sA:c=(d.map aK).length) (by(refine aO (m:=2^21) ?_ ?_ ?_<;>omega):small (c+1) 120=true))<|M1 (.obj 6<|aZ 8 true (b+1)<|(d++[f]).map aK) (congrArg (aZ 8 true<|b+1)<|yX (f:=aK) (g:=Go.Ev.eU) (l:=d) (ws:=[f]) aR)<|Kl 1 26 (dK a)<|K1 0 (.frz 7 [1,2,3,15,16,17]) (et8 (tR 8 true (b+1) 7<|aX iW<|d++[f]) (tR 4 true 0 7<|aX iD u.words) (tR 4 true 0 7<|aX iD u.head) rt rt rt rt ti)<|Mf<|i (b+1) (c+1) (d++[f])<|by(refine⟨by simp_all,by simp,?_,?_⟩<;>first|(rw[←e.2.2.1];simp;done)|grind)
theorem Y1(u:TUnit)(hk:u.kids=[])(ht:∀x,x∈bp u→x.head.length≤2^20∧x.words.length≤2^20):kD 77 [eU u] (av [we u,wv]) (Dn u .nils) (av [we u,wv,U1 u 3 4 .nils,B6 u.head,B6 u.words]):=by
  have c1:=(ht u (dq u)).1
  have c2:=(ht u (dq u)).2
  have hz:ao 0 (Int.ofNat u.kids.length)=false:=by rw[hk];rfl
  let q:=[ab [iV u.act,iV u.item,iV u.n,iV u.kind,ax u.label,aW (u.head.map aQ),aW (u.words.map aQ),aW (u.kids.map aK)]];let q1:=[ab [iV 0,iV 0,iV 0,iV 0,ax [],ah,ah,ah]];let q2:=[aZ 8 false 0 q,aZ 8 false 0 q1,aZ 8 false 0 [ab [iV u.act,iV u.item,iV u.n,iV u.kind,ax u.label,AV.sl0 4 0 u.head.length none,AV.sl0 5 0 u.words.length none,aW (u.kids.map aK)]],aZ 8 false 0 q1,aZ 4 true 0 (u.head.map aQ),aZ 4 true 0 (u.words.map aQ)];let q3:=aZ 8 false 0 q1;let q4:=aZ 8 false 0 q;let q5:=[bU 2 0 0 0,bU 3 0 0 0,ah,aW (u.kids.map aK),nV u.kids.length,iV 0];let q6:=List.map aQ u.head;let q7:=aZ 4 true 0 q6;exact ej Tryz.func77 fun a=>Mg 3<|M3 (.efx true (AV.sl0 4 0 u.head.length none)<|av [aZ 8 false 0 q,aZ 8 false 0 q1,aZ 8 false 0 q,aZ 8 false 0 q1,aZ 4 true 0 q6]) (xV rt rt rt rt ti) (xV (aU<|some q3) (aU<|some q4) (aU<|some q3) (aU<|some q4) ti) (cl4 u.head c1 q4 q3 q4 q3)<|Mg 1<|M3 (.efx true (AV.sl0 5 0 u.words.length none)<|av [aZ 8 false 0 q,aZ 8 false 0 q1,aZ 8 false 0 q,aZ 8 false 0 q1,aZ 4 true 0 q6,aZ 4 true 0<|u.words.map aQ]) (vP (tR 4 true 0 5<|aX iD u.head) rt rt rt rt ti) (vP (aU<|some q7) (aU<|some q3) (aU<|some q4) (aU<|some q3) (aU<|some q4) ti) (cl5 u.words c2 q4 q3 q4 q3 q7)<|Kl 7 16 (ln aK u.kids)<|Mg 0<|Zv [1,2,3,15,16,17] (q5,q2) True 0 ti fun _ _=>Kh 0 hz<|Mg 4<|M2 (.ren [0,1,3,4,5,2] [4,5] [2]) (tS 4 true 0<|aX iD u.head) (tS 4 true 0<|aX iD u.words)<|M1 (.frz 5 [2]) (vP (tR 4 true 0 5<|aX iD u.words) (tR 4 true 0 5<|aX iD u.head) rt rt rt ti)<|Mf a
noncomputable abbrev Zh(ep:Nat)(l:List TUnit):AObj:=.row 8 true ep (l.map aK)
theorem LV(u:TUnit){k k':AV}(h:Le k k')(h2:cH k=true):Le (Dn u k) (Dn u k'):=bQ (.cons (Le.refl _) (.cons (Le.refl _) (.cons (Le.refl _) (.cons (Le.refl _) (.cons (Le.refl _) (.cons (Le.refl _) (.cons (Le.refl _) (.cons h .nil)))))))) (by simp only[List.all_cons,List.all_nil,h2];rfl)
theorem YT(u:TUnit)(hn:nU u≤2^20)(ht:∀x,x∈bp u→x.head.length≤2^20∧x.words.length≤2^20):kC 77 [eU u] (av [we u,wv])
    (fun v h=>∃ep:Nat,True∧v=Dn u (.sl0 5 ep u.kids.length none)∧h=av [we u,wv,.dead,B6 u.head,B6 u.words,Zh ep u.kids]):=by
  rcases Nat.eq_zero_or_pos u.kids.length with hk|hk
  · have hk:=List.length_eq_zero_iff.1 hk
    refine aL.dead (i:=2) (JM (Ψ':=fun v h=>v=Dn u (.sl0 5 0 0 none)∧h=av [we u,wv,U1 u 3 4 .nils,B6 u.head,B6 u.words,Zh 0 u.kids]) (Zh 0 u.kids) (Y1 u hk ht) fun v h' ⟨h1,h2⟩=>⟨Dn u (.sl0 5 0 0 none),h1▸LV u Le.sl0n rfl,rfl,?_⟩) (au 2) (by omega) fun v h' ⟨h1,h2⟩=>⟨0,trivial,by simp_all,?_⟩
    · rw[h2];kernel_rfl
    · rw[h2];kernel_rfl
  · refine aL.dead (i:=2) (aL.less (Ψ':=fun v h=>∃ep:Nat,v=Dn u (.sl0 5 ep u.kids.length none)∧h=av [we u,wv,U1 u 3 4 (.slice 5 ep 0 u.kids.length none),B6 u.head,B6 u.words,Zh ep u.kids]) (Y0 u hk hn ht) fun v h' ⟨y,⟨e1,e2⟩,h1,h2⟩=>⟨Dn u (.sl0 5 y.1 u.kids.length none),?_,y.1,rfl,?_⟩) (au 2) (by omega) fun v h' ⟨ep,h1,h2⟩=>⟨ep,trivial,h1,?_⟩
    · rw[h1,e1];exact LV u Le.sl0 rfl
    · simp_all
    · rw[h2];kernel_rfl
/-- The first 'i' elements changed by 'f'. -/
def kg{α:Type}(f:α→α)(l:List α)(i:Nat):List α:=(l.take i).map f++l.drop i
theorem vC{α:Type}{f:α→α}{l:List α}{i:Nat}:(kg f l i).length=l.length:=by
  grind[kg]
theorem vD{α:Type}{f:α→α}{l:List α}{i:Nat}(h:l.length≤i):kg f l i=l.map f:=by
  grind[kg,List.take_of_length_le]
theorem zp{α:Type}[Inhabited α]{f:α→α}{l:List α}{i:Nat}(h:i<l.length):gD (kg f l i) i=gD l i:=by
  have e:((l.take i).map f).length=i:=by grind
  simp_all[kg,gD,pm]
theorem Cp{α:Type}[Inhabited α]{f:α→α}{l:List α}{i:Nat}(h:i<l.length):(kg f l i).set i (f (gD l i))=kg f l (i+1):=by
  have e:((l.take i).map f).length=i:=by grind
  have hg:gD l i=l[i]:=by unfold gD;simp_all
  unfold kg
  rw[List.set_append_right _ _ (by omega),e,Nat.sub_self,hg,OA h,List.set_cons_zero,OB h,rH,nR]
  rfl
theorem zo{l:List PWord}{i:Nat}(h:i<l.length):(kg gF l i).set i ⟨(gD (kg gF l i) i).text,0,0,0⟩=kg gF l (i+1):=by
  rw[zp h];exact Cp h
theorem PZ:∀u:TUnit,nU u≤2^20→(∀x,x∈bp u→x.head.length≤2^20∧x.words.length≤2^20)→kP 283 [eU u] (eU (cG u)):=by
  refine TUnit.ind fun u ih hn ht=>?_
  have hkl:=bf u
  have c1:=(ht u (dq u)).1
  have c2:=(ht u (dq u)).2
  have hc:=YT u hn ht
  have ihk:∀k,k∈u.kids→kP 283 [eU k] (eU (cG k)):=fun k hk=>ih k hk (bT (tW (iy hk)) hn) (fun x hx=>ht x (bA hk hx))
  rw[mz]
  have rr0 b' (h:(List.map aQ (TUnit.mk 0 0 0 u.kind u.label (u.head.map gF) (u.words.map gF) (u.kids.map cG)).head)=b':=by(rw[hx1.2,vD (by(simp only[oN]at *;omega))];rfl)):=h;have rr1 b' (h:(List.map aQ (TUnit.mk 0 0 0 u.kind u.label (u.head.map gF) (u.words.map gF) (u.kids.map cG)).words)=b':=by(rw[hx2.2,vD (by(simp only[oN]at *;omega))];rfl)):=h;have rr2 b' (h:(List.map aK (TUnit.mk 0 0 0 u.kind u.label (u.head.map gF) (u.words.map gF) (u.kids.map cG)).kids)=b':=by(rw[hx3.2,vD (by(simp only[oN]at *;omega))];rfl)):=h;exact bD Tryz.func283<|Mg 2<|Mq hc fun a _=>Mg 10<|M0 (.un 2)<|Mg 7<|L7 (0:Nat) u.head [1,2,4,15,16,17,22,23] (fun b c=>([bU 0 0 0 0,bU 1 0 0 0,AV.sl0 3 0 u.head.length none,jj [AV.sl0 3 0 u.head.length none,AV.sl0 4 0 u.words.length none] true,iV 2,iV 0,nV u.head.length,nV b],[aZ 8 false 0 [ab [iV 0,iV 0,iV 0,iV u.kind,ax u.label,AV.sl0 3 0 u.head.length none,AV.sl0 4 0 u.words.length none,AV.sl0 5 a u.kids.length none]],aZ 8 false 0 [ab [iV 0,iV 0,iV 0,iV 0,ax [],ah,ah,ah]],AObj.dead,aZ 4 true 0<|c.map aQ,aZ 4 true 0<|u.words.map aQ,aZ 8 true a<|u.kids.map aK])) (fun a b=>a≤u.head.length∧b=kg gF u.head a) (fun a _=>u.head.length-a) (by exact⟨bH _,rfl⟩) fun b c hx1 d=>have hx1:b≤u.head.length∧c=kg gF u.head b:=hx1;have:c.length=u.head.length:=(by grind[vC]);Ka 0 (Int.ofNat b) (Int.ofNat u.head.length) (fun _ _=>K1 4 .rix (et (aU 0) (sA:b<u.head.length))<|K1 0 (.rst (aQ<|gD c b)<|(c.set b<|PWord.mk (gD c b).text 0 0 0).map aQ) (cn (aU 0) (bJ aQ (sA:b<(c).length))<|j7 (f:=aQ) (l:=c) (i:=b) (w:=PWord.mk (gD c b).text 0 0 0))<|Kl 0 31 (jC b)<|Kf 0<|d (b+1) (c.set b<|PWord.mk (gD c b).text 0 0 0) (by grind[zo]) gR) fun _ _=>Mg 9<|L7 (0:Nat) u.words [1,2,4,15,16,17,22,23] (fun b d=>([bU 0 0 0 0,bU 1 0 0 0,AV.sl0 4 0 u.words.length none,jj [AV.sl0 3 0 u.head.length none,AV.sl0 4 0 u.words.length none] true,iV 2,iV 1,nV u.words.length,nV b],[aZ 8 false 0 [ab [iV 0,iV 0,iV 0,iV u.kind,ax u.label,AV.sl0 3 0 u.head.length none,AV.sl0 4 0 u.words.length none,AV.sl0 5 a u.kids.length none]],aZ 8 false 0 [ab [iV 0,iV 0,iV 0,iV 0,ax [],ah,ah,ah]],AObj.dead,aZ 4 true 0<|c.map aQ,aZ 4 true 0<|d.map aQ,aZ 8 true a<|u.kids.map aK])) (fun a b=>a≤u.words.length∧b=kg gF u.words a) (fun a _=>u.words.length-a) (by exact⟨bH _,rfl⟩) fun b d hx2 e=>have hx2:b≤u.words.length∧d=kg gF u.words b:=hx2;have:d.length=u.words.length:=(by grind[vC]);Ka 0 (Int.ofNat b) (Int.ofNat u.words.length) (fun _ _=>K1 4 .rix (et (aU 0) (sA:b<u.words.length))<|K1 0 (.rst (aQ<|gD d b)<|(d.set b<|PWord.mk (gD d b).text 0 0 0).map aQ) (cn (aU 0) (bJ aQ (sA:b<(d).length))<|j7 (f:=aQ) (l:=d) (i:=b) (w:=PWord.mk (gD d b).text 0 0 0))<|Kl 0 31 (jC b)<|Kf 0<|e (b+1) (d.set b<|PWord.mk (gD d b).text 0 0 0) (by grind[zo]) gR) fun _ _=>Mg 7<|L7 (0:Nat) u.kids [1,2,35,36] (fun b e=>([bU 0 0 0 0,bU 1 0 0 0,nV u.kids.length,nV b],[aZ 8 false 0 [ab [iV 0,iV 0,iV 0,iV u.kind,ax u.label,AV.sl0 3 0 u.head.length none,AV.sl0 4 0 u.words.length none,AV.sl0 5 a u.kids.length none]],aZ 8 false 0 [ab [iV 0,iV 0,iV 0,iV 0,ax [],ah,ah,ah]],AObj.dead,aZ 4 true 0<|c.map aQ,aZ 4 true 0<|d.map aQ,aZ 8 true a<|e.map aK])) (fun a b=>a≤u.kids.length∧b=kg cG u.kids a) (fun a _=>u.kids.length-a) (by exact⟨bH _,rfl⟩) fun b e hx3 f=>have hx3:b≤u.kids.length∧e=kg cG u.kids b:=hx3;have:e.length=u.kids.length:=(by grind[vC]);have g:b<u.kids.length→kP (283:FuncId) [eU (gD e b)] (eU (cG (gD e b))):=fun h=>ihk _ (by grind[zp,gV]);Ka 0 (Int.ofNat b) (Int.ofNat u.kids.length) (fun _ _=>K1 7 .rix (et (aU a) (sA:b<u.kids.length))<|Mr (et (aU a)<|rU aK (g:=Go.Ev.eU) aR (sA:b<(e).length))<|Mp (g sA)<|M1 .rix (et (aU a) (sA:b<u.kids.length))<|M3 (.rst (ab [iV (gD e b).act,iV (gD e b).item,iV (gD e b).n,iV (gD e b).kind,ax (gD e b).label,aW<|List.map aQ (gD e b).head,aW<|List.map aQ (gD e b).words,aW<|List.map aK (gD e b).kids])<|(e.set b<|cG<|gD e b).map aK) rt (gS (tR 8 true a 6<|aX iW e) rt) (cn (aU a) (rU aK (g:=Go.Ev.eU) aR (sA:b<(e).length))<|Dg (f:=aK) (g:=Go.Ev.eU) aR (l:=e) (i:=b) (w:=cG<|gD e b))<|Kl 0 49 (jC b)<|Kf 0<|f (b+1) (e.set b<|cG<|gD e b) (by grind[zp,Cp]) gR) fun _ _=>M2 (.fza 0 7 5 [1,2]<|e.map aK) (vP (tR 4 true 0 5<|aX iD d) (tR 4 true 0 5<|aX iD c) rt rt rt ti) (cn (aU a) (tA aK e u.kids.length (oA:(e).length=u.kids.length))<|aX iW e)<|M2 (.fza 0 6 4 [1,2]<|d.map aQ) (xV (tR 4 true 0 4<|aX iD c) rt rt rt ti) (cn (aU 0) (tA aQ d u.words.length (oA:(d).length=u.words.length))<|aX iD d)<|M2 (.fza 0 5 3 [1,2]<|c.map aQ) (jJ rt rt rt ti) (cn (aU 0) (tA aQ c u.head.length (oA:(c).length=u.head.length))<|aX iD c)<|Kf 1 (bQ (lc<|lc<|lc<|lc<|lc<|.cons (cK<|rr0<|c.map aQ)<|.cons (cK<|rr1<|d.map aQ)<|.cons (cK<|rr2<|e.map aK) .nil)<|by kernel_rfl:Le _ (AV.agg [iV 0,iV 0,iV 0,iV u.kind,AV.str u.label,AV.ls (c.map aQ),AV.ls (d.map aQ),AV.ls (e.map aK)]))
theorem Qz:Go.Proofs.Builder.Extra Tryz.prog Tryz.ljoin_ren:=by
  repeat' (first|kernel_rfl|(intro w;kernel_rfl)|decide|constructor)
theorem T1(l:List aI)(sep:aI)(h1:l.length≤140737488355328)(h2:(Lib.join l sep).length≤140737488355328):kP 259 [.ls (l.map m0),.str sep] (.str (Lib.join l sep)):=Nn (Go.Proofs.enters_of Tryz.func259 (by kernel_rfl) rfl) (fun a b c d e f g h i j k=>Go.Proofs.Any.strings_Join Go.Proofs.Tryz.ljoin Qz a b c d e f g h i j k) (fun a b c d=>Go.Proofs.Any.strings_Join_none Go.Proofs.Tryz.ljoin Qz a b c d) l sep h1 h2
theorem Yb:Go.Proofs.Builder.Extra Tryz.prog Tryz.lrep_ren:=by
  repeat' (first|kernel_rfl|(intro w;kernel_rfl)|decide|constructor)
theorem WJ(s:aI)(c:Nat)(h1:c≤9223372036854775807)(h2:s.length*c≤140737488355328):kP 300 [.str s,nV c] (.str (Lib.repeatL s c)):=FG (Go.Proofs.enters_of Tryz.func300 (by kernel_rfl) rfl) (fun a b d e f=>Go.Proofs.Any.strings_Repeat Go.Proofs.Tryz.lrep Yb a b d e f) s c h1 h2
theorem Po(s:aI)(ws:List PWord)(hw:∀w,w∈ws→1≤w.text.length∧w.text.length≤24)(hb:s.length+26*ws.length≤2^40)(hn:ws.length≤2^20):kP 302 [.str s,.ls (ws.map aQ)] (.str (l8 s ws)):=by
  have rr0 b' (h:(l8 s ws)=b':=by first|rfl|(exact hj0.1.symm)):=h;exact bD Tryz.func302<|Kl 2 8 (ln aQ ws)<|Mg 0<|Vk (0:Nat) ws s [0,7,8,9] (fun a _ b=>([ax b,aW<|ws.map aQ,nV ws.length,nV a],[])) (fun a b c=>(ws).drop a=b∧l8 c b=l8 s ws∧List.length c+26*b.length≤2^40) (fun _ a _=>a.length) (et rfl<|by first|rfl|(first|simp_all|(refine⟨by(rw[←hj0.1,oa];first|rw[EG h1]|rw[EF h1 h2]|rw[EE h1 h2]),?_⟩;have q:=hj0.2;simp only[lA,lC,lN]at *;omega))) fun a b c d e=>Mc b (fun a=>have b:=eP d.1 a;have hj0:=gv (J:=fun a b=>l8 b a=l8 s ws∧List.length b+26*a.length≤2^40) (a:=c) a d.2;Kh 0 b<|Kf 1<|Le.str<|rr0 c) fun b f g=>let i:=[aZ 4 false 0 [ab [ax b.text,iV b.act,iV b.item,iV b.at_]]];have j:=fY d.1 g;have:=am j;have k:=eO (enc:=aQ) d.1 g;have hj0:=cw (J:=fun a b=>l8 b a=l8 s ws∧List.length b+26*a.length≤2^40) (a:=c) g d.2;have:=hw b<|bZ d.1 g;Kt 0 j<|Mx k<|Kv 3 (iR (s:=c) (u:=[32]) (H:=av i) (by(first|first|assumption|omega|grind):(c).length+([32]).length≤2^62))<|K1 2 (.chr<|gD b.text 0) (za (by first|omega|(simp only[oN,lM,lS]at *;omega)|(simp only[oN,lM,lS,lA,lR,lC,lN]at * <;>omega):0<(b.text).length))<|Kj 1 (Int.ofNat (gD b.text 0).toNat) 124 (fun j _=>Mt j<|Mt j<|Mt j<|MV j<|Kv 1 (iR (s:=c++[32]) (u:=[92]) (H:=av i) (by(first|first|assumption|omega|grind):(c++[32]).length+([92]).length≤2^62))<|Kv 3 (iR (s:=c++[32]++[92]) (u:=b.text) (H:=av i) (by(first|first|assumption|omega|grind):(c++[32]++[92]).length+(b.text).length≤2^62))<|Kl 1 31 (dK a)<|K1 0 (.frz 0 [0,7,8,9]) ti<|Mf<|e (a+1) f (c++[32]++[92]++b.text) (et (bV d.1 g)<|by first|exact⟨rfl,hb⟩|(refine⟨by(rw[←hj0.1,oa];first|rw[EG j]|rw[EF j h2]|rw[EE j h2]),?_⟩;grind))<|dn g) fun j _=>Kh 0 j<|Kh 0 j<|M1 (.chr<|gD b.text 0) (za (by first|omega|(simp only[oN,lM,lS]at *;omega)|(simp only[oN,lM,lS,lA,lR,lC,lN]at * <;>omega):0<(b.text).length))<|Mh j<|Kw 0 j<|Mb (al (Int.ofNat (gD b.text 0).toNat) 92) (fun k=>have:=iX k;Kv 0 (iR (s:=c++[32]) (u:=[92]) (H:=av i) (by(first|first|assumption|omega|grind):(c++[32]).length+([92]).length≤2^62))<|Kv 3 (iR (s:=c++[32]++[92]) (u:=b.text) (H:=av i) (by(first|first|assumption|omega|grind):(c++[32]++[92]).length+(b.text).length≤2^62))<|Kl 1 31 (dK a)<|K1 0 (.frz 0 [0,7,8,9]) ti<|Mf<|e (a+1) f (c++[32]++[92]++b.text) (et (bV d.1 g)<|by first|exact⟨rfl,hb⟩|(refine⟨by(rw[←hj0.1,oa];first|rw[EG j]|grind[EF]|rw[EE j k]),?_⟩;grind))<|dn g) fun k=>have:=HW k;Kv 2 (iR (s:=c++[32]) (u:=b.text) (H:=av i) (by(first|first|assumption|omega|grind):(c++[32]).length+(b.text).length≤2^62))<|Kl 1 31 (dK a)<|K1 0 (.frz 0 [0,7,8,9]) ti<|Mf<|e (a+1) f (c++[32]++b.text) (et (bV d.1 g)<|by first|exact⟨rfl,hb⟩|(refine⟨by(rw[←hj0.1,oa];first|rw[EG j]|rw[EF j k]|grind[EE]),?_⟩;grind))<|dn g
theorem sa{u:TUnit}(h:ml u):ml (cG u):=by
  obtain⟨h1,h2⟩:=Mu u
  refine⟨by rw[h1];exact h.1,fun x hx=>?_⟩
  obtain⟨y,hy,rfl⟩:=h2 x hx
  obtain⟨a,b,c,d,e⟩:=h.2 y hy
  rw[mz]
  refine⟨by grind[TUnit.head],by grind[TUnit.words],c,fun w hw=>?_,fun w hw=>?_⟩
  · obtain⟨v,hv,rfl⟩:=ke.1 hw;exact d v hv
  · obtain⟨v,hv,rfl⟩:=ke.1 hw;exact e v hv
theorem CZ{u:TUnit}(h:rS u):ml (tv u):=by
  have e:bp (tv u)=[tv u]:=by rw[dw];exact congrArg _ fN
  refine⟨by rw[jZ];exact bT (wU (congrArg (1+ ·) mW)) (by omega),fun x hx=>?_⟩
  rw[e]at hx
  rw[ph.1 hx];exact h
theorem Da(u:TUnit)(h:ml u):kP 283 [eU u] (eU (cG u)):=
  PZ u (bT h.1 (by omega)) fun x hx=>⟨bT (h.2 x hx).1 (by omega),bT (h.2 x hx).2.1 (by omega)⟩
theorem QY(u:TUnit)(d:Nat)(hd:d≤2^20)(h:rS u):kP 299 [eU u,nV d] (.bool (DL u d)):=by
  have h1:=Da (tv u) (CZ h)
  have h2:=xF (cG (tv u)) (sa (CZ h))
  have hz:=Wv d
  have rr0 b' (h:(DL u d)=b':=by first|rfl|(unfold DL;simp only[aS,aj,bS, *];done)):=h;exact bD Tryz.func299<|Kn 13 (ao 8<|Int.ofNat d) (fun a=>Kt 0 (cX a)<|Mp (bW.onArgs (.cons (bQ (lc<|lc<|lc<|lc<|lc<|lc<|lc<|.cons bI .nil)<|by kernel_rfl) .nil) h1:kP 283 [ab [iV 0,iV 0,iV 0,iV u.kind,ax u.label,aW (u.head.map aQ),aW (u.words.map aQ),ah]] _)<|Mt (cX a)<|Mp h2<|MV (cX a)<|Kf 0<|ca<|rr0<|kB<|cG<|tv u) fun a=>Mh (b0 a)<|Mh (b0 a)<|My (b0 a)<|Ky 0<|rr0 false
theorem Wn(u:TUnit)(d:Nat)(hd:d≤2^20)(h:rS u)(hm:DL u d=false):kP 285 [eU u,nV d] (.str (f8 u d)):=by
  have h1:=QY u d hd h
  rw[hm]at h1
  have e:f8 u d=[]:=by unfold f8;simp_all
  rw[e]
  exact bD Tryz.func285<|Kp 3 h1<|Kf 2<|bc<|ax []
def Nl(u:TUnit)(d:Nat)(z18:aI):Prop:=(z18=bif aj (al u.kind (0:Int))then Lib.repeatL [(32:UInt8),(32:UInt8)] d++c8 u.kind++([(32:UInt8)]++u.label)else Lib.repeatL [(32:UInt8),(32:UInt8)] d++c8 u.kind)∧List.length z18≤(40:Nat)
noncomputable def Ni(u:TUnit)(d:Nat)(z18:aI):List AV×List AObj:=([AV.ptr 0 0 0 0,AV.str z18],[AObj.row 8 false 0 [AV.agg [iV u.act,iV u.item,iV u.n,iV u.kind,AV.str u.label,AV.ls (u.head.map aQ),AV.ls (u.words.map aQ),AV.ls (u.kids.map aK)]]])
def Nh(u:TUnit)(z18:aI)(z27:aI):Prop:=(z27=bif ao (0:Int) (Int.ofNat u.head.length)then l8 (z18++[(58:UInt8)]) u.head else z18)∧List.length z27≤(6700:Nat)
noncomputable def Ng(u:TUnit)(z18:aI)(z27:aI):List AV×List AObj:=([AV.ptr 0 0 0 0,AV.str z27],[AObj.row 8 false 0 [AV.agg [iV u.act,iV u.item,iV u.n,iV u.kind,AV.str u.label,AV.ls (u.head.map aQ),AV.ls (u.words.map aQ),AV.ls (u.kids.map aK)]]])
theorem Wm(u:TUnit)(d:Nat)(hd:d≤2^20)(h:rS u)(hm:DL u d=true):kP 285 [eU u,nV d] (.str (f8 u d)):=by
  have h1:=QY u d hd h
  obtain⟨hd8,hlb,⟨hh1,hh2⟩,hw1,hw2⟩:=K9 hm
  have hrl:=Lib.repeatL_length [32,32] d
  simp only[lC,lN]at hrl
  have h2:=WJ [32,32] d (by omega) (by grind)
  have hk:=wO u.kind
  have hkl:=zP u.kind
  have hp1:∀s:aI,s.length≤2^14→kP 302 [.str s,.ls (u.head.map aQ)] (.str (l8 s u.head)):=fun s hs=>Po s u.head hh2 (by omega) (by omega)
  have hp2:∀s:aI,s.length≤2^14→kP 302 [.str s,.ls (u.words.map aQ)] (.str (l8 s u.words)):=fun s hs=>Po s u.words hw2 (by omega) (by omega)
  rw[hm]at h1
  have rr0 b' (h:(f8 u d)=b':=by first|rfl|(unfold f8;rw[hm];simp only[aj,cond_false];rw[←hz18.1,←hz27.1];first|(rw[h3];rfl)|(rw[h4];rfl)|(rw[h5];rfl)|(rw[h6];rfl)|(rw[h7];rfl))):=h;let q1:=[aZ 8 false 0 [ab [iV u.act,iV u.item,iV u.n,iV u.kind,ax u.label,aW (u.head.map aQ),aW (u.words.map aQ),aW (u.kids.map aK)]]];exact bD Tryz.func285<|Kp 3 h1<|Kp 2 h2<|Kp 1 hk<|Mv (iR (s:=Lib.repeatL [32,32] d) (u:=c8 u.kind) (H:=AHeap.mk 1000000 Tr.nil) (by(first|first|assumption|((try simp only[lA,lC,lN]);omega)|(simp only[lA,lC,lN]at *;omega)):(Lib.repeatL [32,32] d).length+(c8 u.kind).length≤2^62))<|Mg 0<|Mj aI [2,5] (Ni u d) (Nl u d) (fun a=>Kn 2 (al u.kind 0) (fun _=>Kv 2 (iR (s:=[32]) (u:=u.label) (H:=av q1) (by(first|first|assumption|((try simp only[lA,lC,lN]);omega)|(simp only[lA,lC,lN]at *;omega)):([32]).length+(u.label).length≤2^62))<|Mv (iR (s:=Lib.repeatL [32,32] d++c8 u.kind) (u:=32::u.label) (H:=av q1) (by(first|first|assumption|((try simp only[lA,lC,lN]);omega)|(simp only[lA,lC,lN]at *;omega)):(Lib.repeatL [32,32] d++c8 u.kind).length+(32::u.label).length≤2^62))<|Kf 0<|a (Lib.repeatL [32,32] d++c8 u.kind++32::u.label) (by(refine⟨by first|simp_all|(rw[h2];rfl)|(rw[h3];rfl)|(rw[h0];rfl),?_⟩;grind):(Lib.repeatL [(32:UInt8),(32:UInt8)] d++c8 u.kind++(32:UInt8)::u.label=bif aj (al u.kind (0:Int))then Lib.repeatL [(32:UInt8),(32:UInt8)] d++c8 u.kind++([(32:UInt8)]++u.label)else Lib.repeatL [(32:UInt8),(32:UInt8)] d++c8 u.kind)∧(Lib.repeatL [(32:UInt8),(32:UInt8)] d++c8 u.kind++(32:UInt8)::u.label).length≤40)) fun _=>Mf<|a (Lib.repeatL [32,32] d++c8 u.kind) (by(refine⟨by first|simp_all|(rw[h2];rfl)|(rw[h3];rfl)|(rw[h0];rfl),?_⟩;grind):(Lib.repeatL [(32:UInt8),(32:UInt8)] d++c8 u.kind=bif aj (al u.kind (0:Int))then Lib.repeatL [(32:UInt8),(32:UInt8)] d++c8 u.kind++([(32:UInt8)]++u.label)else Lib.repeatL [(32:UInt8),(32:UInt8)] d++c8 u.kind)∧(Lib.repeatL [(32:UInt8),(32:UInt8)] d++c8 u.kind).length≤40)) fun a hz18=>have hz18:(a=bif aj (al u.kind (0:Int))then Lib.repeatL [(32:UInt8),(32:UInt8)] d++c8 u.kind++([(32:UInt8)]++u.label)else Lib.repeatL [(32:UInt8),(32:UInt8)] d++c8 u.kind)∧List.length a≤40:=hz18;Mj aI [2,5] (Ng u a) (Nh u a) (fun b=>Kl 2 26 (ln aQ u.head)<|Kb 0 (ao 0<|Int.ofNat u.head.length) (fun h3=>Kv 0 (iR (s:=a) (u:=[58]) (H:=av q1) (by(first|first|assumption|((try simp only[lA,lC,lN]);omega)|(simp only[lA,lC,lN]at *;omega)):(a).length+([58]).length≤2^62))<|Kp 1 (hp1 (a++[58])<|by first|assumption|((try simp only[lA,lC,lN]);omega))<|Kf 0<|b (l8 (a++[58]) u.head) (by(refine⟨by first|simp_all|(rw[h2];rfl)|(rw[h4];rfl)|(rw[h5];rfl),?_⟩;first|omega|(have q:=vQ (fun w hw=>(hh2 w hw).2) (a++[58]);grind)):(l8 (a++[(58:UInt8)]) u.head=bif ao (0:Int) (Int.ofNat u.head.length)then l8 (a++[(58:UInt8)]) u.head else a)∧List.length (l8 (a++[(58:UInt8)]) u.head)≤6700)) fun h3=>Mf<|b a (by(refine⟨by first|simp_all|(rw[h2];rfl)|(rw[h4];rfl)|(rw[h5];rfl),?_⟩;first|omega|(have q:=vQ (fun w hw=>(hh2 w hw).2) (a++[58]);simp only[lA,lC,lN]at q;omega)):(a=bif ao (0:Int) (Int.ofNat u.head.length)then l8 (a++[(58:UInt8)]) u.head else a)∧List.length a≤6700)) fun b hz27=>have hz27:(b=bif ao (0:Int) (Int.ofNat u.head.length)then l8 (a++[(58:UInt8)]) u.head else a)∧List.length b≤6700:=hz27;Kl 2 35 (ln aQ u.words)<|Kb 0 (ao 0<|Int.ofNat u.words.length) (fun h4=>Kv 0 (iR (s:=b) (u:=[32,124]) (H:=av q1) (by(first|first|assumption|((try simp only[lA,lC,lN]);omega)|(simp only[lA,lC,lN]at *;omega)):(b).length+([32,124]).length≤2^62))<|Kp 1 (hp2 (b++[32,124])<|by first|assumption|((try simp only[lA,lC,lN]);omega))<|Kf 2<|Le.str<|rr0<|l8 (b++[32,124]) u.words) fun h4=>Kf 1<|Le.str<|rr0 b
theorem LK(u:TUnit)(d:Nat)(hd:d≤2^20)(h:rS u):kP 285 [eU u,nV d] (.str (f8 u d)):=by
  grind[Wn,Wm]
noncomputable abbrev HE(ep n:Nat):AObj:=.row 1 false 0 [.slice 2 ep 0 n none]
noncomputable abbrev Ep:AObj:=.row 1 false 0 [.func (.func 284) [] [.ptr 0 0 0 0,.ptr 1 0 0 0]]
noncomputable abbrev Fj(ep:Nat)(l:List aI):AObj:=.row 1 true ep (l.map m0)
def sI(u:TUnit)(d:Nat)(l:List aI)(x0:Nat×List TUnit×Nat×Nat×List aI):Prop:=(u.kids).drop x0.1=x0.2.1∧x0.2.2.2.1=x0.2.2.2.2.length∧x0.2.2.2.2++dZ (d+(1:Nat)) x0.2.1=l++[f8 u d]++dZ (d+(1:Nat)) u.kids∧x0.2.2.2.2.length+eY x0.2.1≤2^20
noncomputable def sH(u:TUnit)(d:Nat)(l:List aI)(x0:Nat×List TUnit×Nat×Nat×List aI):List AV×List AObj:=([nV d,AV.ptr 1 0 0 0,AV.ls (u.kids.map aK),nV u.kids.length,nV x0.1],[AObj.row 1 false 0 [AV.slice 2 x0.2.2.1 0 x0.2.2.2.1 none],AObj.row 1 false 0 [AV.func (Fn.func 284) [] [AV.ptr 0 0 0 0,AV.ptr 1 0 0 0]],AObj.row 1 true x0.2.2.1 (x0.2.2.2.2.map m0)])
theorem Yc:∀(u:TUnit)(d ep n:Nat)(l:List aI),n=l.length→l.length+nU u≤2^20→d+nU u≤2^20→(∀x,x∈bp u→rS x)→kC 284 [eU u,nV d,.ptr 0 0 0 0,.ptr 1 0 0 0] (av [HE ep n,Ep,Fj ep l])
    (fun v h=>∃y:Nat×Nat×List aI,(y.2.1=y.2.2.length∧y.2.2=l++eb d u)∧v=.tuple []∧h=av [HE y.1 y.2.1,Ep,Fj y.1 y.2.2]):=by
  refine TUnit.ind fun u ih d ep n l hn hl hd ht=>?_
  have hq:=jZ u
  have hkl:=bf u
  have hf:=LK u d (by omega) (ht u (dq u))
  have ihk:∀k,k∈u.kids→∀(d ep n:Nat)(l:List aI),n=l.length→l.length+nU k≤2^20→d+nU k≤2^20→kC 284 [eU k,nV d,.ptr 0 0 0 0,.ptr 1 0 0 0] (av [HE ep n,Ep,Fj ep l])
    (fun v h=>∃y:Nat×Nat×List aI,(y.2.1=y.2.2.length∧y.2.2=l++eb d k)∧v=.tuple []∧h=av [HE y.1 y.2.1,Ep,Fj y.1 y.2.2]):=fun k hk d ep n l a b c=>ih k hk d ep n l a b c (fun x hx=>ht x (bA hk hx))
  exact qQ Tryz.func284 fun e=>Kp 3 hf<|Mg 0<|Mw (.apx ((l++[f8 u d]).map m0)<|.go 3<|.le 16 (nV u.kids.length)<|.go 0<|.frz 3 [1,3,15,16,17]<|.loop (Nat×List TUnit×Nat×Nat×List aI) [1,3,15,16,17] (sH u d l) (sI u d l) (fun e=>e.2.1.length) (0,u.kids,(ep+1,n+1,l++[f8 u d])) fun e=>.cs TUnit e.2.1 (.go 0<|.ff .fin) fun f _=>.go 0<|.tt<|.elem (eU f)<|.go 6<|.le 24 (nV<|d+1)<|.frz 3 [1,3,15,16,17,21,22,24]<|.eff (Nat×Nat×List aI) (fun _=>bO []) (fun e=>av [HE e.1 e.2.1,Ep,Fj e.1 e.2.2]) (fun g=>g.2.1=g.2.2.length∧g.2.2=e.2.2.2.2++eb (d+1) f) fun _=>.go 0<|.le 26 (nV<|e.1+1)<|.go 0 .fin)<|et9 rt (gS (tR 1 true ep 4<|aX Jg l) rt) (et (pf _ _:([ax (f8 u d)]:List AV)≠[]) rt) (et (cn (aU ep) (by first|assumption|omega|simp_all|(refine aO (m:=2^31) ?_ ?_ ?_<;>(try simp only[lM,lC,lN])<;>omega):n=(l.map m0).length) (by first|assumption|omega|(simp only[lM];omega)|(refine aO (m:=2^31) ?_ ?_ ?_<;>(try simp only[lM,lC,lN])<;>omega):small (n+([AV.str (f8 u d)]).length) 16=true))<|dQ (f:=m0) (l:=l) (ws:=[f8 u d])) (ln aK u.kids) (jJ (tR 1 true (ep+1) 3<|aX Jg<|l++[f8 u d]) rt rt ti) (aU<|sH u d l (0,u.kids,(ep+1,n+1,l++[f8 u d]))) (et (rfl:List.drop 0 (u.kids)=u.kids) (by first|rfl|(first|grind|(have h1:=hj0.2.1;have h2:=hj0.2.2;rw[bh]at h2;rw[mJ]at h1;exact⟨hy1.1,(by rw[hy1.2,←h1];simp),(by rw[hy1.2,lA,kH];omega)⟩)):(n+1=(l++[f8 u d]).length∧l++[f8 u d]++dZ (d+1) u.kids=l++[f8 u d]++dZ (d+1) u.kids∧(l++[f8 u d]).length+eY u.kids≤2^20))) fun(f:Nat×List TUnit×Nat×Nat×List aI)(g:(sI u d l) f)=>et (fun(i:f.2.1=[])=>have j:=eP g.1 i;have:=gv (J:=fun e f=>f.2.1=f.2.2.length∧f.2.2++dZ (d+1) e=l++[f8 u d]++dZ (d+1) u.kids∧f.2.2.length+eY e≤2^20) (a:=f.2.2) i g.2;et j<|e (f.2.2.1,f.2.2.2.1,f.2.2.2.2)<|by first|grind[wI,Cs]|rfl) fun(e:TUnit)(i:List TUnit)(j:f.2.1=e::i)=>have o:=fY g.1 j;have:=am o;have p:=(eO (enc:=aK) g.1 j).trans<|congrArg some<|aR e;have:=cw (J:=fun e f=>f.2.1=f.2.2.length∧f.2.2++dZ (d+1) e=l++[f8 u d]++dZ (d+1) u.kids∧f.2.2.length+eY e≤2^20) (a:=f.2.2) j g.2;have q:=bZ g.1 j;have r:f.2.2.2.2.length+nU e≤2^20:=(by grind[bh]);have s:d+1+nU e≤2^20:=(by have:=iy q;omega);vP o p (jC d) (jJ (tR 1 true f.2.2.1 3<|aX Jg f.2.2.2.2) rt rt ti) (ihk e q (d+1) f.2.2.1 f.2.2.2.1 f.2.2.2.2 (by first|assumption|omega|(simp only[lM];omega)|(refine aO (m:=2^31) ?_ ?_ ?_<;>(try simp only[lM,lC,lN])<;>omega)) r s) fun(o:Nat×Nat×List aI)(_:o.2.1=o.2.2.length∧o.2.2=f.2.2.2.2++eb (d+1) e)=>et (jC f.1)<|Nx.mk (I:=sI u d l) (m:=fun e=>e.2.1.length) (S:=sH u d l) (x:=f) (f.1+1,i,(o.1,o.2.1,o.2.2)) (et (bV g.1 j) (by first|exact⟨by simp[hn],rfl,by simp;omega⟩|grind[bh,mJ,kH]:(o.2.1=o.2.2.length∧o.2.2++dZ (d+1) i=l++[f8 u d]++dZ (d+1) u.kids∧o.2.2.length+eY i≤2^20)))<|dn j
theorem Yd(u:TUnit)(d:Nat)(hl:nU u≤2^19)(hd:d+nU u≤2^20)(ht:∀x,x∈bp u→rS x):kC 284 [eU u,nV d,.ptr 0 0 0 0,.ptr 1 0 0 0] (av [.row 1 false 0 [.nils],Ep])
    (fun v h=>∃y:Nat×Nat×List aI,(y.2.1=y.2.2.length∧y.2.2=eb d u)∧v=.tuple []∧h=av [HE y.1 y.2.1,Ep,Fj y.1 y.2.2]):=by
  have hq:=jZ u
  have hkl:=bf u
  have hf:=LK u d (by omega) (ht u (dq u))
  have ihk:∀k,k∈u.kids→∀(d ep n:Nat)(l:List aI),n=l.length→l.length+nU k≤2^20→d+nU k≤2^20→kC 284 [eU k,nV d,.ptr 0 0 0 0,.ptr 1 0 0 0] (av [HE ep n,Ep,Fj ep l])
    (fun v h=>∃y:Nat×Nat×List aI,(y.2.1=y.2.2.length∧y.2.2=l++eb d k)∧v=.tuple []∧h=av [HE y.1 y.2.1,Ep,Fj y.1 y.2.2]):=fun k hk d ep n l a b c=>Yc k d ep n l a b c (fun x hx=>ht x (bA hk hx))
  exact qQ Tryz.func284 fun e=>Kp 3 hf<|Kl 5 16 (ln aK u.kids)<|Mg 0<|M0 (.ren [0,1,3,2] [] [1,3,15,16,17])<|M1 (.frz 3 [1,3,15,16,17]) (jJ rt rt rt ti)<|Vj aK u.kids (0:Nat) (1:Nat) ([f8 u d]:List aI) [1,3,15,16,17] (fun e _ f g i=>([nV d,bU 1 0 0 0,aW<|u.kids.map aK,nV u.kids.length,nV e],[aZ 1 false 0 [aN 2 f 0 g none],aZ 1 false 0 [bj (bx 284) [] [bU 0 0 0 0,bU 1 0 0 0]],aZ 1 true f<|i.map m0])) (fun e _ f g=>f=g.length∧g++dZ (d+1) e=[f8 u d]++dZ (d+1) u.kids∧g.length+eY e≤2^20) (by first|rfl|(first|grind|(have h1:=hj0.2.1;have h2:=hj0.2.2;rw[bh]at h2;rw[mJ]at h1;exact⟨hy1.1,(by rw[hy1.2,←h1];simp),(by rw[hy1.2,lA,kH];omega)⟩))) (fun _ _ f g i _ _ _ j _=>Kh 0 j<|Mf<|e (f,g,i)<|by first|grind[wI,Cs]|rfl) fun e _ f g i j m o p q r s _ t _=>have t:=(t).trans<|congrArg some<|aR o;have:=cw (J:=fun e f=>f.2.1=f.2.2.length∧f.2.2++dZ (d+1) e=[f8 u d]++dZ (d+1) u.kids∧f.2.2.length+eY e≤2^20) (a:=(f,g,i)) r m;have j:=bZ j r;have m:i.length+nU o≤2^20:=(by grind[bh]);have r:d+1+nU o≤2^20:=(by have:=iy j;omega);Kt 0 s<|Mx t<|Kl 6 24 (jC d)<|M1 (.frz 3 [1,3,15,16,17,21,22,24]) (jJ (tR 1 true f 3<|aX Jg i) rt rt ti)<|Mq (ihk o j (d+1) f g i (by first|assumption|omega) m r) fun f _=>Kl 0 26 (jC e)<|Kf 0<|q f.1 f.2.1 f.2.2<|by first|exact⟨by simp[hl],rfl,by simp;omega⟩|grind[bh,mJ,kH]
theorem Wl(u:TUnit)(h:ml u)(hv:kB (cG u)=false):kP 258 [eU u] (.ls (([]:List aI).map m0)):=by
  have h1:=Da u h
  have h2:=xF (cG u) (sa h)
  exact bD Tryz.func258<|Kp 2 h1<|Mp h2<|Kt 0 (cX hv)<|Kf 0 bI
theorem Wi(u:TUnit)(h:ml u)(hv:kB (cG u)=true):kP 258 [eU u] (.ls ((eb 0 u).map m0)):=by
  have h1:=Da u h
  have h2:=xF (cG u) (sa h)
  have h3:=Yd u 0 h.1 (by have:=h.1;omega) h.2
  have rr0 b' (h:((eb 0 u).map m0)=b':=by first|rfl|(rw[hy0.2])):=h;exact bD Tryz.func258<|Kp 2 h1<|Mp h2<|Kh 0 (b0 hv)<|Mg 5<|M0 (.ren [1,2,0] [] [3,10,11])<|M1 (.frz 2 [3,10,11]) (cn rt rt ti)<|Mq h3 fun a hy0=>Mg 1<|M2 (.fsl 0 [] 2<|a.2.2.map m0) ti (cn (aU a.1) (tA m0 a.2.2 a.2.1 (by first|assumption|omega:(a.2.2).length=a.2.1))<|aX Jg a.2.2)<|Ml 2 (fg (a.2.2.map m0) false<|aX Jg a.2.2)<|Mf<|cK<|rr0<|a.2.2.map m0
theorem Yo(u:TUnit)(h:ml u)(hv:kB (cG u)=false):kP 234 [eU u] (.tuple [.str (xt u).1,iV (xt u).2]):=by
  have h1:=Wl u h hv
  have e:xt u=([],1):=by unfold xt;simp_all
  rw[e]
  exact bD Tryz.func234<|Kp 3 h1<|Kf 6<|bc<|bO [ax [],iV 1]
theorem Yn(u:TUnit)(h:ml u)(hv:kB (cG u)=true):kP 234 [eU u] (.tuple [.str (xt u).1,iV (xt u).2]):=by
  have h1:=Wi u h hv
  have hlen:=kH 0 u
  have hq:=jZ u
  have hm:=h.1
  have hjl:=Qc (sep:=[10]) (B:=2^14) (l:=eb 0 u) (fun s hs=>zF 0 u s hs)
  rw[hlen]at hjl
  have hj2:(Lib.join (eb 0 u) [10]).length≤140737488355328:=bT hjl (bT (eC _ hm) (by grind))
  have hj3:(Lib.join (eb 0 u) [10]).length≤2^40:=bT hjl (bT (eC _ hm) (by grind))
  have hj:=T1 (eb 0 u) [10] (by omega) hj2
  have hz:al (.ofNat (eb 0 u).length) 0=false:=by grind[Rv]
  have e:xt u=(bif ao 16384 (.ofNat (Lib.join (eb 0 u) [10]++[10]).length)then([],6)else(Lib.join (eb 0 u) [10]++[10],0)):=by unfold xt;simp_all
  rw[e]
  clear e
  generalize Lib.join (eb 0 u) [10]=J at *
  cases hb:ao 16384 (.ofNat (J++[10]).length)
  · have hb2:ao 16384 (.ofNat (J++[10]).length)=false:=hb
    exact bD Tryz.func234<|Kp 3 h1<|Kl 2 9 (ln m0<|eb 0 u)<|Kh 0 hz<|Kp 0 hj<|Mv (iR (s:=J) (u:=[10]) (H:=av [aZ 8 false 0 [ab [iV u.act,iV u.item,iV u.n,iV u.kind,ax u.label,aW<|u.head.map aQ,aW<|u.words.map aQ,aW<|u.kids.map aK]]]) (by(first|first|assumption|grind|omega|(simp only[lA,lC,lN]at *;omega)):(J).length+([10]).length≤2^62))<|Kh 3 hb<|Kf 2<|bc<|bO [ax<|J++[10],iV 0]
  · have hb2:ao 16384 (.ofNat (J++[10]).length)=true:=hb
    exact bD Tryz.func234<|Kp 3 h1<|Kl 2 9 (ln m0<|eb 0 u)<|Kh 0 hz<|Kp 0 hj<|Mv (iR (s:=J) (u:=[10]) (H:=av [aZ 8 false 0 [ab [iV u.act,iV u.item,iV u.n,iV u.kind,ax u.label,aW<|u.head.map aQ,aW<|u.words.map aQ,aW<|u.kids.map aK]]]) (by(first|first|assumption|grind|omega|(simp only[lA,lC,lN]at *;omega)):(J).length+([10]).length≤2^62))<|Kt 3 hb<|Kf 1<|bc<|bO [ax [],iV 6]
theorem W5(u:TUnit)(h:ml u):kP 234 [eU u] (.tuple [.str (xt u).1,iV (xt u).2]):=by
  grind[Yo,Yn]
def Wu(u:TUnit):Bool:=HM u&&(aj (al u.kind 0)&&al (xt u).2 0)
theorem Ws(u:TUnit)(h:ml u):kP 177 [eU u] (.bool (Wu u)):=by
  have q1:=W5 u h
  have q2:=XA u h
  have rr0 b' (h:(Wu u)=b':=by first|rfl|(unfold Wu;rw[h0];rfl)|(unfold Wu;rw[h0,h1];rfl)|(unfold Wu;rw[h0,h1,h2];rfl)):=h;exact bD Tryz.func177<|Kp 2 q1<|Kp 5 q2<|Kb 0 (HM u) (fun h0=>Kt 0 h0<|Kt 0 h0<|Ku 0 h0<|Kn 0 (al u.kind 0) (fun h1=>Kt 0 (cX h1)<|Ku 0 (cX h1)<|Kf 0<|ca<|rr0<|al (xt u).2 0) fun h1=>Mh (b0 h1)<|My (b0 h1)<|Ky 0<|rr0 false) fun h0=>Mh h0<|Mh h0<|My h0<|Ky 2<|rr0 false
/-- What an item must be, so that the walks can count. -/
def xT(x:PItem):Prop:=nX x∧(x.at_.length<2^40∧∀s,s∈x.at_→s.label.length≤2^39)∧(x.to.length<2^40∧∀s,s∈x.to→s.label.length≤2^39)∧(x.old.length<2^40∧∀s,s∈x.old→s.length≤2^39)∧(x.new.length<2^40∧∀s,s∈x.new→s.length≤2^39)∧x.label.length≤2^39∧x.for_.length≤2^39∧x.start.event.length≤2^39∧ml x.unit
/-- What a valid item is known to be. -/
def AY(x:PItem):Prop:=(x.kind=0∨x.kind=6→io x.where_=true)∧(x.kind=0→Wu x.unit=true)∧(x.kind=2∨x.kind=3→qq x.old=true∧Bm x.nth_=true)∧(x.kind=2∨x.kind=3∨x.kind=4→qq x.new=true)
theorem qY{l:List aI}{n:Int}(h:qU l n=true):qq l=true:=by
  simp_all[qU]
theorem V1(x:PItem)(hx:xT x)(h0:0≤x.kind)(h6:x.kind≤6):∃b,kP 106 [eI x] (.bool b)∧(b=true→AY x):=by
  obtain⟨k,a,t,w,n,u,o,ne,l,f,s,ac,im,d,e,bs⟩:=x
  obtain⟨hf,⟨ha,has⟩,⟨ht,hts⟩,⟨ho,hos⟩,⟨hn,hns⟩,hl,hfo,hse,hu⟩:=hx
  have hz:jq bd:=⟨by grind,by grind,by grind,trivial⟩
  have n0:(0:Nat)<2^60:=by omega
  obtain⟨f1,f2,f3,f4,f5,f6,f7⟩:=hf
  have hff:∀k w n,nX ⟨k,a,t,w,n,u,o,ne,l,f,s,ac,im,d,e,bs⟩:=fun _ _ _=>⟨f1,f2,f3,f4,f5,f6,f7⟩
  have h0:0≤k:=h0
  have h6:k≤6:=h6
  have hk:k=0∨k=1∨k=2∨k=3∨k=4∨k=5∨k=6:=by omega
  rcases hk with rfl|rfl|rfl|rfl|rfl|rfl|rfl
  · refine⟨_,ou ⟨0,a,t,w,n,u,o,ne,l,f,s,ac,im,d,e,bs⟩ (nM ⟨0,a,t,w,n,u,o,ne,l,f,s,ac,im,d,e,bs⟩ 0) 174 175 _ _ rfl rfl (UM _) (sP _ (hff _ _ _) (xZ ⟨0,a,t,w,n,u,o,ne,l,f,s,ac,im,d,e,bs⟩ (nM ⟨0,a,t,w,n,u,o,ne,l,f,s,ac,im,d,e,bs⟩ 0)) ⟨f1,n0,n0,n0,n0,f6,trivial⟩) (TM a t w n u o ne l f s ac im d e bs (Wu u) (Ws u hu)) ha has hfo hse,fun h=>?_⟩
    simp only[bq]at h
    exact⟨fun _=>h.2.2.2.2.1,fun _=>h.2.2.2.2.2,fun q=>(by rcases q with q|q<;>cases q),fun q=>(by rcases q with q|q|q<;>cases q)⟩
  · refine⟨_,ou ⟨1,a,t,w,n,u,o,ne,l,f,s,ac,im,d,e,bs⟩ (nM ⟨1,a,t,w,n,u,o,ne,l,f,s,ac,im,d,e,bs⟩ 1) 178 179 _ _ rfl rfl (UL _) (sP _ (hff _ _ _) (xZ ⟨1,a,t,w,n,u,o,ne,l,f,s,ac,im,d,e,bs⟩ (nM ⟨1,a,t,w,n,u,o,ne,l,f,s,ac,im,d,e,bs⟩ 1)) ⟨f1,n0,n0,n0,n0,hz,trivial⟩) (TL a t w n u o ne l f s ac im d e bs) ha has hfo hse,fun h=>?_⟩
    exact⟨fun q=>(by rcases q with q|q<;>cases q),fun q=>(by cases q),fun q=>(by rcases q with q|q<;>cases q),fun q=>(by rcases q with q|q|q<;>cases q)⟩
  · refine⟨_,ou ⟨2,a,t,w,n,u,o,ne,l,f,s,ac,im,d,e,bs⟩ (nM ⟨2,a,t,w,n,u,o,ne,l,f,s,ac,im,d,e,bs⟩ 2) 180 181 _ _ rfl rfl (UI _) (sP _ (hff _ _ _) (xZ ⟨2,a,t,w,n,u,o,ne,l,f,s,ac,im,d,e,bs⟩ (nM ⟨2,a,t,w,n,u,o,ne,l,f,s,ac,im,d,e,bs⟩ 2)) ⟨f1,n0,f3,f4,n0,hz,trivial⟩) (TI a t w n u o ne l f s ac im d e bs ho hn hos hns) ha has hfo hse,fun h=>?_⟩
    simp only[bq]at h
    exact⟨fun q=>(by rcases q with q|q<;>cases q),fun q=>(by cases q),fun _=>⟨qY h.2.2.2.2.1,h.2.2.2.2.2.2⟩,fun _=>qY h.2.2.2.2.2.1⟩
  · refine⟨_,ou ⟨3,a,t,w,n,u,o,ne,l,f,s,ac,im,d,e,bs⟩ (nM ⟨3,a,t,w,n,u,o,ne,l,f,s,ac,im,d,e,bs⟩ 3) 184 185 _ _ rfl rfl (UH _) (sP _ (hff _ _ _) (xZ ⟨3,a,t,w,n,u,o,ne,l,f,s,ac,im,d,e,bs⟩ (nM ⟨3,a,t,w,n,u,o,ne,l,f,s,ac,im,d,e,bs⟩ 3)) ⟨f1,n0,f3,f4,n0,hz,trivial⟩) (TH a t w n u o ne l f s ac im d e bs ho hn hos hns) ha has hfo hse,fun h=>?_⟩
    simp only[bq]at h
    exact⟨fun q=>(by rcases q with q|q<;>cases q),fun q=>(by cases q),fun _=>⟨qY h.2.2.2.2.1,h.2.2.2.2.2.2.1⟩,fun _=>qY h.2.2.2.2.2.1⟩
  · refine⟨_,ou ⟨4,a,t,w,n,u,o,ne,l,f,s,ac,im,d,e,bs⟩ (nM ⟨4,a,t,w,n,u,o,ne,l,f,s,ac,im,d,e,bs⟩ 4) 186 187 _ _ rfl rfl (UG _) (sP _ (hff _ _ _) (xZ ⟨4,a,t,w,n,u,o,ne,l,f,s,ac,im,d,e,bs⟩ (nM ⟨4,a,t,w,n,u,o,ne,l,f,s,ac,im,d,e,bs⟩ 4)) ⟨f1,n0,n0,f4,n0,hz,trivial⟩) (TG a t w n u o ne l f s ac im d e bs hn hns) ha has hfo hse,fun h=>?_⟩
    simp only[bq]at h
    exact⟨fun q=>(by rcases q with q|q<;>cases q),fun q=>(by cases q),fun q=>(by rcases q with q|q<;>cases q),fun _=>qY h.2.2.2.2⟩
  · refine⟨_,ou ⟨5,a,t,w,n,u,o,ne,l,f,s,ac,im,d,e,bs⟩ (nM ⟨5,a,t,w,n,u,o,ne,l,f,s,ac,im,d,e,bs⟩ 5) 188 189 _ _ rfl rfl (UF _) (sP _ (hff _ _ _) (xZ ⟨5,a,t,w,n,u,o,ne,l,f,s,ac,im,d,e,bs⟩ (nM ⟨5,a,t,w,n,u,o,ne,l,f,s,ac,im,d,e,bs⟩ 5)) ⟨f1,n0,n0,n0,n0,hz,trivial⟩) (TE a t w n u o ne l f s ac im d e bs hl) ha has hfo hse,fun h=>?_⟩
    exact⟨fun q=>(by rcases q with q|q<;>cases q),fun q=>(by cases q),fun q=>(by rcases q with q|q<;>cases q),fun q=>(by rcases q with q|q|q<;>cases q)⟩
  · refine⟨_,ou ⟨6,a,t,w,n,u,o,ne,l,f,s,ac,im,d,e,bs⟩ (nM ⟨6,a,t,w,n,u,o,ne,l,f,s,ac,im,d,e,bs⟩ 6) 191 192 _ _ rfl rfl (UE _) (sP _ (hff _ _ _) (xZ ⟨6,a,t,w,n,u,o,ne,l,f,s,ac,im,d,e,bs⟩ (nM ⟨6,a,t,w,n,u,o,ne,l,f,s,ac,im,d,e,bs⟩ 6)) ⟨f1,f2,n0,n0,n0,hz,trivial⟩) (TD a t w n u o ne l f s ac im d e bs ht hts) ha has hfo hse,fun h=>?_⟩
    simp only[bq]at h
    exact⟨fun _=>h.2.2.2.2.1,fun q=>(by cases q),fun q=>(by rcases q with q|q<;>cases q),fun q=>(by rcases q with q|q|q<;>cases q)⟩
theorem wF{u:TUnit}(h:OkB u):∀x,x∈bp u→x.head.length<2^30∧x.words.length<2^30:=fun x hx=>⟨nK (h.w x hx).1 (by omega),nK (h.w x hx).2 (by omega)⟩
theorem Ds(p:PId)(u:TUnit)(hn:nU u≤1024): -1≤qj p u∧qj p u≤2^20:=by
  cases h:iZ p u with
  |false=>rw[PD h];omega
  | true=>
    obtain⟨q,i,h1,_,h3,h4,_⟩:=vi u h
    have:=dM h1
    grind[bf]
theorem yW(w:Int)(u:TUnit)(p:PId)(hn:nU u≤1024): -1≤(da w u p).1.at_∧(da w u p).1.at_≤2^41:=by
  have hb:=Ds p u hn
  have key:∀n:Int,0≤n→n≤1→ -1≤(ni u p n).1.at_∧(ni u p n).1.at_≤2^41:=fun n h0 h1=>by
    unfold ni
    cases iZ p u
    · exact⟨by show(-1:Int)≤0;omega,by show(0:Int)≤_;omega⟩
    grind
  unfold da
  cases al w 0
  · cases al w 1
    · grind
    · show -1≤Int.ofNat _∧Int.ofNat _≤2^41
      have:(ei p u).kids.length≤1024:=by
        cases h:cq p u with
        | true=>
          have:=dM (vf h).1
          grind[bf]
        |false=>unfold ei;rw[h];exact bH _
      grind
  simp_all
theorem vN{u:TUnit}(hu:OkB u)(p:PId):kP 62 [eU u,aV p] (.tuple [eU (ei p u),.bool (cq p u)]):=RX p u (bT hu.n (by omega)) (wF hu)
theorem kZ{u:TUnit}(hu:OkB u)(p:PId):kP 171 [eU u,aV p] (.tuple [aV (so p u),iV (qj p u),.bool (iZ p u)]):=PA p u (bT hu.n (by omega))
theorem wD{u:TUnit}(hu:OkB u)(p:List PStep)(hp:p.length<2^40∧∀s,s∈p→s.label.length≤2^39):kP 107 [eU u,.ls (p.map az)] (.tuple [aV (aF u p).1,iV (aF u p).2]):=
  NF u p (Ud u p (bT hu.n (by omega)) hp.1 hp.2) (bT hu.n (by omega))
theorem Lz{u:TUnit}(hu:OkB u)(p:PId):kP 273 [eU u,aV p] (.tuple [fz (da 0 u p).1,iV (da 0 u p).2]):=Qy u _ p _ (vN hu p)
theorem Lq{u:TUnit}(hu:OkB u)(p:PId):kP 276 [eU u,aV p] (.tuple [fz (da 1 u p).1,iV (da 1 u p).2]):=Qv u _ p _ (vN hu p)
theorem LU{u:TUnit}(hu:OkB u)(p:PId):kP 278 [eU u,aV p] (.tuple [fz (da 2 u p).1,iV (da 2 u p).2]):=Qw u p _ _ _ (kZ hu p) (by have:=Ds p u hu.n;omega)
theorem LY{u:TUnit}(hu:OkB u)(p:PId):kP 280 [eU u,aV p] (.tuple [fz (da 3 u p).1,iV (da 3 u p).2]):=Qk u p _ _ _ (kZ hu p) (by have:=Ds p u hu.n;omega)
theorem wa{w:Int}(h:io w=true):w=0∨w=1∨w=2∨w=3:=by
  unfold io at h
  rw[bq]at h
  have h1:=gy h.1
  have h2:=gy h.2
  omega
/-- Where a unit is inserted. -/
theorem Ta{u:TUnit}(hu:OkB u)(p:List PStep)(hp:p.length<2^40∧∀s,s∈p→s.label.length≤2^39)(w:Int)(hw:io w=true):kP 210 [eU u,.ls (p.map az),iV w]
    (.tuple [aV (Cz (aF u p).2 (da w u (aF u p).1).1 (da w u (aF u p).1).2).1.id,iV (Cz (aF u p).2 (da w u (aF u p).1).1 (da w u (aF u p).1).2).1.at_,iV (Cz (aF u p).2 (da w u (aF u p).1).1 (da w u (aF u p).1).2).2]):=by
  rcases wa hw with rfl|rfl|rfl|rfl
  · exact rK 0 _ rfl rfl u p _ _ _ _ (wD hu p hp) (Lz hu _)
  · exact rK 1 _ rfl rfl u p _ _ _ _ (wD hu p hp) (Lq hu _)
  · exact rK 2 _ rfl rfl u p _ _ _ _ (wD hu p hp) (LU hu _)
  · exact rK 3 _ rfl rfl u p _ _ _ _ (wD hu p hp) (LY hu _)
theorem WO{u:TUnit}(hu:OkB u)(p q:PId)(w:Int)(hw:io w=true):∃bs,kP 212 [eU u,aV p,aV q,iV w]
    (.tuple [fz (nI p q (so p u) (qj p u) (iZ p u) ((pG q u).any (bg p)) bs (da w u q).1 (da w u q).2).1,iV (nI p q (so p u) (qj p u) (iZ p u) ((pG q u).any (bg p)) bs (da w u q).1 (da w u q).2).2]):=by
  have hb:=Ds p u hu.n
  have hb: -1≤qj p u∧qj p u≤2^40:=by omega
  have hn:nU u≤2^20:=bT hu.n (by omega)
  have hal:(pG q u).length<2^40:=by
    grind[mZ,pG]
  have hC:=LI (pG q u) p hal
  rcases wa hw with rfl|rfl|rfl|rfl
  · exact⟨_,GD 0 _ rfl rfl rfl u p q _ _ _ _ _ _ _ hb (yW 0 u q hu.n) (kZ hu p) (HS q u hn) hC (Lz hu q)⟩
  · exact⟨_,GD 1 _ rfl rfl rfl u p q _ _ _ _ _ _ _ hb (yW 1 u q hu.n) (kZ hu p) (HS q u hn) hC (Lq hu q)⟩
  · exact⟨_,QP u p q _ _ _ _ _ _ _ hb (yW 2 u q hu.n) (kZ hu p) (HS q u hn) hC (LU hu q)⟩
  · exact⟨_,QO u p q _ _ _ _ _ _ _ hb (yW 3 u q hu.n) (kZ hu p) (HS q u hn) hC (LY hu q)⟩
theorem GR{B:Nat}:∀{l:List TUnit},(∀x,x∈l→(nY x).length≤B)→(l.flatMap nY).length≤B*l.length
  |[],_=>bH _
  | x::r,h=>by
    have h1:=h x eW
    have h2:=GR (l:=r) fun y hy=>h y (eJ _ hy)
    rw[List.flatMap_cons,lA,lC,Nat.mul_succ];omega
theorem O9{u:TUnit}(h:ml u):(m8 u).length≤2^29:=by
  rw[Sd]
  have h1:∀x,x∈bp u→(nY x).length≤600:=fun x hx=>by
    obtain⟨a,b,_⟩:=h.2 x hx
    unfold nY;rw[lA];omega
  have h2:=GR h1
  have h3:(bp u).length=nU u:=by rw[lI];unfold dx;rw[lM]
  rw[h3]at h2
  have:=h.1
  omega
theorem YZ{e:Int}{sp:PSpot}{e2:Int}(h:(Cz e sp e2).2=0):e=0∧e2=0∧(Cz e sp e2).1=sp:=by
  unfold Cz at h ⊢
  cases h1:al e 0 with
  |false=>rw[h1]at h;rw[show e=0 from h]at h1;cases h1
  | true=>
    rw[h1]at h
    cases h2:al e2 0 with
    |false=>rw[h2]at h;rw[show e2=0 from h]at h2;cases h2
    |true=>exact⟨iX h1,iX h2,rfl⟩
theorem T7{u u2:TUnit}{te:Int}{full cf:Bool}:(Nr u te full cf u2).1=u∨(full=false∧cf=false∧(Nr u te full cf u2).1=u2):=by
  unfold Nr;cases al te 0<;>cases full<;>cases cf<;>first|exact .inl rfl|exact .inr ⟨rfl,rfl,rfl⟩
/-- What an outcome is known to be. -/
def Bk(u:TUnit)(d:PDeed)(v:TUnit):Prop:=OkB v∧Rt u v
theorem Bk.refl{u:TUnit}(hu:OkB u){d:PDeed}:Bk u d u:=⟨hu,rfl⟩
/-- An insertion has an outcome. -/
theorem VB{u:TUnit}(hu:OkB u)(f:TUnit)(d:PDeed)(hd:xT d.it)(hg:AY d.it)(hk:d.it.kind=0):∃r:pH,kP 128 [eU u,eU f,aY d] (eL r)∧Bk u d r.1:=by
  have hw:=hg.1 (.inl hk)
  have hD:=Rf u d.it _ _ _ (by rw[hk];rfl) (Ta hu d.it.at_ hd.2.1 d.it.where_ hw)
  cases he:al (Cz (aF u d.it.at_).2 (da d.it.where_ u (aF u d.it.at_).1).1 (da d.it.where_ u (aF u d.it.at_).1).2).2 0 with
  |false=>exact⟨(u,_),T9 u f d _ _ _ he hD,.refl hu⟩
  | true=>
    have e0:=iX he
    obtain⟨e1,e2,e3⟩:=YZ e0
    obtain⟨n,n1,n2,n3⟩:=Gz hu (qt e1) e2
    rw[e0,e3,n1]at hD
    have ht:=hd.2.2.2.2.2.2.2.2
    have hS:=PK d.act d.item d.it.unit (bT ht.1 (by decide)) (O9 ht) (fun x hx=>⟨bT (ht.2 x hx).1 (by decide),bT (ht.2 x hx).2.1 (by decide)⟩)
    have hsn:=PV d.act d.item d.it.unit 0 0
    have hsi:=vz d.act d.item d.it.unit 0 0
    have hsw:=KX d.act d.item 300 d.it.unit 0 0 (fun x hx=>⟨(ht.2 x hx).1,(ht.2 x hx).2.1⟩)
    generalize cR d.act d.item d.it.unit 0 0=X at *
    have hn:=hu.n
    have hm:=ht.1
    have hX:nU X≤2^19:=by omega
    have hkp:(ei (da d.it.where_ u (aF u d.it.at_).1).1.id u).kids.length<2^40:=by
      cases h:cq (da d.it.where_ u (aF u d.it.at_).1).1.id u with
      |true=>have:=dM (vf h).1;have:=bf (ei (da d.it.where_ u (aF u d.it.at_).1).1.id u);omega
      |false=>unfold ei;rw[h];exact nK (bH 0) (by decide)
    have hiu:(dx u).length<2^40:=by rw[←lI];omega
    have hix:(dx X).length<2^40:=by rw[←lI];omega
    refine⟨_,T4 u f _ X _ d _ n (nU u) (nU X) _ _ _ _ (dx u) (dx X) (by omega) (by omega) hD (vN hu _) hS (yB _ X hkp) (LA u X _ (by omega) (by omega)) (Eb u (by omega)) (Eb X (by omega)) (QF u (by omega)) (QF X (by omega)) (cfX (dx X) (dx u) hiu hix) (OM _ n X u (by omega) (wF hu) n3),?_⟩
    rcases T7 (u:=u) (u2:=dW (da d.it.where_ u (aF u d.it.at_).1).1.id (du n X) u) (te:=yC (ei (da d.it.where_ u (aF u d.it.at_).1).1.id u) X) (full:=aj (ao (Int.ofNat (ei (da d.it.where_ u (aF u d.it.at_).1).1.id u).kids.length) 64)||(Ro u (da d.it.where_ u (aF u d.it.at_).1).1.id X||ao 1024 (Int.ofNat (nU u+nU X)))) (cf:=(dx X).any fun i=>(dx u).any (bg i))with q|⟨q1,q2,q3⟩
    · rw[q];exact .refl hu
    · rw[q3]
      rw[BM,BM]at q1
      have q4:=aB q1.2.2
      simp only[oN]at q4
      refine⟨hu.ins (by rw[hsi];exact PU _ _ _ _) (fun p hp hq=>?_) (by omega) hsw,KB (f:=du n X) (fun _=>rfl) u⟩
      rw[List.any_eq_false]at q2
      have:=q2 p hp
      exact this (List.any_eq_true.2 ⟨p,hq,kL p⟩)
/-- A unit is taken away. -/
theorem Vg{u:TUnit}(hu:OkB u){p:PId}(hp:iZ p u=true):∃q i,q∈bp u∧so p u=bv q∧qj p u=Int.ofNat i∧i<q.kids.length∧bv (gD q.kids i)=p∧kP 164 [eU u,aV p] (eU (dW (bv q) (gh i) u)):=by
  obtain⟨q,i,h1,h2,h3,h4,h5⟩:=vi u hp
  have hP:=kZ hu p
  rw[h2,h3,hp]at hP
  exact⟨q,i,h1,h2,h3,h4,h5,yl u _ p _ i hP (OO (bv q) i u (bT hu.n (by decide)) (wF hu) fun v hv hid=>by rw[hu.uni hv h1 ((gc _ v).1 hid)];exact h4)⟩
theorem X5{u x:TUnit}(hu:OkB u)(d:PDeed)(hp:iZ (bv x) u=true):∃r:pH,kP 129 [eU u,eU x,aY d] (eL r)∧Bk u d r.1:=by
  obtain⟨q,i,h1,h2,h3,h4,h5,h6⟩:=Vg hu hp
  exact⟨_,TY u x _ d h6,(hu.del h1 h4).1,KB (f:=gh i) (fun _=>rfl) u⟩
theorem Do(l:List PWord):(ve l).length≤256:=by
  unfold ve
  cases h:ao 256 (Int.ofNat l.length)with
  |true=>exact bH _
  |false=>have:=aB h;simp only[oN]at this;show l.length≤256;omega
theorem Pd(a b:Int)(w:List PWord)(old new:List aI)(n:Int):(FF a b w old new n).1.length≤256:=by
  unfold FF
  cases al (Int.ofNat old.length) 0
  · cases al (Int.ofNat (nG (uQ (b6 w) old) n).length) 0
    · exact Do _
    · exact bH _
  · exact bH _
theorem T5(a b:Int)(w:List PWord)(part new:List aI)(n:Int):(D7 a b w part new n).1.length≤256:=by
  unfold D7
  cases(al (Int.ofNat new.length) 0||(al (Int.ofNat part.length) 0&&aj (al n 0)))
  · cases al (Int.ofNat part.length) 0
    · cases al (Int.ofNat (nG (uQ (b6 w) part) n).length) 0
      · exact Do _
      · exact bH _
    · exact Do _
  · exact bH _
theorem tf{l:List aI}(h:qq l=true):l.length≤256:=by
  unfold qq at h
  rw[bq]at h
  have:=gy h.1
  simp only[oN]at this
  omega
theorem K5{n:Int}(h:Bm n=true):0≤n∧n≤256:=by
  unfold Bm at h
  rw[bq]at h
  exact⟨gy h.1,gy h.2⟩
theorem Cb{u:TUnit}(hu:OkB u)(q:PId){l:List PWord}(hl:l.length≤300):OkB (dW q (mQ l) u):=hu.keep (fun _=>⟨rfl,rfl⟩) fun v hv=>⟨(hu.w v hv).1,hl⟩
theorem P2{u:TUnit}(hu:OkB u)(q:PId){l:List PWord}(hl:l.length≤300):OkB (dW q (AW l) u):=hu.keep (fun _=>⟨rfl,rfl⟩) fun v hv=>⟨hl,(hu.w v hv).2⟩
theorem Nz{u:TUnit}(hu:OkB u)(q:PId)(s:aI):OkB (dW q (pZ s) u):=hu.keep (fun _=>⟨rfl,rfl⟩) fun v hv=>hu.w v hv
theorem JT{u u2:TUnit}{d:PDeed}{e:Int}(h:OkB u)(h2:Bk u d u2):Bk u d (FX u e u2).1:=by
  have h:=Bk.refl h (d:=d)
  unfold FX;cases al e 0;exact h;exact h2
theorem XN{u x:TUnit}(hu:OkB u)(hx:x∈bp u)(hp:iZ (bv x) u=true)(d:PDeed)(hg:AY d.it)(hk:d.it.kind=2):∃r:pH,kP 130 [eU u,eU x,aY d] (eL r)∧Bk u d r.1:=by
  obtain⟨h1,h2⟩:=hg.2.2.1 (.inl hk)
  have h3:=tf h1
  have h4:=tf (hg.2.2.2 (.inl hk))
  obtain⟨h5,h6⟩:=K5 h2
  have h7:=(hu.w x hx).2
  have hR:=TV d.act d.item x.words d.it.old d.it.new d.it.nth_ (by omega) (by omega) (by omega) h5 (by omega) (iQ h5)
  exact⟨_,SB u x _ d _ _ hR (OE (bv x) _ u (bT hu.n (by decide)) (wF hu)),JT hu ⟨Cb hu _ (bT (Pd ..) (by decide)),KA hp⟩⟩
theorem X9{u x:TUnit}(hu:OkB u)(hx:x∈bp u)(hp:iZ (bv x) u=true)(d:PDeed)(hg:AY d.it)(hk:d.it.kind=3):∃r:pH,kP 131 [eU u,eU x,aY d] (eL r)∧Bk u d r.1:=by
  obtain⟨h1,h2⟩:=hg.2.2.1 (.inr hk)
  have h3:=tf h1
  have h4:=tf (hg.2.2.2 (.inr (.inl hk)))
  obtain⟨h5,h6⟩:=K5 h2
  have h7:=(hu.w x hx).2
  have hR:=Yf d.act d.item x.words d.it.old d.it.new d.it.nth_ (by omega) (by omega) (by omega) h5 (by omega)
  exact⟨_,Tj u x _ d _ _ hR (OH (bv x) _ u (bT hu.n (by decide)) (wF hu)),JT hu ⟨Cb hu _ (bT (T5 ..) (by decide)),KA hp⟩⟩
theorem Ym{u x:TUnit}(hu:OkB u)(hp:iZ (bv x) u=true)(d:PDeed)(hg:AY d.it)(hk:d.it.kind=4):∃r:pH,kP 132 [eU u,eU x,aY d] (eL r)∧Bk u d r.1:=by
  have h4:=tf (hg.2.2.2 (.inr (.inr hk)))
  have hM:=yZ d.it.new d.act d.item 0 (by omega) (by decide)
  exact⟨_,Ux u x _ d _ hM (ON (bv x) _ u (bT hu.n (by decide)) (wF hu)),P2 hu _ (by rw[fO];omega),KA hp⟩
theorem Vs{u:TUnit}(hu:OkB u)(p:PId):(ei p u).kids.length<2^40:=by
  have hn:=hu.n
  cases h:cq p u with
  |true=>have:=dM (vf h).1;have:=bf (ei p u);omega
  |false=>unfold ei;rw[h];exact nK (bH 0) (by decide)
theorem X7{u x:TUnit}(hu:OkB u)(hp:iZ (bv x) u=true)(d:PDeed):∃r:pH,kP 133 [eU u,eU x,aY d] (eL r)∧Bk u d r.1:=by
  refine⟨_,Tq u x _ _ d _ _ _ _ _ (kZ hu (bv x)) (vN hu _) (yB _ _ (Vs hu _)) (OG (bv x) d u (bT hu.n (by decide)) (wF hu)),?_⟩
  unfold Tz
  cases al (yC (ei (so (bv x) u) u) (pZ d.it.label x)) 10
  · exact⟨Nz hu _ _,KA hp⟩
  · exact .refl hu
theorem Ts{u u2:TUnit}{d:PDeed}{te:Int}{full:Bool}(h:OkB u)(h2:Bk u d u2):Bk u d (QJ u te full u2).1:=by
  have h:=Bk.refl h (d:=d)
  unfold QJ;cases al te 0<;>cases full<;>first|exact h|exact h2
theorem YB{e2 e3:Int}{sp:PSpot}(h:(Ha 0 e2 sp e3).2=0):e2=0∧e3=0∧(Ha 0 e2 sp e3).1=sp:=by
  unfold Ha at h ⊢
  rw[show al 0 0=true from rfl]at h ⊢
  simp only[cond_true]at h ⊢
  cases h1:al e2 0 with
  |false=>rw[h1]at h;rw[show e2=0 from h]at h1;cases h1
  | true=>
    rw[h1]at h
    cases h2:al e3 0 with
    |false=>rw[h2]at h;rw[show e3=0 from h]at h2;cases h2
    |true=>exact⟨iX h1,iX h2,rfl⟩
/-- A move has an outcome. -/
theorem Yw{u x:TUnit}(hu:OkB u)(hx:x∈bp u)(d:PDeed)(hd:xT d.it)(hg:AY d.it)(hk:d.it.kind=6)(h0:(aF u d.it.at_).2=0)(hid:(aF u d.it.at_).1=bv x)(hp:iZ (bv x) u=true):∃r:pH,kP 134 [eU u,eU x,aY d] (eL r)∧Bk u d r.1:=by
  have hw:=hg.1 (.inr hk)
  have hF:=wD hu d.it.at_ hd.2.1
  rw[h0,hid]at hF
  obtain⟨bs,hG⟩:=WO hu (bv x) (aF u d.it.to).1 d.it.where_ hw
  obtain⟨q,i,h1,h2,h3,h4,h5,h6⟩:=Vg hu hp
  have hD:=Re u d.it _ _ _ _ _ _ (by rw[hk];rfl) (by rw[hk];rfl) hw hF (wD hu d.it.to hd.2.2.1) hG
  rw[h2,h3,hp]at hD
  cases he:al (Ha 0 (aF u d.it.to).2 (nI (bv x) (aF u d.it.to).1 (bv q) (Int.ofNat i) true ((pG (aF u d.it.to).1 u).any (bg (bv x))) bs (da d.it.where_ u (aF u d.it.to).1).1 (da d.it.where_ u (aF u d.it.to).1).2).1 (nI (bv x) (aF u d.it.to).1 (bv q) (Int.ofNat i) true ((pG (aF u d.it.to).1 u).any (bg (bv x))) bs (da d.it.where_ u (aF u d.it.to).1).1 (da d.it.where_ u (aF u d.it.to).1).2).2).2 0 with
  |false=>exact⟨(u,_),Tt u x d _ _ _ he hD,.refl hu⟩
  | true=>
    have e0:=iX he
    obtain⟨e1,e2,e3⟩:=YB e0
    obtain⟨n,n1,n2,n3⟩:=QN hu h1 h4 (qt e1) e2
    rw[e0,e3,n1]at hD
    obtain⟨hr,hpm⟩:=hu.del h1 h4
    have hkx:gD q.kids i=x:=hu.uni (iM h1 (bA (gV h4) (dq _))) hx h5
    rw[hkx]at hpm
    have hnr:=hr.n
    have hnx:=dM hx
    have hn:=hu.n
    refine⟨_,Tp u x _ _ _ d _ _ n _ _ _ _ _ hD (kZ hu (bv x)) h6 (vN hr _) (yB _ x (Vs hr _)) (LA _ x _ (by omega) (by omega)) (OI _ n x _ (by omega) (wF hr) n3),Ts hu ?_⟩
    have hnd:=List.nodup_append.1 (hpm.nodup_iff.1 hu.nd)
    have hlen:=hpm.length_eq
    rw[lA,←lI,←lI,←lI]at hlen
    exact⟨hr.ins hnd.2.1 (fun p hp hq=>hnd.2.2 p hq p hp rfl) (by omega) (fun y hy=>hu.w y (iM hx hy)),(KB (f:=du _ _) (fun _=>rfl) _).trans (KB (f:=gh i) (fun _=>rfl) u)⟩
/-- An item's doer. -/
theorem Z2{u x:TUnit}(hu:OkB u)(hx:x∈bp u)(d:PDeed)(hd:xT d.it)(hg:AY d.it)(hk0:0≤d.it.kind)(hk6:d.it.kind≤6)(h0:(aF u d.it.at_).2=0)(hid:(aF u d.it.at_).1=bv x)(hp:iZ (bv x) u=true):∃r:pH,kP (VG d.it.kind) [eU u,eU x,aY d] (eL r)∧Bk u d r.1:=by
  have hk:d.it.kind=0∨d.it.kind=1∨d.it.kind=2∨d.it.kind=3∨d.it.kind=4∨d.it.kind=5∨d.it.kind=6:=by omega
  rcases hk with h|h|h|h|h|h|h<;>rw[h]
  · exact VB hu x d hd hg h
  · exact X5 hu d hp
  · exact XN hu hx hp d hg h
  · exact X9 hu hx hp d hg h
  · exact Ym hu hp d hg h
  · exact X7 hu hp d
  · exact Yw hu hx d hd hg h h0 hid hp
/-- An amendment has one outcome. -/
theorem U8 {u:TUnit}(hu:OkB u)(d:PDeed)(hd:xT d.it)(hk0:0≤d.it.kind)(hk6:d.it.kind≤6):∃r:pH,kP 74 [eU u,aY d] (eL r)∧Bk u d r.1:=by
  obtain⟨b,hV,hg⟩:=V1 d.it hd hk0 hk6
  have hl:=Wh d hk0 hk6
  cases b with
  |false=>exact⟨_,U9 u d _ hl hV,.refl hu⟩
  | true=>
    have hg:=hg rfl
    have hF:=wD hu d.it.at_ hd.2.1
    cases he:al (aF u d.it.at_).2 0 with
    |false=>exact⟨_,VZ u d _ _ _ hl hV he hF,.refl hu⟩
    | true=>
      have e0:=iX he
      have hh:=qt e0
      obtain⟨hx,hxi⟩:=vf hh
      rw[e0]at hF
      have hX:=vN hu (aF u d.it.at_).1
      cases hi:(al (aF u d.it.at_).1.a u.act&&(al (aF u d.it.at_).1.i u.item&&al (aF u d.it.at_).1.n u.n))with
      | true=>
        cases hk:al d.it.kind 0 with
        | true=>
          have hk:=iX hk
          obtain⟨r,h1,h2⟩:=VB hu (ei (aF u d.it.at_).1 u) d hd hg hk
          exact⟨r,SU u _ d _ _ _ r hl hV hF hX hi (by rw[hk];rfl) (by rw[hk];exact h1),h2⟩
        |false=>exact⟨_,VQ u _ d _ _ _ _ _ hl hV hF hX hi hk (wD hu d.it.to hd.2.2.1),.refl hu⟩
      | false=>
        have hni:fE (aF u d.it.at_).1 u=false:=by
          cases q:fE (aF u d.it.at_).1 u with
          |false=>rfl
          | true=>
            have:=(gc _ u).1 q
            rw[←this]at hi
            have e:(al (bv u).a u.act&&(al (bv u).i u.item&&al (bv u).n u.n))=true:=by
              show(al u.act u.act&&(al u.item u.item&&al u.n u.n))=true
              rw[bY,bY,bY];rfl
            rw[e]at hi;cases hi
        obtain⟨r,h1,h2⟩:=Z2 hu hx d hd hg hk0 hk6 e0 hxi.symm (by rw[hxi];exact Uk hh hni)
        exact⟨r,VX u _ d _ _ _ r hl hV hF hX hi h1,h2⟩
theorem Sy{k:Int}(h:qM k=true):0≤k∧k≤6:=by
  unfold qM at h;rw[bq]at h;exact⟨gy h.1,gy h.2⟩
/-- What an amendment makes of a book: the one outcome there is. -/
structure AppOk(u:TUnit)(d:PDeed):Prop where
  b:OkB u
  i:xT d.it
  a:qM d.it.kind=true
theorem SV{u:TUnit}{d:PDeed}(h:AppOk u d):∃r:pH,kP 74 [eU u,aY d] (eL r)∧Bk u d r.1:=U8 h.b d h.i (Sy h.a).1 (Sy h.a).2
open Classical in
noncomputable def ju(u:TUnit)(d:PDeed):pH:=if h:AppOk u d then(SV h).choose else(u,0)
theorem L2{u:TUnit}{d:PDeed}(h:AppOk u d):kP 74 [eU u,aY d] (.tuple [eU (ju u d).1,iV (ju u d).2])∧Bk u d (ju u d).1:=by
  unfold ju;rw[dif_pos h];exact(SV h).choose_spec
theorem ru{u:TUnit}{d:PDeed}(h:AppOk u d):kP 74 [eU u,aY d] (.tuple [eU (ju u d).1,iV (ju u d).2])∧OkB (ju u d).1:=⟨(L2 h).1,(L2 h).2.1⟩
theorem VR(u:TUnit)(d:PDeed)(h1:OkB u)(h2:xT d.it)(h3:qM d.it.kind=true):kP 74 [eU u,aY d] (.tuple [eU (ju u d).1,iV (ju u d).2]):=(ru ⟨h1,h2,h3⟩).1
noncomputable def tk(u:TUnit)(d:PDeed):TUnit:=bif qM d.it.kind then(ju u d).1 else u
noncomputable def Cn(u:TUnit)(d:PDeed):List PFail:=bif qM d.it.kind then(bif al (ju u d).2 0 then[]else[⟨d.act,d.item,(ju u d).2⟩])else[]
theorem PJ{u:TUnit}{d:PDeed}(h1:OkB u)(h2:xT d.it):OkB (tk u d):=by
  unfold tk
  cases h:qM d.it.kind with
  |false=>exact h1
  |true=>exact(ru ⟨h1,h2,h⟩).2
noncomputable def de:TUnit→List PDeed→TUnit
  |u,[]=>u
  |u,d::r=>de (tk u d) r
noncomputable def fy:TUnit→List PDeed→List PFail
  |_,[]=>[]
  |u,d::r=>Cn u d++fy (tk u d) r
theorem HH:∀{l:List PDeed}{u:TUnit},OkB u→(∀d,d∈l→xT d.it)→OkB (de u l)
  |[],_,h,_=>h
  |d::r,u,h,hl=>HH (l:=r) (u:=tk u d) (PJ h (hl d (eW ..))) fun x hx=>hl x (eJ _ hx)
theorem CO:∀(l:List PDeed)(u:TUnit),(fy u l).length≤l.length
  |[],_=>au _
  | d::r,u=>by
    have:=CO r (tk u d)
    have h:(Cn u d).length≤1:=by
      unfold Cn
      cases qM d.it.kind<;>cases al (ju u d).2 0<;>simp
    rw[fy,lA,lC];omega
theorem X0{u:TUnit}{d:PDeed}{r:List PDeed}(h:qM d.it.kind=false):de u (d::r)=de u r∧fy u (d::r)=fy u r:=by
  rw[de,fy,tk,Cn,h];exact⟨rfl,rfl⟩
theorem S0{u:TUnit}{d:PDeed}{r:List PDeed}(h:qM d.it.kind=true)(h2:al (ju u d).2 0=true):de u (d::r)=de (ju u d).1 r∧fy u (d::r)=fy (ju u d).1 r:=by
  rw[de,fy,tk,Cn,h,h2];exact⟨rfl,rfl⟩
theorem SS{u:TUnit}{d:PDeed}{r:List PDeed}(h:qM d.it.kind=true)(h2:al (ju u d).2 0=false):de u (d::r)=de (ju u d).1 r∧fy u (d::r)=⟨d.act,d.item,(ju u d).2⟩::fy (ju u d).1 r:=by
  rw[de,fy,tk,Cn,h,h2];exact⟨rfl,rfl⟩
mutual
theorem KU:∀(u:TUnit)(deep most:Int),mp u deep most≤most→Int.ofNat (nU u)≤mp u deep most
  | ⟨_,_,_,_,_,_,_,kids⟩,deep,most,h=>by
    rw[mp]at h ⊢
    cases hd:ao 20 deep with
    |true=>rw[hd]at h;simp only at h;omega
    | false=>
      rw[hd]at h
      have:=Kq kids deep most 1 h
      rw[nU]
      simp only[oN]at *
      omega
theorem Kq:∀(l:List TUnit)(deep most n:Int),mr l deep most n≤most→n+Int.ofNat (eY l)≤mr l deep most n
  |[],_,_,n,_=>by rw[mr,eY];exact Int.le_of_eq (Int.add_zero n)
  | k::r,deep,most,n,h=>by
    rw[mr]at h ⊢
    cases hd:ao most n with
    |true=>rw[hd]at h;have:=am hd;simp only at h;omega
    | false=>
      rw[hd]at h
      have h2:=Kq r deep most _ h
      have h1:=KU k (deep+1) (most-n) (by simp only[oN]at *;omega)
      rw[eY]
      simp only[oN]at *
      omega
end
theorem Fi{l:List PWord}(h:mA l=true):l.length≤300∧∀w,w∈l→w.text.length≤100:=by
  unfold mA at h
  obtain⟨h1,h2⟩:=pg.1 h
  refine⟨by have:=gy h2;simp only[oN]at this;omega,fun w hw=>?_⟩
  have:=gy (l9.1 h1 w hw)
  simp only[oN]at this;omega
theorem IJ:∀(u:TUnit),kp u=true→∀x,x∈bp u→rS x:=by
  refine TUnit.ind fun u ih h x hx=>?_
  rw[BT]at h
  simp only[bq]at h
  obtain⟨⟨⟨h0,h1⟩,h2⟩,h3⟩:=h
  rw[dw]at hx
  rcases ez.1 hx with rfl|hx
  · have h0:=gy h0
    simp only[oN]at h0
    have q1:=Fi h1
    have q2:=Fi h2
    exact⟨q1.1,q2.1,by omega,fun w hw=>bT (q1.2 w hw) (by decide),fun w hw=>bT (q2.2 w hw) (by decide)⟩
  · obtain⟨k,hk,hx⟩:=my hx
    exact ih k hk (l9.1 h3 k hk) x hx
theorem XQ{u:TUnit}{n:Nat}(h:G6 u (.ofNat n)=true):nU u≤n∧∀x,x∈bp u→rS x:=by
  unfold G6 at h
  obtain⟨h1,h2⟩:=pg.1 h
  refine⟨?_,IJ u h2⟩
  have h3:=gy h1
  have:=KU u 0 (.ofNat n) h3
  simp only[oN]at *
  omega
theorem PT{x:PItem}(hf:nX x)(h:mO x=true):xT x:=by
  rw[EV]at h
  unfold yU at h
  simp only[bq]at h
  obtain⟨⟨⟨⟨⟨⟨⟨⟨⟨⟨a1,a2⟩,a3⟩,a4⟩,a5⟩,a6⟩,a7⟩,a8⟩,a9⟩,a10⟩,b1,b2,b3,b4,b5⟩:=h
  have a1:=gy a1
  have a2:=gy a2
  have a3:=gy a3
  have a4:=gy a4
  have a5:=gy a5
  have a6:=gy a6
  have a7:=gy a7
  simp only[oN]at a1 a2 a3 a4 a5 a6 a7
  have hs:∀{l:List aI},l.all xo=true→∀s,s∈l→s.length≤2^39:=fun h s hs=>by
    have:=gy (l9.1 h s hs);simp only[oN]at this;omega
  have ht:∀{l:List PStep},l.all xn=true→∀s,s∈l→s.label.length≤2^39:=fun h s hs=>by
    have:=gy (l9.1 h s hs);simp only[oN]at this;omega
  have hu:=XQ (n:=30) a10
  exact⟨hf,⟨by omega,ht b3⟩,⟨by omega,ht b4⟩,⟨by omega,hs b1⟩,⟨by omega,hs b2⟩,by omega,by omega,by omega,bT hu.1 (by decide),hu.2⟩
theorem Th:∀(u:TUnit),nU u≤1024→(∀x,x∈bp u→x.head.length≤300∧x.words.length≤300)→jq u:=by
  refine TUnit.ind fun u ih hn hw=>?_
  have:=bf u
  obtain⟨h1,h2⟩:=hw u (dq u)
  exact lx.2 ⟨by omega,by omega,by omega,fun k hk=>ih k hk (by have:=iy hk;omega) fun x hx=>hw x (bA hk hx)⟩
theorem oZ{u:TUnit}(h:OkB u):jq u:=Th u h.n h.w
theorem Jk{u v:TUnit}{l r:List PDeed}{xs:List PFail}(h:fy u l=xs++fy v r):xs.length≤l.length:=by
  grind[CO]
theorem Sj(u:TUnit)(l:List PDeed)(hu:OkB u)(hl:l.length<2^30)(ho:∀d,d∈l→xT d.it):kP 59 [eU u,.ls (l.map aY)] (.tuple [eU (de u l),.ls ((fy u l).map ii)]):=by
  have rr0 b' (h:((de u l).act)=b':=by first|(rw[hj0.2.1];rfl)|(rw[hj0.2.2];rfl)|(rw[hj0.2.2.1];rfl)|(rw[hj0.2.2.2];simp only[fy,ef])|exact aX gQ _):=h;have rr1 b' (h:((de u l).item)=b':=by first|(rw[hj0.2.1];rfl)|(rw[hj0.2.2];rfl)|(rw[hj0.2.2.1];rfl)|(rw[hj0.2.2.2];simp only[fy,ef])|exact aX gQ _):=h;have rr2 b' (h:((de u l).n)=b':=by first|(rw[hj0.2.1];rfl)|(rw[hj0.2.2];rfl)|(rw[hj0.2.2.1];rfl)|(rw[hj0.2.2.2];simp only[fy,ef])|exact aX gQ _):=h;have rr3 b' (h:((de u l).kind)=b':=by first|(rw[hj0.2.1];rfl)|(rw[hj0.2.2];rfl)|(rw[hj0.2.2.1];rfl)|(rw[hj0.2.2.2];simp only[fy,ef])|exact aX gQ _):=h;have rr4 b' (h:((de u l).label)=b':=by first|(rw[hj0.2.1];rfl)|(rw[hj0.2.2];rfl)|(rw[hj0.2.2.1];rfl)|(rw[hj0.2.2.2];simp only[fy,ef])|exact aX gQ _):=h;have rr5 b' (h:(List.map aQ (de u l).head)=b':=by first|(rw[hj0.2.1];rfl)|(rw[hj0.2.2];rfl)|(rw[hj0.2.2.1];rfl)|(rw[hj0.2.2.2];simp only[fy,ef])|exact aX gQ _):=h;have rr6 b' (h:(List.map aQ (de u l).words)=b':=by first|(rw[hj0.2.1];rfl)|(rw[hj0.2.2];rfl)|(rw[hj0.2.2.1];rfl)|(rw[hj0.2.2.2];simp only[fy,ef])|exact aX gQ _):=h;have rr7 b' (h:(List.map aK (de u l).kids)=b':=by first|(rw[hj0.2.1];rfl)|(rw[hj0.2.2];rfl)|(rw[hj0.2.2.1];rfl)|(rw[hj0.2.2.2];simp only[fy,ef])|exact aX gQ _):=h;have rr8 b' (h:((fy u l).map ii)=b':=by first|(rw[hj0.2.1];rfl)|(rw[hj0.2.2];rfl)|(rw[hj0.2.2.1];rfl)|(rw[hj0.2.2.2];simp only[fy,ef])|exact aX gQ _):=h;exact bD Tryz.func59<|Kl 2 5 bI<|Kl 2 12 (ln aY l)<|Mg 0<|Zk TUnit Nat Nat (List PFail) aY l u [2,4,6,11,12,13] (fun a _ b=>([bU 0 0 0 0,bU 1 0 0 0,ah,aW<|l.map aY,nV l.length,nV a],[aZ 8 false 0 [ab [iV b.act,iV b.item,iV b.n,iV b.kind,ax b.label,aW<|b.head.map aQ,aW<|b.words.map aQ,aW<|b.kids.map aK]],aZ 8 false 0 [ab [iV 0,iV 0,iV 0,iV 0,ax [],ah,ah,ah]]])) (fun a _ b c e f=>([bU 0 0 0 0,bU 1 0 0 0,aN 2 c 0 e none,aW<|l.map aY,nV l.length,nV a],[aZ 8 false 0 [ab [iV b.act,iV b.item,iV b.n,iV b.kind,ax b.label,aW<|b.head.map aQ,aW<|b.words.map aQ,aW<|b.kids.map aK]],aZ 8 false 0 [ab [iV 0,iV 0,iV 0,iV 0,ax [],ah,ah,ah]],aZ 3 true c<|f.map ii])) (fun a b=>OkB b∧de u l=de b a∧fy u l=fy b a) (fun a b _ c e=>OkB b∧c=e.length∧de u l=de b a∧fy u l=e++fy b a) sA (fun _ _ a _ _ _ b hj0=>Kh 0 b<|Kl 3 5 bI<|Mf<|cE<|.cons (bQ (.cons (li<|rr0 a.act)<|.cons (li<|rr1 a.item)<|.cons (li<|rr2 a.n)<|.cons (li<|rr3 a.kind)<|.cons (Le.str<|rr4 a.label)<|.cons (cK<|rr5<|a.head.map aQ)<|.cons (cK<|rr6<|a.words.map aQ)<|.cons (cK<|rr7<|a.kids.map aK) .nil)<|by kernel_rfl)<|.cons (cK<|rr8 []) .nil) (fun a _ b c _ e f g i j k _ n hj0=>have c:=ho _<|bZ c j;Kt 0 k<|Mx n<|Kp 5 (JG e.it.kind)<|Kn 0 (qM e.it.kind) (fun _=>Kl 0 40 (dK a)<|K1 0 (.frz 2 [2,4,6,11,12,13]) (cn rt rt ti)<|Mf<|g b<|by grind[X0]) fun j=>Kp 1 (VR b e sA c j)<|Kc 7 (ju b e).2 0 (fun _ _=>Kl 12 40 (dK a)<|Mg 0<|M0 (.ren [0,1,4,2,3] [] [2,4,6,11,12,13])<|M1 (.frz 3 [2,4,6,11,12,13]) (jJ rt rt rt ti)<|Mf<|i (ju b e).1 0 1 [PFail.mk e.act e.item (ju b e).2]<|by exact⟨(ru ⟨hj0.1,c,by omega⟩).2,rfl,hj0.2.1.trans (SS (by omega) (by omega)).1,hj0.2.2.trans (SS (by omega) (by omega)).2⟩) fun _ _=>Kl 2 40 (dK a)<|K1 0 (.frz 2 [2,4,6,11,12,13]) (cn rt rt ti)<|Mf<|g (ju b e).1<|by exact⟨(ru ⟨hj0.1,c,by omega⟩).2,hj0.2.1.trans (S0 (by omega) (by omega)).1,hj0.2.2.trans (S0 (by omega) (by omega)).2⟩) (fun _ _ a b c e _ _ _ f hj0=>Kh 0 f<|Mg 3<|M2 (.fsl 2 [4] 5<|e.map ii) (cn rt rt ti) (cn (aU b) (tA ii e c (oA:(e).length=c))<|aX gQ e)<|Ml 5 (fg (e.map ii) false<|aX gQ e)<|Mf<|cE<|.cons (bQ (.cons (li<|rr0 a.act)<|.cons (li<|rr1 a.item)<|.cons (li<|rr2 a.n)<|.cons (li<|rr3 a.kind)<|.cons (Le.str<|rr4 a.label)<|.cons (cK<|rr5<|a.head.map aQ)<|.cons (cK<|rr6<|a.words.map aQ)<|.cons (cK<|rr7<|a.kids.map aK) .nil)<|by kernel_rfl)<|.cons (cK<|rr8<|e.map ii) .nil) fun a _ b c e f g _ i j _ k n o _ p hj0=>have g:=ho _<|bZ g n;Kt 0 o<|Mx p<|Kp 5 (JG i.it.kind)<|Kn 0 (qM i.it.kind) (fun _=>Kl 0 40 (dK a)<|K1 0 (.frz 3 [2,4,6,11,12,13]) (jJ (tR 3 true c 3<|aX gQ f) rt rt ti)<|Mf<|k b c e f<|by grind[X0]) fun n=>Kp 1 (VR b i sA g n)<|Kc 7 (ju b i).2 0 (fun _ _=>K1 7 .app (cn (aU c) (sA:e=(f.map ii).length) (by(have z:=Jk hj0.2.2.2;have z2:=hj0.2.1;refine aO (m:=2^31) ?_ ?_ ?_<;>omega):small (e+1) 24=true))<|M1 (.obj 2<|aZ 3 true (c+1)<|(f++[PFail.mk i.act i.item (ju b i).2]).map ii) (congrArg (aZ 3 true<|c+1)<|dQ (f:=ii) (l:=f) (ws:=[PFail.mk i.act i.item (ju b i).2]))<|Kl 3 40 (dK a)<|K1 0 (.frz 3 [2,4,6,11,12,13]) (jJ (tR 3 true (c+1) 3<|aX gQ<|f++[PFail.mk i.act i.item (ju b i).2]) rt rt ti)<|Mf<|k (ju b i).1 (c+1) (e+1) (f++[PFail.mk i.act i.item (ju b i).2])<|by exact⟨(ru ⟨hj0.1,g,by omega⟩).2,by simp_all,hj0.2.2.1.trans (SS (by omega) (by omega)).1,hj0.2.2.2.trans (by grind[SS])⟩) fun _ _=>Kl 2 40 (dK a)<|K1 0 (.frz 3 [2,4,6,11,12,13]) (jJ (tR 3 true c 3<|aX gQ f) rt rt ti)<|Mf<|k (ju b i).1 c e f<|by exact⟨(ru ⟨hj0.1,g,by omega⟩).2,hj0.2.1,hj0.2.2.1.trans (S0 (by omega) (by omega)).1,hj0.2.2.2.trans (by grind[S0])⟩
end Go.Proofs.YtaepacpodblomaaGreatDoor
