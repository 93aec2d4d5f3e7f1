/- Functions walked: what each of them answers, for Appending gazettes changes neither the book known after k gazettes nor the days that the k-th gazette changed (arguments of bulk at most 1048576): part 5. Conditions: those that each theorem names. -/
import Derived.Test.YtaepacpodblomaaGreatDoorH4
namespace Go.Proofs.YtaepacpodblomaaGreatDoor
open Go Go.Ev
noncomputable abbrev B6(l:List PWord):AObj:=.row 4 true 0 (l.map aQ)
noncomputable def E8:TypeInfo:=(Tryz.prog.info? 102).getD default
theorem E7:Tryz.prog.info? 102=some E8:=by kernel_rfl
theorem yt:E8.size=4:=by kernel_rfl
theorem wa:E8.bytes=40:=by kernel_rfl
theorem Vb(l:List PWord):dl 4 (l.map aQ)=true:=fp (fun w=>by cases w;rfl) l
/-- A copy of words: a row of its own. -/
theorem cl4(ws:List PWord)(hl:ws.length≤2^20)(a b c d:AObj):kD 110 [.ls (ws.map aQ)] (ab [a,b,c,d]) (.sl0 4 0 ws.length none) (ab [a,b,c,d,B6 ws]):=by
  by_cases hne:ws=[]
  · subst hne
    have hE:(ab [a,b,c,d]).push (B6 [])=ab [a,b,c,d,B6 []]:=by kernel_rfl
    have h:=aL.psh (o:=B6 []) (u:=.sl0 4 0 0 none) (rh [] (by omega) (ab [a,b,c,d])) EC
    simp_all
  have hn:ws.map aQ≠[]:=fun h=>hne (List.map_eq_nil_iff.1 h)
  have hf:=Vb ws
  have hsm:small (ws.map aQ).length 40=true:=by grind[aD]
  have hlen:ws.length=(ws.map aQ).length:=(bG ..).symm
  unfold B6
  rw[hlen]
  generalize ws.map aQ=L at hn hf hsm
  refine(aL.less (Ψ:=fun v h=>v=.slice 4 0 0 L.length none∧h=ab [a,b,c,d,.row 4 true 0 L]) ?_ fun v h ⟨h1,h2⟩=>⟨_,h1▸Le.sl0,rfl,h2⟩)
  refine aL.enter 2 (fn:=Tryz.f110) Tryz.func110 (by kernel_rfl) rfl ⟨by kernel_rfl,by kernel_rfl⟩ ?_
  refine au.seq (au.mono (D8 oK fz (ev 40) (s':=⟨eW 8 [(0,.ls L),(2,.nils)],ab [a,b,c,d]⟩) (.go 0 .fin) (by kernel_rfl)) ?_)
  rintro _ _ ⟨rfl,rfl⟩
  refine au.seq (au.seq (au.mono (yQ fz (ev 40) (Ψ:=fun s=>s=⟨eW 8 [(0,.ls L),(2,.nils),(3,.ps L false),(4,.bool false)],ab [a,b,c,d]⟩) (.go 0 (.nz 3 .abs (.go 0 .fin)))
    (W:=(L=[]→False)∧(⟨eW 8 [(0,.ls L),(2,.nils),(3,.ps L false),(4,.bool false)],ab [a,b,c,d]⟩:St)=⟨eW 8 [(0,.ls L),(2,.nils),(3,.ps L false),(4,.bool false)],ab [a,b,c,d]⟩) ⟨hn,rfl⟩ (by kernel_rfl)) ?_))
  rintro _ _ ⟨rfl,rfl⟩
  refine au.cond (t:=false) (by kernel_rfl) (fun h=>by grind) fun _=>au.skip ?_
  refine au.seq (au.region ?_)
  show ch _ _ _ _ [_,_,_,_] _ _
  refine ch.one (s':=⟨eW 8 [(0,.ls L),(2,.nils),(3,.ps L false),(4,.bool false),(5,.ps [] true)],ab [a,b,c,d]⟩) (ev 40) (by kernel_rfl) ?_
  refine ch.one (s':=⟨eW 8 [(0,.ls L),(2,.nils),(3,.ps L false),(4,.bool false),(5,.ps [] true),(6,.ls L)],ab [a,b,c,d]⟩) (ev 40) (by kernel_rfl) ?_
  refine rC (I:=fun k:Nat=>k=0) (r:=fun _=>.slice 4 0 0 L.length none) (H:=fun _=>ab [a,b,c,d,.row 4 true 0 L]) (by kernel_rfl)
    (fun pl M a w g1 g2 g3=>xd (z:=aQ ⟨[],0,0,0⟩) (z0:=aQ ⟨[],0,0,0⟩) (xs:=L) (t:=35) (tx:=35) (e:=102) (i:=E8) yt wa (by kernel_rfl) ⟨102,by kernel_rfl⟩ E7 (by kernel_rfl) (Le.refl _) (by kernel_rfl) (by kernel_rfl) hn hf (by kernel_rfl) hsm (by omega) pl M a w g1 g2 g3) fun k _=>?_
  refine⟨eW 8 [(0,.ls L),(2,.nils),(3,.ps L false),(4,.bool false),(5,.ps [] true),(6,.ls L),(7,.slice 4 0 0 L.length none)],by kernel_rfl,?_⟩
  refine ch.one (s':=⟨eW 8 [(0,.ls L),(2,.slice 4 0 0 L.length none),(3,.ps L false),(4,.bool false),(5,.ps [] true),(6,.ls L),(7,.slice 4 0 0 L.length none)],ab [a,b,c,d,.row 4 true 0 L]⟩) (ev 40) (by kernel_rfl) (ch.nil (au.ret ⟨fun id h=>(by grind),.slice 4 0 0 L.length none,by kernel_rfl,by kernel_rfl,by kernel_rfl⟩))
theorem cl5(ws:List PWord)(hl:ws.length≤2^20)(a b c d e:AObj):kD 110 [.ls (ws.map aQ)] (ab [a,b,c,d,e]) (.sl0 5 0 ws.length none) (ab [a,b,c,d,e,B6 ws]):=by
  by_cases hne:ws=[]
  · subst hne
    have hE:(ab [a,b,c,d,e]).push (B6 [])=ab [a,b,c,d,e,B6 []]:=by kernel_rfl
    have h:=aL.psh (o:=B6 []) (u:=.sl0 5 0 0 none) (rh [] (by omega) (ab [a,b,c,d,e])) EC
    simp_all
  have hn:ws.map aQ≠[]:=fun h=>hne (List.map_eq_nil_iff.1 h)
  have hf:=Vb ws
  have hsm:small (ws.map aQ).length 40=true:=by grind[aD]
  have hlen:ws.length=(ws.map aQ).length:=(bG ..).symm
  unfold B6
  rw[hlen]
  generalize ws.map aQ=L at hn hf hsm
  refine(aL.less (Ψ:=fun v h=>v=.slice 5 0 0 L.length none∧h=ab [a,b,c,d,e,.row 4 true 0 L]) ?_ fun v h ⟨h1,h2⟩=>⟨_,h1▸Le.sl0,rfl,h2⟩)
  refine aL.enter 2 (fn:=Tryz.f110) Tryz.func110 (by kernel_rfl) rfl ⟨by kernel_rfl,by kernel_rfl⟩ ?_
  refine au.seq (au.mono (D8 oK fz (ev 40) (s':=⟨eW 8 [(0,.ls L),(2,.nils)],ab [a,b,c,d,e]⟩) (.go 0 .fin) (by kernel_rfl)) ?_)
  rintro _ _ ⟨rfl,rfl⟩
  refine au.seq (au.seq (au.mono (yQ fz (ev 40) (Ψ:=fun s=>s=⟨eW 8 [(0,.ls L),(2,.nils),(3,.ps L false),(4,.bool false)],ab [a,b,c,d,e]⟩) (.go 0 (.nz 3 .abs (.go 0 .fin)))
    (W:=(L=[]→False)∧(⟨eW 8 [(0,.ls L),(2,.nils),(3,.ps L false),(4,.bool false)],ab [a,b,c,d,e]⟩:St)=⟨eW 8 [(0,.ls L),(2,.nils),(3,.ps L false),(4,.bool false)],ab [a,b,c,d,e]⟩) ⟨hn,rfl⟩ (by kernel_rfl)) ?_))
  rintro _ _ ⟨rfl,rfl⟩
  refine au.cond (t:=false) (by kernel_rfl) (fun h=>by grind) fun _=>au.skip ?_
  refine au.seq (au.region ?_)
  show ch _ _ _ _ [_,_,_,_] _ _
  refine ch.one (s':=⟨eW 8 [(0,.ls L),(2,.nils),(3,.ps L false),(4,.bool false),(5,.ps [] true)],ab [a,b,c,d,e]⟩) (ev 40) (by kernel_rfl) ?_
  refine ch.one (s':=⟨eW 8 [(0,.ls L),(2,.nils),(3,.ps L false),(4,.bool false),(5,.ps [] true),(6,.ls L)],ab [a,b,c,d,e]⟩) (ev 40) (by kernel_rfl) ?_
  refine rC (I:=fun k:Nat=>k=0) (r:=fun _=>.slice 5 0 0 L.length none) (H:=fun _=>ab [a,b,c,d,e,.row 4 true 0 L]) (by kernel_rfl)
    (fun pl M a w g1 g2 g3=>xd (z:=aQ ⟨[],0,0,0⟩) (z0:=aQ ⟨[],0,0,0⟩) (xs:=L) (t:=35) (tx:=35) (e:=102) (i:=E8) yt wa (by kernel_rfl) ⟨102,by kernel_rfl⟩ E7 (by kernel_rfl) (Le.refl _) (by kernel_rfl) (by kernel_rfl) hn hf (by kernel_rfl) hsm (by omega) pl M a w g1 g2 g3) fun k _=>?_
  refine⟨eW 8 [(0,.ls L),(2,.nils),(3,.ps L false),(4,.bool false),(5,.ps [] true),(6,.ls L),(7,.slice 5 0 0 L.length none)],by kernel_rfl,?_⟩
  refine ch.one (s':=⟨eW 8 [(0,.ls L),(2,.slice 5 0 0 L.length none),(3,.ps L false),(4,.bool false),(5,.ps [] true),(6,.ls L),(7,.slice 5 0 0 L.length none)],ab [a,b,c,d,e,.row 4 true 0 L]⟩) (ev 40) (by kernel_rfl) (ch.nil (au.ret ⟨fun id h=>(by grind),.slice 5 0 0 L.length none,by kernel_rfl,by kernel_rfl,by kernel_rfl⟩))
noncomputable abbrev Dn(u:TUnit)(k:AV):AV:=.agg [iV u.act,iV u.item,iV u.n,iV u.kind,.str u.label,.sl0 3 0 u.head.length none,.sl0 4 0 u.words.length none,k]
noncomputable abbrev UE(u:TUnit)(i j:Nat)(k:AV):AObj:=.row 8 false 0 [.agg [iV u.act,iV u.item,iV u.n,iV u.kind,.str u.label,.sl0 i 0 u.head.length none,.sl0 j 0 u.words.length none,k]]
theorem YN(u:TUnit)(hk:0<u.kids.length)(hn:nU u≤2^20)(ht:∀x,x∈bp u→x.head.length≤2^20∧x.words.length≤2^20):kC 77 [eU u] (ab [wc u,ww])
    (fun v h=>∃y:Nat×Nat×List TUnit,(y.2.1=u.kids.length∧y.2.2=u.kids)∧v=Dn u (.slice 5 y.1 0 y.2.1 none)∧h=ab [wc u,ww,UE u 3 4 (.slice 5 y.1 0 y.2.1 none),B6 u.head,B6 u.words,.row 8 true y.1 (y.2.2.map aY)]):=by
  have hkl:=bf u
  have c1:=(ht u (dz u)).1
  have c2:=(ht u (dz u)).2
  have ihk:∀k,k∈u.kids→kP 77 [eU k] (eU k):=fun k hk=>Hq k (b0 (tK (iz hk)) hn) (fun x hx=>⟨l0 (ht x (bA hk hx)).1 (by omega),l0 (ht x (bA hk hx)).2 (by omega)⟩)
  let q1:=[aj [iV u.act,iV u.item,iV u.n,iV u.kind,aV u.label,aW (u.head.map aQ),aW (u.words.map aQ),aW (u.kids.map aY)]];let q2:=[aj [iV 0,iV 0,iV 0,iV 0,aV [],ah,ah,ah]];let q3:=aX 8 false 0 q2;let q4:=aX 8 false 0 q1;let q5:=List.map aQ u.head;let q6:=aX 4 true 0 q5;exact qW Tryz.func77 fun a=>Mg 3<|M3 (.efx true (AV.sl0 4 0 u.head.length none)<|ab [aX 8 false 0 q1,aX 8 false 0 q2,aX 8 false 0 q1,aX 8 false 0 q2,aX 4 true 0 q5]) (xr rt rt rt rt ti) (xr (az<|some q3) (az<|some q4) (az<|some q3) (az<|some q4) ti) (cl4 u.head c1 q4 q3 q4 q3)<|Mg 1<|M3 (.efx true (AV.sl0 5 0 u.words.length none)<|ab [aX 8 false 0 q1,aX 8 false 0 q2,aX 8 false 0 q1,aX 8 false 0 q2,aX 4 true 0 q5,aX 4 true 0<|u.words.map aQ]) (yz (tR 4 true 0 5<|aZ iD u.head) rt rt rt rt ti) (yz (az<|some q6) (az<|some q3) (az<|some q4) (az<|some q3) (az<|some q4) ti) (cl5 u.words c2 q4 q3 q4 q3 q6)<|Kl 7 16 (ln aY u.kids)<|Mg 0<|kn Nat Nat (List TUnit) aY u.kids [1,2,3,15,16,17] (fun a _=>([bz 2 0 0 0,bz 3 0 0 0,ah,aW<|u.kids.map aY,nV u.kids.length,nV a],[aX 8 false 0 [aj [iV u.act,iV u.item,iV u.n,iV u.kind,aV u.label,aW<|u.head.map aQ,aW<|u.words.map aQ,aW<|u.kids.map aY]],aX 8 false 0 [aj [iV 0,iV 0,iV 0,iV 0,aV [],ah,ah,ah]],aX 8 false 0 [aj [iV u.act,iV u.item,iV u.n,iV u.kind,aV u.label,AV.sl0 4 0 u.head.length none,AV.sl0 5 0 u.words.length none,aW<|u.kids.map aY]],aX 8 false 0 [aj [iV 0,iV 0,iV 0,iV 0,aV [],ah,ah,ah]],aX 4 true 0<|u.head.map aQ,aX 4 true 0<|u.words.map aQ])) (fun a _ b c d=>([bz 2 0 0 0,bz 3 0 0 0,aM 6 b 0 c none,aW<|u.kids.map aY,nV u.kids.length,nV a],[aX 8 false 0 [aj [iV u.act,iV u.item,iV u.n,iV u.kind,aV u.label,aW<|u.head.map aQ,aW<|u.words.map aQ,aW<|u.kids.map aY]],aX 8 false 0 [aj [iV 0,iV 0,iV 0,iV 0,aV [],ah,ah,ah]],aX 8 false 0 [aj [iV u.act,iV u.item,iV u.n,iV u.kind,aV u.label,AV.sl0 4 0 u.head.length none,AV.sl0 5 0 u.words.length none,aW<|u.kids.map aY]],aX 8 false 0 [aj [iV 0,iV 0,iV 0,iV 0,aV [],ah,ah,ah]],aX 4 true 0<|u.head.map aQ,aX 4 true 0<|u.words.map aQ,aX 8 true b<|d.map aY])) (fun a=>a=u.kids) (fun a _ b c=>b=c.length∧(0:Nat)<c.length∧c++a=u.kids∧c.length+a.length=u.kids.length) (by rfl) (fun _ _ _ _ _ a _=>Kh 0 a<|Mg 4<|Mw .abs (sA:False)) (fun a _ _ b c d _ e f g _ i _=>have i:=(i).trans<|congrArg some<|aO c;have b:=cV (J:=fun a _=>a=u.kids) (a:=()) f b;Kt 0 g<|Mx i<|Kp 4 (ihk c gR)<|K1 1 (.obj 7<|aX 8 true 0<|List.map aY [c]) (congrArg (aX 8 true 0)<|To (f:=aY) (g:=Go.Ev.eU) (ws:=[c]) aO)<|Kl 1 26 (dU a)<|Mg 0<|Mw (.ren [0,1,2,3,4,5,7,6] [4,5,7] [1,2,3,15,16,17]<|.frz 7 [1,2,3,15,16,17] .fin)<|xr (tS 4 true 0<|aZ iD u.head) (tS 4 true 0<|aZ iD u.words) (tS 8 true 0<|aZ iZ [c]) (et8 (tR 8 true 0 7<|aZ iZ [c]) (tR 4 true 0 7<|aZ iD u.words) (tR 4 true 0 7<|aZ iD u.head) rt rt rt rt ti)<|e 0 1 [c]<|by(refine⟨rfl,by simp,?_,?_⟩<;>(rw[←b])<;>(first|rfl|grind))) (fun _ _ b c d _ _ _ e _=>Kh 0 e<|Mg 4<|Mw (.ren [0,1,3,4,5,6,2] [4,5,6] [2]<|.frz 6 [2] .fin)<|xr (tS 4 true 0<|aZ iD u.head) (tS 4 true 0<|aZ iD u.words) (tS 8 true b<|aZ iZ d) (Ni (tR 8 true b 6<|aZ iZ d) (tR 4 true 0 6<|aZ iD u.words) (tR 4 true 0 6<|aZ iD u.head) rt rt rt ti)<|a (b,c,d) sA) fun a _ b c d _ e f g _ i j l _ n _=>have n:=(n).trans<|congrArg some<|aO f;have e:=cV (J:=fun a b=>b.2.1=b.2.2.length∧(0:Nat)<b.2.2.length∧b.2.2++a=u.kids∧b.2.2.length+a.length=u.kids.length) (a:=(b,c,d)) j e;Kt 0 l<|Mx n<|Kp 4 (ihk f gR)<|K1 0 .app (cZ (az b) (sA:c=(d.map aY).length) (by(refine aD (m:=2^21) ?_ ?_ ?_<;>omega):small (c+1) 120=true))<|M1 (.obj 6<|aX 8 true (b+1)<|(d++[f]).map aY) (congrArg (aX 8 true<|b+1)<|yV (f:=aY) (g:=Go.Ev.eU) (l:=d) (ws:=[f]) aO)<|Kl 1 26 (dU a)<|K1 0 (.frz 7 [1,2,3,15,16,17]) (et8 (tR 8 true (b+1) 7<|aZ iZ<|d++[f]) (tR 4 true 0 7<|aZ iD u.words) (tR 4 true 0 7<|aZ iD u.head) rt rt rt rt ti)<|Mf<|i (b+1) (c+1) (d++[f])<|by(refine⟨by simp_all,by simp,?_,?_⟩<;>first|(rw[←e.2.2.1];simp;done)|grind)
theorem YO(u:TUnit)(hk:u.kids=[])(ht:∀x,x∈bp u→x.head.length≤2^20∧x.words.length≤2^20):kD 77 [eU u] (ab [wc u,ww]) (Dn u .nils) (ab [wc u,ww,UE u 3 4 .nils,B6 u.head,B6 u.words]):=by
  have c1:=(ht u (dz u)).1
  have c2:=(ht u (dz u)).2
  have hz:aF 0 (Int.ofNat u.kids.length)=false:=by rw[hk];rfl
  let q:=[aj [iV u.act,iV u.item,iV u.n,iV u.kind,aV u.label,aW (u.head.map aQ),aW (u.words.map aQ),aW (u.kids.map aY)]];let q1:=[aj [iV 0,iV 0,iV 0,iV 0,aV [],ah,ah,ah]];let q2:=[aX 8 false 0 q,aX 8 false 0 q1,aX 8 false 0 [aj [iV u.act,iV u.item,iV u.n,iV u.kind,aV u.label,AV.sl0 4 0 u.head.length none,AV.sl0 5 0 u.words.length none,aW (u.kids.map aY)]],aX 8 false 0 q1,aX 4 true 0 (u.head.map aQ),aX 4 true 0 (u.words.map aQ)];let q3:=aX 8 false 0 q1;let q4:=aX 8 false 0 q;let q5:=[bz 2 0 0 0,bz 3 0 0 0,ah,aW (u.kids.map aY),nV u.kids.length,iV 0];let q6:=List.map aQ u.head;let q7:=aX 4 true 0 q6;exact eS Tryz.func77 fun a=>Mg 3<|M3 (.efx true (AV.sl0 4 0 u.head.length none)<|ab [aX 8 false 0 q,aX 8 false 0 q1,aX 8 false 0 q,aX 8 false 0 q1,aX 4 true 0 q6]) (xr rt rt rt rt ti) (xr (az<|some q3) (az<|some q4) (az<|some q3) (az<|some q4) ti) (cl4 u.head c1 q4 q3 q4 q3)<|Mg 1<|M3 (.efx true (AV.sl0 5 0 u.words.length none)<|ab [aX 8 false 0 q,aX 8 false 0 q1,aX 8 false 0 q,aX 8 false 0 q1,aX 4 true 0 q6,aX 4 true 0<|u.words.map aQ]) (yz (tR 4 true 0 5<|aZ iD u.head) rt rt rt rt ti) (yz (az<|some q7) (az<|some q3) (az<|some q4) (az<|some q3) (az<|some q4) ti) (cl5 u.words c2 q4 q3 q4 q3 q7)<|Kl 7 16 (ln aY u.kids)<|Mg 0<|Zj [1,2,3,15,16,17] (q5,q2) True 0 ti fun _ _=>Kh 0 hz<|Mg 4<|M2 (.ren [0,1,3,4,5,2] [4,5] [2]) (tS 4 true 0<|aZ iD u.head) (tS 4 true 0<|aZ iD u.words)<|M1 (.frz 5 [2]) (yz (tR 4 true 0 5<|aZ iD u.words) (tR 4 true 0 5<|aZ iD u.head) rt rt rt ti)<|Mf a
noncomputable abbrev Ze(ep:Nat)(l:List TUnit):AObj:=.row 8 true ep (l.map aY)
theorem KO(u:TUnit){k k':AV}(h:Le k k')(h2:cP k=true):Le (Dn u k) (Dn u k'):=aT (.cons (Le.refl _) (.cons (Le.refl _) (.cons (Le.refl _) (.cons (Le.refl _) (.cons (Le.refl _) (.cons (Le.refl _) (.cons (Le.refl _) (.cons h .nil)))))))) (by simp only[List.all_cons,List.all_nil,h2];rfl)
theorem YM(u:TUnit)(hn:nU u≤2^20)(ht:∀x,x∈bp u→x.head.length≤2^20∧x.words.length≤2^20):kC 77 [eU u] (ab [wc u,ww])
    (fun v h=>∃ep:Nat,True∧v=Dn u (.sl0 5 ep u.kids.length none)∧h=ab [wc u,ww,.dead,B6 u.head,B6 u.words,Ze ep u.kids]):=by
  rcases Nat.eq_zero_or_pos u.kids.length with hk|hk
  · have hk:=List.length_eq_zero_iff.1 hk
    refine aL.dead (i:=2) (Jm (Ψ':=fun v h=>v=Dn u (.sl0 5 0 0 none)∧h=ab [wc u,ww,UE u 3 4 .nils,B6 u.head,B6 u.words,Ze 0 u.kids]) (Ze 0 u.kids) (YO u hk ht) fun v h' ⟨h1,h2⟩=>⟨Dn u (.sl0 5 0 0 none),h1▸KO u Le.sl0n rfl,rfl,?_⟩) (ao 2) (by omega) fun v h' ⟨h1,h2⟩=>⟨0,trivial,by simp_all,?_⟩
    · rw[h2];kernel_rfl
    · rw[h2];kernel_rfl
  · refine aL.dead (i:=2) (aL.less (Ψ':=fun v h=>∃ep:Nat,v=Dn u (.sl0 5 ep u.kids.length none)∧h=ab [wc u,ww,UE u 3 4 (.slice 5 ep 0 u.kids.length none),B6 u.head,B6 u.words,Ze ep u.kids]) (YN u hk hn ht) fun v h' ⟨y,⟨e1,e2⟩,h1,h2⟩=>⟨Dn u (.sl0 5 y.1 u.kids.length none),?_,y.1,rfl,?_⟩) (ao 2) (by omega) fun v h' ⟨ep,h1,h2⟩=>⟨ep,trivial,h1,?_⟩
    · rw[h1,e1];exact KO u Le.sl0 rfl
    · simp_all
    · rw[h2];kernel_rfl
/-- The first 'i' elements changed by 'f'. -/
def ke{α:Type}(f:α→α)(l:List α)(i:Nat):List α:=(l.take i).map f++l.drop i
theorem vD{α:Type}{f:α→α}{l:List α}{i:Nat}:(ke f l i).length=l.length:=by
  grind[ke]
theorem vE{α:Type}{f:α→α}{l:List α}{i:Nat}(h:l.length≤i):ke f l i=l.map f:=by
  grind[ke,List.take_of_length_le]
theorem zu{α:Type}[Inhabited α]{f:α→α}{l:List α}{i:Nat}(h:i<l.length):gD (ke f l i) i=gD l i:=by
  have e:((l.take i).map f).length=i:=by grind
  simp_all[ke,gD,pm]
theorem Cp{α:Type}[Inhabited α]{f:α→α}{l:List α}{i:Nat}(h:i<l.length):(ke f l i).set i (f (gD l i))=ke f l (i+1):=by
  have e:((l.take i).map f).length=i:=by grind
  have hg:gD l i=l[i]:=by unfold gD;simp_all
  unfold ke
  rw[List.set_append_right _ _ (by omega),e,Nat.sub_self,hg,Ox h,List.set_cons_zero,Oj h,lP,nY]
  rfl
theorem zt{l:List PWord}{i:Nat}(h:i<l.length):(ke gI l i).set i ⟨(gD (ke gI l i) i).text,0,0,0⟩=ke gI l (i+1):=by
  rw[zu h];exact Cp h
theorem OO:∀u:TUnit,nU u≤2^20→(∀x,x∈bp u→x.head.length≤2^20∧x.words.length≤2^20)→kP 283 [eU u] (eU (cO u)):=by
  refine TUnit.ind fun u ih hn ht=>?_
  have hkl:=bf u
  have c1:=(ht u (dz u)).1
  have c2:=(ht u (dz u)).2
  have hc:=YM u hn ht
  have ihk:∀k,k∈u.kids→kP 283 [eU k] (eU (cO k)):=fun k hk=>ih k hk (b0 (tK (iz hk)) hn) (fun x hx=>ht x (bA hk hx))
  rw[mU]
  have rr0 b' (h:(List.map aQ (TUnit.mk 0 0 0 u.kind u.label (u.head.map gI) (u.words.map gI) (u.kids.map cO)).head)=b':=by(rw[hx1.2,vE (by(simp only[oN]at *;omega))];rfl)):=h;have rr1 b' (h:(List.map aQ (TUnit.mk 0 0 0 u.kind u.label (u.head.map gI) (u.words.map gI) (u.kids.map cO)).words)=b':=by(rw[hx2.2,vE (by(simp only[oN]at *;omega))];rfl)):=h;have rr2 b' (h:(List.map aY (TUnit.mk 0 0 0 u.kind u.label (u.head.map gI) (u.words.map gI) (u.kids.map cO)).kids)=b':=by(rw[hx3.2,vE (by(simp only[oN]at *;omega))];rfl)):=h;exact bD Tryz.func283<|Mg 2<|Mq hc fun a _=>Mg 10<|M0 (.un 2)<|Mg 7<|LC (0:Nat) u.head [1,2,4,15,16,17,22,23] (fun b c=>([bz 0 0 0 0,bz 1 0 0 0,AV.sl0 3 0 u.head.length none,jJ [AV.sl0 3 0 u.head.length none,AV.sl0 4 0 u.words.length none] true,iV 2,iV 0,nV u.head.length,nV b],[aX 8 false 0 [aj [iV 0,iV 0,iV 0,iV u.kind,aV u.label,AV.sl0 3 0 u.head.length none,AV.sl0 4 0 u.words.length none,AV.sl0 5 a u.kids.length none]],aX 8 false 0 [aj [iV 0,iV 0,iV 0,iV 0,aV [],ah,ah,ah]],AObj.dead,aX 4 true 0<|c.map aQ,aX 4 true 0<|u.words.map aQ,aX 8 true a<|u.kids.map aY])) (fun a b=>a≤u.head.length∧b=ke gI u.head a) (fun a _=>u.head.length-a) (by exact⟨bM _,rfl⟩) fun b c hx1 d=>have hx1:b≤u.head.length∧c=ke gI u.head b:=hx1;have:c.length=u.head.length:=(by grind[vD]);Ka 0 (Int.ofNat b) (Int.ofNat u.head.length) (fun _ _=>K1 4 .rix (et (az 0) (sA:b<u.head.length))<|K1 0 (.rst (aQ<|gD c b)<|(c.set b<|PWord.mk (gD c b).text 0 0 0).map aQ) (cZ (az 0) (bK aQ (sA:b<(c).length))<|j7 (f:=aQ) (l:=c) (i:=b) (w:=PWord.mk (gD c b).text 0 0 0))<|Kl 0 31 (jq b)<|Kf 0<|d (b+1) (c.set b<|PWord.mk (gD c b).text 0 0 0) (by grind[zt]) gR) fun _ _=>Mg 9<|LC (0:Nat) u.words [1,2,4,15,16,17,22,23] (fun b d=>([bz 0 0 0 0,bz 1 0 0 0,AV.sl0 4 0 u.words.length none,jJ [AV.sl0 3 0 u.head.length none,AV.sl0 4 0 u.words.length none] true,iV 2,iV 1,nV u.words.length,nV b],[aX 8 false 0 [aj [iV 0,iV 0,iV 0,iV u.kind,aV u.label,AV.sl0 3 0 u.head.length none,AV.sl0 4 0 u.words.length none,AV.sl0 5 a u.kids.length none]],aX 8 false 0 [aj [iV 0,iV 0,iV 0,iV 0,aV [],ah,ah,ah]],AObj.dead,aX 4 true 0<|c.map aQ,aX 4 true 0<|d.map aQ,aX 8 true a<|u.kids.map aY])) (fun a b=>a≤u.words.length∧b=ke gI u.words a) (fun a _=>u.words.length-a) (by exact⟨bM _,rfl⟩) fun b d hx2 e=>have hx2:b≤u.words.length∧d=ke gI u.words b:=hx2;have:d.length=u.words.length:=(by grind[vD]);Ka 0 (Int.ofNat b) (Int.ofNat u.words.length) (fun _ _=>K1 4 .rix (et (az 0) (sA:b<u.words.length))<|K1 0 (.rst (aQ<|gD d b)<|(d.set b<|PWord.mk (gD d b).text 0 0 0).map aQ) (cZ (az 0) (bK aQ (sA:b<(d).length))<|j7 (f:=aQ) (l:=d) (i:=b) (w:=PWord.mk (gD d b).text 0 0 0))<|Kl 0 31 (jq b)<|Kf 0<|e (b+1) (d.set b<|PWord.mk (gD d b).text 0 0 0) (by grind[zt]) gR) fun _ _=>Mg 7<|LC (0:Nat) u.kids [1,2,35,36] (fun b e=>([bz 0 0 0 0,bz 1 0 0 0,nV u.kids.length,nV b],[aX 8 false 0 [aj [iV 0,iV 0,iV 0,iV u.kind,aV u.label,AV.sl0 3 0 u.head.length none,AV.sl0 4 0 u.words.length none,AV.sl0 5 a u.kids.length none]],aX 8 false 0 [aj [iV 0,iV 0,iV 0,iV 0,aV [],ah,ah,ah]],AObj.dead,aX 4 true 0<|c.map aQ,aX 4 true 0<|d.map aQ,aX 8 true a<|e.map aY])) (fun a b=>a≤u.kids.length∧b=ke cO u.kids a) (fun a _=>u.kids.length-a) (by exact⟨bM _,rfl⟩) fun b e hx3 f=>have hx3:b≤u.kids.length∧e=ke cO u.kids b:=hx3;have:e.length=u.kids.length:=(by grind[vD]);have g:b<u.kids.length→kP (283:FuncId) [eU (gD e b)] (eU (cO (gD e b))):=fun h=>ihk _ (by grind[zu,iC]);Ka 0 (Int.ofNat b) (Int.ofNat u.kids.length) (fun _ _=>K1 7 .rix (et (az a) (sA:b<u.kids.length))<|Mr (et (az a)<|rY aY (g:=Go.Ev.eU) aO (sA:b<(e).length))<|Mp (g sA)<|M1 .rix (et (az a) (sA:b<u.kids.length))<|M3 (.rst (aj [iV (gD e b).act,iV (gD e b).item,iV (gD e b).n,iV (gD e b).kind,aV (gD e b).label,aW<|List.map aQ (gD e b).head,aW<|List.map aQ (gD e b).words,aW<|List.map aY (gD e b).kids])<|(e.set b<|cO<|gD e b).map aY) rt (g0 (tR 8 true a 6<|aZ iZ e) rt) (cZ (az a) (rY aY (g:=Go.Ev.eU) aO (sA:b<(e).length))<|Dg (f:=aY) (g:=Go.Ev.eU) aO (l:=e) (i:=b) (w:=cO<|gD e b))<|Kl 0 49 (jq b)<|Kf 0<|f (b+1) (e.set b<|cO<|gD e b) (by grind[zu,Cp]) gR) fun _ _=>M2 (.fza 0 7 5 [1,2]<|e.map aY) (yz (tR 4 true 0 5<|aZ iD d) (tR 4 true 0 5<|aZ iD c) rt rt rt ti) (cZ (az a) (tA aY e u.kids.length (oA:(e).length=u.kids.length))<|aZ iZ e)<|M2 (.fza 0 6 4 [1,2]<|d.map aQ) (xr (tR 4 true 0 4<|aZ iD c) rt rt rt ti) (cZ (az 0) (tA aQ d u.words.length (oA:(d).length=u.words.length))<|aZ iD d)<|M2 (.fza 0 5 3 [1,2]<|c.map aQ) (jX rt rt rt ti) (cZ (az 0) (tA aQ c u.head.length (oA:(c).length=u.head.length))<|aZ iD c)<|Kf 1 (aT (lc<|lc<|lc<|lc<|lc<|.cons (bR<|rr0<|c.map aQ)<|.cons (bR<|rr1<|d.map aQ)<|.cons (bR<|rr2<|e.map aY) .nil)<|by kernel_rfl:Le _ (AV.agg [iV 0,iV 0,iV 0,iV u.kind,AV.str u.label,AV.ls (c.map aQ),AV.ls (d.map aQ),AV.ls (e.map aY)]))
theorem P8:Go.Proofs.Builder.Extra Tryz.prog Tryz.ljoin_ren:=by
  repeat' (first|kernel_rfl|(intro w;kernel_rfl)|decide|constructor)
theorem TC(l:List aP)(sep:aP)(h1:l.length≤140737488355328)(h2:(Lib.join l sep).length≤140737488355328):kP 259 [.ls (l.map mT),.str sep] (.str (Lib.join l sep)):=NK (Go.Proofs.enters_of Tryz.func259 (by kernel_rfl) rfl) (fun a b c d e f g h i j k=>Go.Proofs.Any.strings_Join Go.Proofs.Tryz.ljoin P8 a b c d e f g h i j k) (fun a b c d=>Go.Proofs.Any.strings_Join_none Go.Proofs.Tryz.ljoin P8 a b c d) l sep h1 h2
theorem Yn:Go.Proofs.Builder.Extra Tryz.prog Tryz.lrep_ren:=by
  repeat' (first|kernel_rfl|(intro w;kernel_rfl)|decide|constructor)
theorem V4(s:aP)(c:Nat)(h1:c≤9223372036854775807)(h2:s.length*c≤140737488355328):kP 300 [.str s,nV c] (.str (Lib.repeatL s c)):=Fl (Go.Proofs.enters_of Tryz.func300 (by kernel_rfl) rfl) (fun a b d e f=>Go.Proofs.Any.strings_Repeat Go.Proofs.Tryz.lrep Yn a b d e f) s c h1 h2
theorem Pw(s:aP)(ws:List PWord)(hw:∀w,w∈ws→1≤w.text.length∧w.text.length≤24)(hb:s.length+26*ws.length≤2^40)(hn:ws.length≤2^20):kP 302 [.str s,.ls (ws.map aQ)] (.str (lL s ws)):=by
  have rr0 b' (h:(lL s ws)=b':=by first|rfl|(exact hj0.1.symm)):=h;exact bD Tryz.func302<|Kl 2 8 (ln aQ ws)<|Mg 0<|Sy (0:Nat) ws s [0,7,8,9] (fun a _ b=>([aV b,aW<|ws.map aQ,nV ws.length,nV a],[])) (fun a b c=>(ws).drop a=b∧lL c b=lL s ws∧List.length c+26*b.length≤2^40) (fun _ a _=>a.length) (et rfl<|by first|rfl|(first|simp_all|(refine⟨by(rw[←hj0.1,og];first|rw[EA h1]|rw[Eu h1 h2]|rw[Et h1 h2]),?_⟩;have q:=hj0.2;simp only[lA,lC,lN]at *;omega))) fun a b c d e=>Mc b (fun a=>have b:=eB d.1 a;have hj0:=gx (J:=fun a b=>lL b a=lL s ws∧List.length b+26*a.length≤2^40) (a:=c) a d.2;Kh 0 b<|Kf 1<|Le.str<|rr0 c) fun b f g=>let i:=[aX 4 false 0 [aj [aV b.text,iV b.act,iV b.item,iV b.at_]]];have j:=eT d.1 g;have:=aA j;have k:=eA (enc:=aQ) d.1 g;have hj0:=cV (J:=fun a b=>lL b a=lL s ws∧List.length b+26*a.length≤2^40) (a:=c) g d.2;have:=hw b<|bQ d.1 g;Kt 0 j<|Mx k<|Kv 3 (iS (s:=c) (u:=[32]) (H:=ab i) (by(first|first|assumption|omega|grind):(c).length+([32]).length≤2^62))<|K1 2 (.chr<|gD b.text 0) (zc (by first|omega|(simp only[oN,lM,lS]at *;omega)|(simp only[oN,lM,lS,lA,lR,lC,lN]at * <;>omega):0<(b.text).length))<|Kj 1 (Int.ofNat (gD b.text 0).toNat) 124 (fun j _=>Mt j<|Mt j<|Mt j<|MV j<|Kv 1 (iS (s:=c++[32]) (u:=[92]) (H:=ab i) (by(first|first|assumption|omega|grind):(c++[32]).length+([92]).length≤2^62))<|Kv 3 (iS (s:=c++[32]++[92]) (u:=b.text) (H:=ab i) (by(first|first|assumption|omega|grind):(c++[32]++[92]).length+(b.text).length≤2^62))<|Kl 1 31 (dU a)<|K1 0 (.frz 0 [0,7,8,9]) ti<|Mf<|e (a+1) f (c++[32]++[92]++b.text) (et (bW d.1 g)<|by first|exact⟨rfl,hb⟩|(refine⟨by(rw[←hj0.1,og];first|rw[EA j]|rw[Eu j h2]|rw[Et j h2]),?_⟩;grind))<|dh g) fun j _=>Kh 0 j<|Kh 0 j<|M1 (.chr<|gD b.text 0) (zc (by first|omega|(simp only[oN,lM,lS]at *;omega)|(simp only[oN,lM,lS,lA,lR,lC,lN]at * <;>omega):0<(b.text).length))<|Mh j<|Kw 0 j<|Mb (al (Int.ofNat (gD b.text 0).toNat) 92) (fun k=>have:=jy k;Kv 0 (iS (s:=c++[32]) (u:=[92]) (H:=ab i) (by(first|first|assumption|omega|grind):(c++[32]).length+([92]).length≤2^62))<|Kv 3 (iS (s:=c++[32]++[92]) (u:=b.text) (H:=ab i) (by(first|first|assumption|omega|grind):(c++[32]++[92]).length+(b.text).length≤2^62))<|Kl 1 31 (dU a)<|K1 0 (.frz 0 [0,7,8,9]) ti<|Mf<|e (a+1) f (c++[32]++[92]++b.text) (et (bW d.1 g)<|by first|exact⟨rfl,hb⟩|(refine⟨by(rw[←hj0.1,og];first|rw[EA j]|grind[Eu]|rw[Et j k]),?_⟩;grind))<|dh g) fun k=>have:=GT k;Kv 2 (iS (s:=c++[32]) (u:=b.text) (H:=ab i) (by(first|first|assumption|omega|grind):(c++[32]).length+(b.text).length≤2^62))<|Kl 1 31 (dU a)<|K1 0 (.frz 0 [0,7,8,9]) ti<|Mf<|e (a+1) f (c++[32]++b.text) (et (bW d.1 g)<|by first|exact⟨rfl,hb⟩|(refine⟨by(rw[←hj0.1,og];first|rw[EA j]|rw[Eu j k]|grind[Et]),?_⟩;grind))<|dh g
theorem sd{u:TUnit}(h:mh u):mh (cO u):=by
  obtain⟨h1,h2⟩:=L0 u
  refine⟨by rw[h1];exact h.1,fun x hx=>?_⟩
  obtain⟨y,hy,rfl⟩:=h2 x hx
  obtain⟨a,b,c,d,e⟩:=h.2 y hy
  rw[mU]
  refine⟨by grind[TUnit.head],by grind[TUnit.words],c,fun w hw=>?_,fun w hw=>?_⟩
  · obtain⟨v,hv,rfl⟩:=ka.1 hw;exact d v hv
  · obtain⟨v,hv,rfl⟩:=ka.1 hw;exact e v hv
theorem CX{u:TUnit}(h:rT u):mh (ta u):=by
  have e:bp (ta u)=[ta u]:=by rw[da];exact congrArg _ fT
  refine⟨by rw[jQ];exact b0 (tV (congrArg (1+ ·) mX)) (by omega),fun x hx=>?_⟩
  rw[e]at hx
  rw[pR.1 hx];exact h
theorem Dy(u:TUnit)(h:mh u):kP 283 [eU u] (eU (cO u)):=
  OO u (b0 h.1 (by omega)) fun x hx=>⟨b0 (h.2 x hx).1 (by omega),b0 (h.2 x hx).2.1 (by omega)⟩
theorem P6(u:TUnit)(d:Nat)(hd:d≤2^20)(h:rT u):kP 299 [eU u,nV d] (.bool (DL u d)):=by
  have h1:=Dy (ta u) (CX h)
  have h2:=xH (cO (ta u)) (sd (CX h))
  have hz:=WU d
  have rr0 b' (h:(DL u d)=b':=by first|rfl|(unfold DL;simp only[aS,aw,bS, *];done)):=h;exact bD Tryz.func299<|Kn 13 (aF 8<|Int.ofNat d) (fun a=>Kt 0 (bF a)<|Mp (ar.onArgs (.cons (aT (lc<|lc<|lc<|lc<|lc<|lc<|lc<|.cons bN .nil)<|by kernel_rfl) .nil) h1:kP 283 [aj [iV 0,iV 0,iV 0,iV u.kind,aV u.label,aW (u.head.map aQ),aW (u.words.map aQ),ah]] _)<|Mt (bF a)<|Mp h2<|MV (bF a)<|Kf 0<|cn<|rr0<|ku<|cO<|ta u) fun a=>Mh (bB a)<|Mh (bB a)<|My (bB a)<|Ky 0<|rr0 false
theorem We(u:TUnit)(d:Nat)(hd:d≤2^20)(h:rT u)(hm:DL u d=false):kP 285 [eU u,nV d] (.str (gK u d)):=by
  have h1:=P6 u d hd h
  rw[hm]at h1
  have e:gK u d=[]:=by unfold gK;simp_all
  rw[e]
  exact bD Tryz.func285<|Kp 3 h1<|Kf 2<|bZ<|aV []
def NJ(u:TUnit)(d:Nat)(z18:aP):Prop:=(z18=bif aw (al u.kind (0:Int))then Lib.repeatL [(32:UInt8),(32:UInt8)] d++dX u.kind++([(32:UInt8)]++u.label)else Lib.repeatL [(32:UInt8),(32:UInt8)] d++dX u.kind)∧List.length z18≤(40:Nat)
noncomputable def NW(u:TUnit)(d:Nat)(z18:aP):List AV×List AObj:=([AV.ptr 0 0 0 0,AV.str z18],[AObj.row 8 false 0 [AV.agg [iV u.act,iV u.item,iV u.n,iV u.kind,AV.str u.label,AV.ls (u.head.map aQ),AV.ls (u.words.map aQ),AV.ls (u.kids.map aY)]]])
def NX(u:TUnit)(z18:aP)(z27:aP):Prop:=(z27=bif aF (0:Int) (Int.ofNat u.head.length)then lL (z18++[(58:UInt8)]) u.head else z18)∧List.length z27≤(6700:Nat)
noncomputable def NZ(u:TUnit)(z18:aP)(z27:aP):List AV×List AObj:=([AV.ptr 0 0 0 0,AV.str z27],[AObj.row 8 false 0 [AV.agg [iV u.act,iV u.item,iV u.n,iV u.kind,AV.str u.label,AV.ls (u.head.map aQ),AV.ls (u.words.map aQ),AV.ls (u.kids.map aY)]]])
theorem Wd(u:TUnit)(d:Nat)(hd:d≤2^20)(h:rT u)(hm:DL u d=true):kP 285 [eU u,nV d] (.str (gK u d)):=by
  have h1:=P6 u d hd h
  obtain⟨hd8,hlb,⟨hh1,hh2⟩,hw1,hw2⟩:=KG hm
  have hrl:=Lib.repeatL_length [32,32] d
  simp only[lC,lN]at hrl
  have h2:=V4 [32,32] d (by omega) (by grind)
  have hk:=wM u.kind
  have hkl:=zN u.kind
  have hp1:∀s:aP,s.length≤2^14→kP 302 [.str s,.ls (u.head.map aQ)] (.str (lL s u.head)):=fun s hs=>Pw s u.head hh2 (by omega) (by omega)
  have hp2:∀s:aP,s.length≤2^14→kP 302 [.str s,.ls (u.words.map aQ)] (.str (lL s u.words)):=fun s hs=>Pw s u.words hw2 (by omega) (by omega)
  rw[hm]at h1
  have rr0 b' (h:(gK u d)=b':=by first|rfl|(unfold gK;rw[hm];simp only[aw,cond_false];rw[←hz18.1,←hz27.1];first|(rw[h3];rfl)|(rw[h4];rfl)|(rw[h5];rfl)|(rw[h6];rfl)|(rw[h7];rfl))):=h;let q1:=[aX 8 false 0 [aj [iV u.act,iV u.item,iV u.n,iV u.kind,aV u.label,aW (u.head.map aQ),aW (u.words.map aQ),aW (u.kids.map aY)]]];exact bD Tryz.func285<|Kp 3 h1<|Kp 2 h2<|Kp 1 hk<|Mv (iS (s:=Lib.repeatL [32,32] d) (u:=dX u.kind) (H:=AHeap.mk 1000000 Tr.nil) (by(first|first|assumption|((try simp only[lA,lC,lN]);omega)|(simp only[lA,lC,lN]at *;omega)):(Lib.repeatL [32,32] d).length+(dX u.kind).length≤2^62))<|Mg 0<|Mj aP [2,5] (NW u d) (NJ u d) (fun a=>Kn 2 (al u.kind 0) (fun _=>Kv 2 (iS (s:=[32]) (u:=u.label) (H:=ab q1) (by(first|first|assumption|((try simp only[lA,lC,lN]);omega)|(simp only[lA,lC,lN]at *;omega)):([32]).length+(u.label).length≤2^62))<|Mv (iS (s:=Lib.repeatL [32,32] d++dX u.kind) (u:=32::u.label) (H:=ab q1) (by(first|first|assumption|((try simp only[lA,lC,lN]);omega)|(simp only[lA,lC,lN]at *;omega)):(Lib.repeatL [32,32] d++dX u.kind).length+(32::u.label).length≤2^62))<|Kf 0<|a (Lib.repeatL [32,32] d++dX u.kind++32::u.label) (by(refine⟨by first|simp_all|(rw[h2];rfl)|(rw[h3];rfl)|(rw[h0];rfl),?_⟩;grind):(Lib.repeatL [(32:UInt8),(32:UInt8)] d++dX u.kind++(32:UInt8)::u.label=bif aw (al u.kind (0:Int))then Lib.repeatL [(32:UInt8),(32:UInt8)] d++dX u.kind++([(32:UInt8)]++u.label)else Lib.repeatL [(32:UInt8),(32:UInt8)] d++dX u.kind)∧(Lib.repeatL [(32:UInt8),(32:UInt8)] d++dX u.kind++(32:UInt8)::u.label).length≤40)) fun _=>Mf<|a (Lib.repeatL [32,32] d++dX u.kind) (by(refine⟨by first|simp_all|(rw[h2];rfl)|(rw[h3];rfl)|(rw[h0];rfl),?_⟩;grind):(Lib.repeatL [(32:UInt8),(32:UInt8)] d++dX u.kind=bif aw (al u.kind (0:Int))then Lib.repeatL [(32:UInt8),(32:UInt8)] d++dX u.kind++([(32:UInt8)]++u.label)else Lib.repeatL [(32:UInt8),(32:UInt8)] d++dX u.kind)∧(Lib.repeatL [(32:UInt8),(32:UInt8)] d++dX u.kind).length≤40)) fun a hz18=>have hz18:(a=bif aw (al u.kind (0:Int))then Lib.repeatL [(32:UInt8),(32:UInt8)] d++dX u.kind++([(32:UInt8)]++u.label)else Lib.repeatL [(32:UInt8),(32:UInt8)] d++dX u.kind)∧List.length a≤40:=hz18;Mj aP [2,5] (NZ u a) (NX u a) (fun b=>Kl 2 26 (ln aQ u.head)<|Kb 0 (aF 0<|Int.ofNat u.head.length) (fun h3=>Kv 0 (iS (s:=a) (u:=[58]) (H:=ab q1) (by(first|first|assumption|((try simp only[lA,lC,lN]);omega)|(simp only[lA,lC,lN]at *;omega)):(a).length+([58]).length≤2^62))<|Kp 1 (hp1 (a++[58])<|by first|assumption|((try simp only[lA,lC,lN]);omega))<|Kf 0<|b (lL (a++[58]) u.head) (by(refine⟨by first|simp_all|(rw[h2];rfl)|(rw[h4];rfl)|(rw[h5];rfl),?_⟩;first|omega|(have q:=vZ (fun w hw=>(hh2 w hw).2) (a++[58]);grind)):(lL (a++[(58:UInt8)]) u.head=bif aF (0:Int) (Int.ofNat u.head.length)then lL (a++[(58:UInt8)]) u.head else a)∧List.length (lL (a++[(58:UInt8)]) u.head)≤6700)) fun h3=>Mf<|b a (by(refine⟨by first|simp_all|(rw[h2];rfl)|(rw[h4];rfl)|(rw[h5];rfl),?_⟩;first|omega|(have q:=vZ (fun w hw=>(hh2 w hw).2) (a++[58]);simp only[lA,lC,lN]at q;omega)):(a=bif aF (0:Int) (Int.ofNat u.head.length)then lL (a++[(58:UInt8)]) u.head else a)∧List.length a≤6700)) fun b hz27=>have hz27:(b=bif aF (0:Int) (Int.ofNat u.head.length)then lL (a++[(58:UInt8)]) u.head else a)∧List.length b≤6700:=hz27;Kl 2 35 (ln aQ u.words)<|Kb 0 (aF 0<|Int.ofNat u.words.length) (fun h4=>Kv 0 (iS (s:=b) (u:=[32,124]) (H:=ab q1) (by(first|first|assumption|((try simp only[lA,lC,lN]);omega)|(simp only[lA,lC,lN]at *;omega)):(b).length+([32,124]).length≤2^62))<|Kp 1 (hp2 (b++[32,124])<|by first|assumption|((try simp only[lA,lC,lN]);omega))<|Kf 2<|Le.str<|rr0<|lL (b++[32,124]) u.words) fun h4=>Kf 1<|Le.str<|rr0 b
theorem KN(u:TUnit)(d:Nat)(hd:d≤2^20)(h:rT u):kP 285 [eU u,nV d] (.str (gK u d)):=by
  grind[We,Wd]
noncomputable abbrev Hh(ep n:Nat):AObj:=.row 1 false 0 [.slice 2 ep 0 n none]
noncomputable abbrev Eg:AObj:=.row 1 false 0 [.func (.func 284) [] [.ptr 0 0 0 0,.ptr 1 0 0 0]]
noncomputable abbrev FX(ep:Nat)(l:List aP):AObj:=.row 1 true ep (l.map mT)
def sM(u:TUnit)(d:Nat)(l:List aP)(x0:Nat×List TUnit×Nat×Nat×List aP):Prop:=(u.kids).drop x0.1=x0.2.1∧x0.2.2.2.1=x0.2.2.2.2.length∧x0.2.2.2.2++dK (d+(1:Nat)) x0.2.1=l++[gK u d]++dK (d+(1:Nat)) u.kids∧x0.2.2.2.2.length+eJ x0.2.1≤2^20
noncomputable def sL(u:TUnit)(d:Nat)(l:List aP)(x0:Nat×List TUnit×Nat×Nat×List aP):List AV×List AObj:=([nV d,AV.ptr 1 0 0 0,AV.ls (u.kids.map aY),nV u.kids.length,nV x0.1],[AObj.row 1 false 0 [AV.slice 2 x0.2.2.1 0 x0.2.2.2.1 none],AObj.row 1 false 0 [AV.func (Fn.func 284) [] [AV.ptr 0 0 0 0,AV.ptr 1 0 0 0]],AObj.row 1 true x0.2.2.1 (x0.2.2.2.2.map mT)])
theorem Yo:∀(u:TUnit)(d ep n:Nat)(l:List aP),n=l.length→l.length+nU u≤2^20→d+nU u≤2^20→(∀x,x∈bp u→rT x)→kC 284 [eU u,nV d,.ptr 0 0 0 0,.ptr 1 0 0 0] (ab [Hh ep n,Eg,FX ep l])
    (fun v h=>∃y:Nat×Nat×List aP,(y.2.1=y.2.2.length∧y.2.2=l++eV d u)∧v=.tuple []∧h=ab [Hh y.1 y.2.1,Eg,FX y.1 y.2.2]):=by
  refine TUnit.ind fun u ih d ep n l hn hl hd ht=>?_
  have hq:=jQ u
  have hkl:=bf u
  have hf:=KN u d (by omega) (ht u (dz u))
  have ihk:∀k,k∈u.kids→∀(d ep n:Nat)(l:List aP),n=l.length→l.length+nU k≤2^20→d+nU k≤2^20→kC 284 [eU k,nV d,.ptr 0 0 0 0,.ptr 1 0 0 0] (ab [Hh ep n,Eg,FX ep l])
    (fun v h=>∃y:Nat×Nat×List aP,(y.2.1=y.2.2.length∧y.2.2=l++eV d k)∧v=.tuple []∧h=ab [Hh y.1 y.2.1,Eg,FX y.1 y.2.2]):=fun k hk d ep n l a b c=>ih k hk d ep n l a b c (fun x hx=>ht x (bA hk hx))
  exact qW Tryz.func284 fun e=>Kp 3 hf<|Mg 0<|Mw (.apx ((l++[gK u d]).map mT)<|.go 3<|.le 16 (nV u.kids.length)<|.go 0<|.frz 3 [1,3,15,16,17]<|.loop (Nat×List TUnit×Nat×Nat×List aP) [1,3,15,16,17] (sL u d l) (sM u d l) (fun e=>e.2.1.length) (0,u.kids,(ep+1,n+1,l++[gK u d])) fun e=>.cs TUnit e.2.1 (.go 0<|.ff .fin) fun f _=>.go 0<|.tt<|.elem (eU f)<|.go 6<|.le 24 (nV<|d+1)<|.frz 3 [1,3,15,16,17,21,22,24]<|.eff (Nat×Nat×List aP) (fun _=>eb []) (fun e=>ab [Hh e.1 e.2.1,Eg,FX e.1 e.2.2]) (fun g=>g.2.1=g.2.2.length∧g.2.2=e.2.2.2.2++eV (d+1) f) fun _=>.go 0<|.le 26 (nV<|e.1+1)<|.go 0 .fin)<|et9 rt (g0 (tR 1 true ep 4<|aZ JU l) rt) (et (nT _ _:([aV (gK u d)]:List AV)≠[]) rt) (et (cZ (az ep) (by first|assumption|omega|simp_all|(refine aD (m:=2^31) ?_ ?_ ?_<;>(try simp only[lM,lC,lN])<;>omega):n=(l.map mT).length) (by first|assumption|omega|(simp only[lM];omega)|(refine aD (m:=2^31) ?_ ?_ ?_<;>(try simp only[lM,lC,lN])<;>omega):small (n+([AV.str (gK u d)]).length) 16=true))<|cS (f:=mT) (l:=l) (ws:=[gK u d])) (ln aY u.kids) (jX (tR 1 true (ep+1) 3<|aZ JU<|l++[gK u d]) rt rt ti) (az<|sL u d l (0,u.kids,(ep+1,n+1,l++[gK u d]))) (et (rfl:List.drop 0 (u.kids)=u.kids) (by first|rfl|(first|grind|(have h1:=hj0.2.1;have h2:=hj0.2.2;rw[bh]at h2;rw[mW]at h1;exact⟨hy1.1,(by rw[hy1.2,←h1];simp),(by rw[hy1.2,lA,kF];omega)⟩)):(n+1=(l++[gK u d]).length∧l++[gK u d]++dK (d+1) u.kids=l++[gK u d]++dK (d+1) u.kids∧(l++[gK u d]).length+eJ u.kids≤2^20))) fun(f:Nat×List TUnit×Nat×Nat×List aP)(g:(sM u d l) f)=>et (fun(i:f.2.1=[])=>have j:=eB g.1 i;have:=gx (J:=fun e f=>f.2.1=f.2.2.length∧f.2.2++dK (d+1) e=l++[gK u d]++dK (d+1) u.kids∧f.2.2.length+eJ e≤2^20) (a:=f.2.2) i g.2;et j<|e (f.2.2.1,f.2.2.2.1,f.2.2.2.2)<|by first|grind[wH,Cr]|rfl) fun(e:TUnit)(i:List TUnit)(j:f.2.1=e::i)=>have o:=eT g.1 j;have:=aA o;have p:=(eA (enc:=aY) g.1 j).trans<|congrArg some<|aO e;have:=cV (J:=fun e f=>f.2.1=f.2.2.length∧f.2.2++dK (d+1) e=l++[gK u d]++dK (d+1) u.kids∧f.2.2.length+eJ e≤2^20) (a:=f.2.2) j g.2;have q:=bQ g.1 j;have r:f.2.2.2.2.length+nU e≤2^20:=(by grind[bh]);have s:d+1+nU e≤2^20:=(by have:=iz q;omega);yz o p (jq d) (jX (tR 1 true f.2.2.1 3<|aZ JU f.2.2.2.2) rt rt ti) (ihk e q (d+1) f.2.2.1 f.2.2.2.1 f.2.2.2.2 (by first|assumption|omega|(simp only[lM];omega)|(refine aD (m:=2^31) ?_ ?_ ?_<;>(try simp only[lM,lC,lN])<;>omega)) r s) fun(o:Nat×Nat×List aP)(_:o.2.1=o.2.2.length∧o.2.2=f.2.2.2.2++eV (d+1) e)=>et (jq f.1)<|Nx.mk (I:=sM u d l) (m:=fun e=>e.2.1.length) (S:=sL u d l) (x:=f) (f.1+1,i,(o.1,o.2.1,o.2.2)) (et (bW g.1 j) (by first|exact⟨by simp[hn],rfl,by simp;omega⟩|grind[bh,mW,kF]:(o.2.1=o.2.2.length∧o.2.2++dK (d+1) i=l++[gK u d]++dK (d+1) u.kids∧o.2.2.length+eJ i≤2^20)))<|dh j
theorem Yp(u:TUnit)(d:Nat)(hl:nU u≤2^19)(hd:d+nU u≤2^20)(ht:∀x,x∈bp u→rT x):kC 284 [eU u,nV d,.ptr 0 0 0 0,.ptr 1 0 0 0] (ab [.row 1 false 0 [.nils],Eg])
    (fun v h=>∃y:Nat×Nat×List aP,(y.2.1=y.2.2.length∧y.2.2=eV d u)∧v=.tuple []∧h=ab [Hh y.1 y.2.1,Eg,FX y.1 y.2.2]):=by
  have hq:=jQ u
  have hkl:=bf u
  have hf:=KN u d (by omega) (ht u (dz u))
  have ihk:∀k,k∈u.kids→∀(d ep n:Nat)(l:List aP),n=l.length→l.length+nU k≤2^20→d+nU k≤2^20→kC 284 [eU k,nV d,.ptr 0 0 0 0,.ptr 1 0 0 0] (ab [Hh ep n,Eg,FX ep l])
    (fun v h=>∃y:Nat×Nat×List aP,(y.2.1=y.2.2.length∧y.2.2=l++eV d k)∧v=.tuple []∧h=ab [Hh y.1 y.2.1,Eg,FX y.1 y.2.2]):=fun k hk d ep n l a b c=>Yo k d ep n l a b c (fun x hx=>ht x (bA hk hx))
  exact qW Tryz.func284 fun e=>Kp 3 hf<|Kl 5 16 (ln aY u.kids)<|Mg 0<|M0 (.ren [0,1,3,2] [] [1,3,15,16,17])<|M1 (.frz 3 [1,3,15,16,17]) (jX rt rt rt ti)<|U6 aY u.kids (0:Nat) (1:Nat) ([gK u d]:List aP) [1,3,15,16,17] (fun e _ f g i=>([nV d,bz 1 0 0 0,aW<|u.kids.map aY,nV u.kids.length,nV e],[aX 1 false 0 [aM 2 f 0 g none],aX 1 false 0 [bw (bj 284) [] [bz 0 0 0 0,bz 1 0 0 0]],aX 1 true f<|i.map mT])) (fun e _ f g=>f=g.length∧g++dK (d+1) e=[gK u d]++dK (d+1) u.kids∧g.length+eJ e≤2^20) (by first|rfl|(first|grind|(have h1:=hj0.2.1;have h2:=hj0.2.2;rw[bh]at h2;rw[mW]at h1;exact⟨hy1.1,(by rw[hy1.2,←h1];simp),(by rw[hy1.2,lA,kF];omega)⟩))) (fun _ _ f g i _ _ _ j _=>Kh 0 j<|Mf<|e (f,g,i)<|by first|grind[wH,Cr]|rfl) fun e _ f g i j m o p q r s _ t _=>have t:=(t).trans<|congrArg some<|aO o;have:=cV (J:=fun e f=>f.2.1=f.2.2.length∧f.2.2++dK (d+1) e=[gK u d]++dK (d+1) u.kids∧f.2.2.length+eJ e≤2^20) (a:=(f,g,i)) r m;have j:=bQ j r;have m:i.length+nU o≤2^20:=(by grind[bh]);have r:d+1+nU o≤2^20:=(by have:=iz j;omega);Kt 0 s<|Mx t<|Kl 6 24 (jq d)<|M1 (.frz 3 [1,3,15,16,17,21,22,24]) (jX (tR 1 true f 3<|aZ JU i) rt rt ti)<|Mq (ihk o j (d+1) f g i (by first|assumption|omega) m r) fun f _=>Kl 0 26 (jq e)<|Kf 0<|q f.1 f.2.1 f.2.2<|by first|exact⟨by simp[hl],rfl,by simp;omega⟩|grind[bh,mW,kF]
theorem Wc(u:TUnit)(h:mh u)(hv:ku (cO u)=false):kP 258 [eU u] (.ls (([]:List aP).map mT)):=by
  have h1:=Dy u h
  have h2:=xH (cO u) (sd h)
  exact bD Tryz.func258<|Kp 2 h1<|Mp h2<|Kt 0 (bF hv)<|Kf 0 bN
theorem Wb(u:TUnit)(h:mh u)(hv:ku (cO u)=true):kP 258 [eU u] (.ls ((eV 0 u).map mT)):=by
  have h1:=Dy u h
  have h2:=xH (cO u) (sd h)
  have h3:=Yp u 0 h.1 (by have:=h.1;omega) h.2
  have rr0 b' (h:((eV 0 u).map mT)=b':=by first|rfl|(rw[hy0.2])):=h;exact bD Tryz.func258<|Kp 2 h1<|Mp h2<|Kh 0 (bB hv)<|Mg 5<|M0 (.ren [1,2,0] [] [3,10,11])<|M1 (.frz 2 [3,10,11]) (cZ rt rt ti)<|Mq h3 fun a hy0=>Mg 1<|M2 (.fsl 0 [] 2<|a.2.2.map mT) ti (cZ (az a.1) (tA mT a.2.2 a.2.1 (by first|assumption|omega:(a.2.2).length=a.2.1))<|aZ JU a.2.2)<|Ml 2 (eX (a.2.2.map mT) false<|aZ JU a.2.2)<|Mf<|bR<|rr0<|a.2.2.map mT
theorem YE(u:TUnit)(h:mh u)(hv:ku (cO u)=false):kP 234 [eU u] (.tuple [.str (xp u).1,iV (xp u).2]):=by
  have h1:=Wc u h hv
  have e:xp u=([],1):=by unfold xp;simp_all
  rw[e]
  exact bD Tryz.func234<|Kp 3 h1<|Kf 6<|bZ<|eb [aV [],iV 1]
theorem YD(u:TUnit)(h:mh u)(hv:ku (cO u)=true):kP 234 [eU u] (.tuple [.str (xp u).1,iV (xp u).2]):=by
  have h1:=Wb u h hv
  have hlen:=kF 0 u
  have hq:=jQ u
  have hm:=h.1
  have hjl:=QY (sep:=[10]) (B:=2^14) (l:=eV 0 u) (fun s hs=>zH 0 u s hs)
  rw[hlen]at hjl
  have hj2:(Lib.join (eV 0 u) [10]).length≤140737488355328:=b0 hjl (b0 (eu _ hm) (by grind))
  have hj3:(Lib.join (eV 0 u) [10]).length≤2^40:=b0 hjl (b0 (eu _ hm) (by grind))
  have hj:=TC (eV 0 u) [10] (by omega) hj2
  have hz:al (.ofNat (eV 0 u).length) 0=false:=by grind[RJ]
  have e:xp u=(bif aF 16384 (.ofNat (Lib.join (eV 0 u) [10]++[10]).length)then([],6)else(Lib.join (eV 0 u) [10]++[10],0)):=by unfold xp;simp_all
  rw[e]
  clear e
  generalize Lib.join (eV 0 u) [10]=J at *
  cases hb:aF 16384 (.ofNat (J++[10]).length)
  · have hb2:aF 16384 (.ofNat (J++[10]).length)=false:=hb
    exact bD Tryz.func234<|Kp 3 h1<|Kl 2 9 (ln mT<|eV 0 u)<|Kh 0 hz<|Kp 0 hj<|Mv (iS (s:=J) (u:=[10]) (H:=ab [aX 8 false 0 [aj [iV u.act,iV u.item,iV u.n,iV u.kind,aV u.label,aW<|u.head.map aQ,aW<|u.words.map aQ,aW<|u.kids.map aY]]]) (by(first|first|assumption|grind|omega|(simp only[lA,lC,lN]at *;omega)):(J).length+([10]).length≤2^62))<|Kh 3 hb<|Kf 2<|bZ<|eb [aV<|J++[10],iV 0]
  · have hb2:aF 16384 (.ofNat (J++[10]).length)=true:=hb
    exact bD Tryz.func234<|Kp 3 h1<|Kl 2 9 (ln mT<|eV 0 u)<|Kh 0 hz<|Kp 0 hj<|Mv (iS (s:=J) (u:=[10]) (H:=ab [aX 8 false 0 [aj [iV u.act,iV u.item,iV u.n,iV u.kind,aV u.label,aW<|u.head.map aQ,aW<|u.words.map aQ,aW<|u.kids.map aY]]]) (by(first|first|assumption|grind|omega|(simp only[lA,lC,lN]at *;omega)):(J).length+([10]).length≤2^62))<|Kt 3 hb<|Kf 1<|bZ<|eb [aV [],iV 6]
theorem WM(u:TUnit)(h:mh u):kP 234 [eU u] (.tuple [.str (xp u).1,iV (xp u).2]):=by
  grind[YE,YD]
def Wm(u:TUnit):Bool:=Ho u&&(aw (al u.kind 0)&&al (xp u).2 0)
theorem Wl(u:TUnit)(h:mh u):kP 177 [eU u] (.bool (Wm u)):=by
  have q1:=WM u h
  have q2:=Xl u h
  have rr0 b' (h:(Wm u)=b':=by first|rfl|(unfold Wm;rw[h0];rfl)|(unfold Wm;rw[h0,h1];rfl)|(unfold Wm;rw[h0,h1,h2];rfl)):=h;exact bD Tryz.func177<|Kp 2 q1<|Kp 5 q2<|Kb 0 (Ho u) (fun h0=>Kt 0 h0<|Kt 0 h0<|Ku 0 h0<|Kn 0 (al u.kind 0) (fun h1=>Kt 0 (bF h1)<|Ku 0 (bF h1)<|Kf 0<|cn<|rr0<|al (xp u).2 0) fun h1=>Mh (bB h1)<|My (bB h1)<|Ky 0<|rr0 false) fun h0=>Mh h0<|Mh h0<|My h0<|Ky 2<|rr0 false
/-- What an item must be, so that the walks can count. -/
def yZ(x:PItem):Prop:=nW x∧(x.at_.length<2^40∧∀s,s∈x.at_→s.label.length≤2^39)∧(x.to.length<2^40∧∀s,s∈x.to→s.label.length≤2^39)∧(x.old.length<2^40∧∀s,s∈x.old→s.length≤2^39)∧(x.new.length<2^40∧∀s,s∈x.new→s.length≤2^39)∧x.label.length≤2^39∧x.for_.length≤2^39∧x.start.event.length≤2^39∧mh x.unit
/-- What a valid item is known to be. -/
def AU(x:PItem):Prop:=(x.kind=0∨x.kind=6→ig x.where_=true)∧(x.kind=0→Wm x.unit=true)∧(x.kind=2∨x.kind=3→qj x.old=true∧Bo x.nth_=true)∧(x.kind=2∨x.kind=3∨x.kind=4→qj x.new=true)
theorem qz{l:List aP}{n:Int}(h:qx l n=true):qj l=true:=by
  simp_all[qx]
theorem Vt(x:PItem)(hx:yZ x)(h0:0≤x.kind)(h6:x.kind≤6):∃b,kP 106 [eI x] (.bool b)∧(b=true→AU x):=by
  obtain⟨k,a,t,w,n,u,o,ne,l,f,s,ac,im,d,e,bs⟩:=x
  obtain⟨hf,⟨ha,has⟩,⟨ht,hts⟩,⟨ho,hos⟩,⟨hn,hns⟩,hl,hfo,hse,hu⟩:=hx
  have hz:pY be:=⟨by grind,by grind,by grind,trivial⟩
  have n0:(0:Nat)<2^60:=by omega
  obtain⟨f1,f2,f3,f4,f5,f6,f7⟩:=hf
  have hff:∀k w n,nW ⟨k,a,t,w,n,u,o,ne,l,f,s,ac,im,d,e,bs⟩:=fun _ _ _=>⟨f1,f2,f3,f4,f5,f6,f7⟩
  have h0:0≤k:=h0
  have h6:k≤6:=h6
  have hk:k=0∨k=1∨k=2∨k=3∨k=4∨k=5∨k=6:=by omega
  rcases hk with rfl|rfl|rfl|rfl|rfl|rfl|rfl
  · refine⟨_,oE ⟨0,a,t,w,n,u,o,ne,l,f,s,ac,im,d,e,bs⟩ (nR ⟨0,a,t,w,n,u,o,ne,l,f,s,ac,im,d,e,bs⟩ 0) 174 175 _ _ rfl rfl (Ur _) (sS _ (hff _ _ _) (wT ⟨0,a,t,w,n,u,o,ne,l,f,s,ac,im,d,e,bs⟩ (nR ⟨0,a,t,w,n,u,o,ne,l,f,s,ac,im,d,e,bs⟩ 0)) ⟨f1,n0,n0,n0,n0,f6,trivial⟩) (Tm a t w n u o ne l f s ac im d e bs (Wm u) (Wl u hu)) ha has hfo hse,fun h=>?_⟩
    simp only[bx]at h
    exact⟨fun _=>h.2.2.2.2.1,fun _=>h.2.2.2.2.2,fun q=>(by rcases q with q|q<;>cases q),fun q=>(by rcases q with q|q|q<;>cases q)⟩
  · refine⟨_,oE ⟨1,a,t,w,n,u,o,ne,l,f,s,ac,im,d,e,bs⟩ (nR ⟨1,a,t,w,n,u,o,ne,l,f,s,ac,im,d,e,bs⟩ 1) 178 179 _ _ rfl rfl (Up _) (sS _ (hff _ _ _) (wT ⟨1,a,t,w,n,u,o,ne,l,f,s,ac,im,d,e,bs⟩ (nR ⟨1,a,t,w,n,u,o,ne,l,f,s,ac,im,d,e,bs⟩ 1)) ⟨f1,n0,n0,n0,n0,hz,trivial⟩) (Tl a t w n u o ne l f s ac im d e bs) ha has hfo hse,fun h=>?_⟩
    exact⟨fun q=>(by rcases q with q|q<;>cases q),fun q=>(by cases q),fun q=>(by rcases q with q|q<;>cases q),fun q=>(by rcases q with q|q|q<;>cases q)⟩
  · refine⟨_,oE ⟨2,a,t,w,n,u,o,ne,l,f,s,ac,im,d,e,bs⟩ (nR ⟨2,a,t,w,n,u,o,ne,l,f,s,ac,im,d,e,bs⟩ 2) 180 181 _ _ rfl rfl (Uo _) (sS _ (hff _ _ _) (wT ⟨2,a,t,w,n,u,o,ne,l,f,s,ac,im,d,e,bs⟩ (nR ⟨2,a,t,w,n,u,o,ne,l,f,s,ac,im,d,e,bs⟩ 2)) ⟨f1,n0,f3,f4,n0,hz,trivial⟩) (Ti a t w n u o ne l f s ac im d e bs ho hn hos hns) ha has hfo hse,fun h=>?_⟩
    simp only[bx]at h
    exact⟨fun q=>(by rcases q with q|q<;>cases q),fun q=>(by cases q),fun _=>⟨qz h.2.2.2.2.1,h.2.2.2.2.2.2⟩,fun _=>qz h.2.2.2.2.2.1⟩
  · refine⟨_,oE ⟨3,a,t,w,n,u,o,ne,l,f,s,ac,im,d,e,bs⟩ (nR ⟨3,a,t,w,n,u,o,ne,l,f,s,ac,im,d,e,bs⟩ 3) 184 185 _ _ rfl rfl (Un _) (sS _ (hff _ _ _) (wT ⟨3,a,t,w,n,u,o,ne,l,f,s,ac,im,d,e,bs⟩ (nR ⟨3,a,t,w,n,u,o,ne,l,f,s,ac,im,d,e,bs⟩ 3)) ⟨f1,n0,f3,f4,n0,hz,trivial⟩) (Th a t w n u o ne l f s ac im d e bs ho hn hos hns) ha has hfo hse,fun h=>?_⟩
    simp only[bx]at h
    exact⟨fun q=>(by rcases q with q|q<;>cases q),fun q=>(by cases q),fun _=>⟨qz h.2.2.2.2.1,h.2.2.2.2.2.2.1⟩,fun _=>qz h.2.2.2.2.2.1⟩
  · refine⟨_,oE ⟨4,a,t,w,n,u,o,ne,l,f,s,ac,im,d,e,bs⟩ (nR ⟨4,a,t,w,n,u,o,ne,l,f,s,ac,im,d,e,bs⟩ 4) 186 187 _ _ rfl rfl (Um _) (sS _ (hff _ _ _) (wT ⟨4,a,t,w,n,u,o,ne,l,f,s,ac,im,d,e,bs⟩ (nR ⟨4,a,t,w,n,u,o,ne,l,f,s,ac,im,d,e,bs⟩ 4)) ⟨f1,n0,n0,f4,n0,hz,trivial⟩) (Tg a t w n u o ne l f s ac im d e bs hn hns) ha has hfo hse,fun h=>?_⟩
    simp only[bx]at h
    exact⟨fun q=>(by rcases q with q|q<;>cases q),fun q=>(by cases q),fun q=>(by rcases q with q|q<;>cases q),fun _=>qz h.2.2.2.2⟩
  · refine⟨_,oE ⟨5,a,t,w,n,u,o,ne,l,f,s,ac,im,d,e,bs⟩ (nR ⟨5,a,t,w,n,u,o,ne,l,f,s,ac,im,d,e,bs⟩ 5) 188 189 _ _ rfl rfl (Ul _) (sS _ (hff _ _ _) (wT ⟨5,a,t,w,n,u,o,ne,l,f,s,ac,im,d,e,bs⟩ (nR ⟨5,a,t,w,n,u,o,ne,l,f,s,ac,im,d,e,bs⟩ 5)) ⟨f1,n0,n0,n0,n0,hz,trivial⟩) (Tf a t w n u o ne l f s ac im d e bs hl) ha has hfo hse,fun h=>?_⟩
    exact⟨fun q=>(by rcases q with q|q<;>cases q),fun q=>(by cases q),fun q=>(by rcases q with q|q<;>cases q),fun q=>(by rcases q with q|q|q<;>cases q)⟩
  · refine⟨_,oE ⟨6,a,t,w,n,u,o,ne,l,f,s,ac,im,d,e,bs⟩ (nR ⟨6,a,t,w,n,u,o,ne,l,f,s,ac,im,d,e,bs⟩ 6) 191 192 _ _ rfl rfl (Ui _) (sS _ (hff _ _ _) (wT ⟨6,a,t,w,n,u,o,ne,l,f,s,ac,im,d,e,bs⟩ (nR ⟨6,a,t,w,n,u,o,ne,l,f,s,ac,im,d,e,bs⟩ 6)) ⟨f1,f2,n0,n0,n0,hz,trivial⟩) (Te a t w n u o ne l f s ac im d e bs ht hts) ha has hfo hse,fun h=>?_⟩
    simp only[bx]at h
    exact⟨fun _=>h.2.2.2.2.1,fun q=>(by cases q),fun q=>(by rcases q with q|q<;>cases q),fun q=>(by rcases q with q|q|q<;>cases q)⟩
theorem wE{u:TUnit}(h:OkB u):∀x,x∈bp u→x.head.length<2^30∧x.words.length<2^30:=fun x hx=>⟨l0 (h.w x hx).1 (by omega),l0 (h.w x hx).2 (by omega)⟩
theorem Ds(p:PId)(u:TUnit)(hn:nU u≤1024): -1≤qv p u∧qv p u≤2^20:=by
  cases h:iQ p u with
  |false=>rw[Ph h];omega
  | true=>
    obtain⟨q,i,h1,_,h3,h4,_⟩:=vn u h
    have:=dO h1
    grind[bf]
theorem yY(w:Int)(u:TUnit)(p:PId)(hn:nU u≤1024): -1≤(dc w u p).1.at_∧(dc w u p).1.at_≤2^41:=by
  have hb:=Ds p u hn
  have key:∀n:Int,0≤n→n≤1→ -1≤(nC u p n).1.at_∧(nC u p n).1.at_≤2^41:=fun n h0 h1=>by
    unfold nC
    cases iQ p u
    · exact⟨by show(-1:Int)≤0;omega,by show(0:Int)≤_;omega⟩
    grind
  unfold dc
  cases al w 0
  · cases al w 1
    · grind
    · show -1≤Int.ofNat _∧Int.ofNat _≤2^41
      have:(ee p u).kids.length≤1024:=by
        cases h:cj p u with
        | true=>
          have:=dO (vg h).1
          grind[bf]
        |false=>unfold ee;rw[h];exact bM _
      grind
  simp_all
theorem vO{u:TUnit}(hu:OkB u)(p:PId):kP 62 [eU u,aU p] (.tuple [eU (ee p u),.bool (cj p u)]):=QT p u (b0 hu.n (by omega)) (wE hu)
theorem kQ{u:TUnit}(hu:OkB u)(p:PId):kP 171 [eU u,aU p] (.tuple [aU (su p u),iV (qv p u),.bool (iQ p u)]):=Pd p u (b0 hu.n (by omega))
theorem wD{u:TUnit}(hu:OkB u)(p:List PStep)(hp:p.length<2^40∧∀s,s∈p→s.label.length≤2^39):kP 107 [eU u,.ls (p.map ak)] (.tuple [aU (aH u p).1,iV (aH u p).2]):=
  Ny u p (UW u p (b0 hu.n (by omega)) hp.1 hp.2) (b0 hu.n (by omega))
theorem KT{u:TUnit}(hu:OkB u)(p:PId):kP 273 [eU u,aU p] (.tuple [fj (dc 0 u p).1,iV (dc 0 u p).2]):=QJ u _ p _ (vO hu p)
theorem KS{u:TUnit}(hu:OkB u)(p:PId):kP 276 [eU u,aU p] (.tuple [fj (dc 1 u p).1,iV (dc 1 u p).2]):=QW u _ p _ (vO hu p)
theorem KR{u:TUnit}(hu:OkB u)(p:PId):kP 278 [eU u,aU p] (.tuple [fj (dc 2 u p).1,iV (dc 2 u p).2]):=QX u p _ _ _ (kQ hu p) (by have:=Ds p u hu.n;omega)
theorem KP{u:TUnit}(hu:OkB u)(p:PId):kP 280 [eU u,aU p] (.tuple [fj (dc 3 u p).1,iV (dc 3 u p).2]):=QZ u p _ _ _ (kQ hu p) (by have:=Ds p u hu.n;omega)
theorem wy{w:Int}(h:ig w=true):w=0∨w=1∨w=2∨w=3:=by
  unfold ig at h
  rw[bx]at h
  have h1:=gh h.1
  have h2:=gh h.2
  omega
/-- Where a unit is inserted. -/
theorem TZ{u:TUnit}(hu:OkB u)(p:List PStep)(hp:p.length<2^40∧∀s,s∈p→s.label.length≤2^39)(w:Int)(hw:ig w=true):kP 210 [eU u,.ls (p.map ak),iV w]
    (.tuple [aU (Cx (aH u p).2 (dc w u (aH u p).1).1 (dc w u (aH u p).1).2).1.id,iV (Cx (aH u p).2 (dc w u (aH u p).1).1 (dc w u (aH u p).1).2).1.at_,iV (Cx (aH u p).2 (dc w u (aH u p).1).1 (dc w u (aH u p).1).2).2]):=by
  rcases wy hw with rfl|rfl|rfl|rfl
  · exact rJ 0 _ rfl rfl u p _ _ _ _ (wD hu p hp) (KT hu _)
  · exact rJ 1 _ rfl rfl u p _ _ _ _ (wD hu p hp) (KS hu _)
  · exact rJ 2 _ rfl rfl u p _ _ _ _ (wD hu p hp) (KR hu _)
  · exact rJ 3 _ rfl rfl u p _ _ _ _ (wD hu p hp) (KP hu _)
theorem WF{u:TUnit}(hu:OkB u)(p q:PId)(w:Int)(hw:ig w=true):∃bs,kP 212 [eU u,aU p,aU q,iV w]
    (.tuple [fj (nO p q (su p u) (qv p u) (iQ p u) ((pG q u).any (bg p)) bs (dc w u q).1 (dc w u q).2).1,iV (nO p q (su p u) (qv p u) (iQ p u) ((pG q u).any (bg p)) bs (dc w u q).1 (dc w u q).2).2]):=by
  have hb:=Ds p u hu.n
  have hb: -1≤qv p u∧qv p u≤2^40:=by omega
  have hn:nU u≤2^20:=b0 hu.n (by omega)
  have hal:(pG q u).length<2^40:=by
    grind[l9,pG]
  have hC:=Lh (pG q u) p hal
  rcases wy hw with rfl|rfl|rfl|rfl
  · exact⟨_,Gg 0 _ rfl rfl rfl u p q _ _ _ _ _ _ _ hb (yY 0 u q hu.n) (kQ hu p) (Hu q u hn) hC (KT hu q)⟩
  · exact⟨_,Gg 1 _ rfl rfl rfl u p q _ _ _ _ _ _ _ hb (yY 1 u q hu.n) (kQ hu p) (Hu q u hn) hC (KS hu q)⟩
  · exact⟨_,QA u p q _ _ _ _ _ _ _ hb (yY 2 u q hu.n) (kQ hu p) (Hu q u hn) hC (KR hu q)⟩
  · exact⟨_,Qu u p q _ _ _ _ _ _ _ hb (yY 3 u q hu.n) (kQ hu p) (Hu q u hn) hC (KP hu q)⟩
theorem Gu{B:Nat}:∀{l:List TUnit},(∀x,x∈l→(nq x).length≤B)→(l.flatMap nq).length≤B*l.length
  |[],_=>bM _
  | x::r,h=>by
    have h1:=h x fW
    have h2:=Gu (l:=r) fun y hy=>h y (fJ _ hy)
    rw[List.flatMap_cons,lA,lC,Nat.mul_succ];omega
theorem OM{u:TUnit}(h:mh u):(m8 u).length≤2^29:=by
  rw[SZ]
  have h1:∀x,x∈bp u→(nq x).length≤600:=fun x hx=>by
    obtain⟨a,b,_⟩:=h.2 x hx
    unfold nq;rw[lA];omega
  have h2:=Gu h1
  have h3:(bp u).length=nU u:=by rw[lG];unfold dj;rw[lM]
  rw[h3]at h2
  have:=h.1
  omega
theorem Yx{e:Int}{sp:PSpot}{e2:Int}(h:(Cx e sp e2).2=0):e=0∧e2=0∧(Cx e sp e2).1=sp:=by
  unfold Cx at h ⊢
  cases h1:al e 0 with
  |false=>rw[h1]at h;rw[show e=0 from h]at h1;cases h1
  | true=>
    rw[h1]at h
    cases h2:al e2 0 with
    |false=>rw[h2]at h;rw[show e2=0 from h]at h2;cases h2
    |true=>exact⟨jy h1,jy h2,rfl⟩
theorem TI{u u2:TUnit}{te:Int}{full cf:Bool}:(NY u te full cf u2).1=u∨(full=false∧cf=false∧(NY u te full cf u2).1=u2):=by
  unfold NY;cases al te 0<;>cases full<;>cases cf<;>first|exact .inl rfl|exact .inr ⟨rfl,rfl,rfl⟩
/-- What an outcome is known to be. -/
def Bk(u:TUnit)(d:PDeed)(v:TUnit):Prop:=OkB v∧Rt u v
theorem Bk.refl{u:TUnit}(hu:OkB u){d:PDeed}:Bk u d u:=⟨hu,rfl⟩
/-- An insertion has an outcome. -/
theorem Va{u:TUnit}(hu:OkB u)(f:TUnit)(d:PDeed)(hd:yZ d.it)(hg:AU d.it)(hk:d.it.kind=0):∃r:pH,kP 128 [eU u,eU f,aq d] (eH r)∧Bk u d r.1:=by
  have hw:=hg.1 (.inl hk)
  have hD:=Rj u d.it _ _ _ (by rw[hk];rfl) (TZ hu d.it.at_ hd.2.1 d.it.where_ hw)
  cases he:al (Cx (aH u d.it.at_).2 (dc d.it.where_ u (aH u d.it.at_).1).1 (dc d.it.where_ u (aH u d.it.at_).1).2).2 0 with
  |false=>exact⟨(u,_),TM u f d _ _ _ he hD,.refl hu⟩
  | true=>
    have e0:=jy he
    obtain⟨e1,e2,e3⟩:=Yx e0
    obtain⟨n,n1,n2,n3⟩:=F8 hu (qt e1) e2
    rw[e0,e3,n1]at hD
    have ht:=hd.2.2.2.2.2.2.2.2
    have hS:=OT d.act d.item d.it.unit (b0 ht.1 (by decide)) (OM ht) (fun x hx=>⟨b0 (ht.2 x hx).1 (by decide),b0 (ht.2 x hx).2.1 (by decide)⟩)
    have hsn:=O0 d.act d.item d.it.unit 0 0
    have hsi:=vz d.act d.item d.it.unit 0 0
    have hsw:=JO d.act d.item 300 d.it.unit 0 0 (fun x hx=>⟨(ht.2 x hx).1,(ht.2 x hx).2.1⟩)
    generalize c9 d.act d.item d.it.unit 0 0=X at *
    have hn:=hu.n
    have hm:=ht.1
    have hX:nU X≤2^19:=by omega
    have hkp:(ee (dc d.it.where_ u (aH u d.it.at_).1).1.id u).kids.length<2^40:=by
      cases h:cj (dc d.it.where_ u (aH u d.it.at_).1).1.id u with
      |true=>have:=dO (vg h).1;have:=bf (ee (dc d.it.where_ u (aH u d.it.at_).1).1.id u);omega
      |false=>unfold ee;rw[h];exact l0 (bM 0) (by decide)
    have hiu:(dj u).length<2^40:=by rw[←lG];omega
    have hix:(dj X).length<2^40:=by rw[←lG];omega
    refine⟨_,TE u f _ X _ d _ n (nU u) (nU X) _ _ _ _ (dj u) (dj X) (by omega) (by omega) hD (vO hu _) hS (yE _ X hkp) (Ly u X _ (by omega) (by omega)) (Ek u (by omega)) (Ek X (by omega)) (Qn u (by omega)) (Qn X (by omega)) (cfX (dj X) (dj u) hiu hix) (Oe _ n X u (by omega) (wE hu) n3),?_⟩
    rcases TI (u:=u) (u2:=dV (dc d.it.where_ u (aH u d.it.at_).1).1.id (dB n X) u) (te:=yF (ee (dc d.it.where_ u (aH u d.it.at_).1).1.id u) X) (full:=aw (aF (Int.ofNat (ee (dc d.it.where_ u (aH u d.it.at_).1).1.id u).kids.length) 64)||(Rc u (dc d.it.where_ u (aH u d.it.at_).1).1.id X||aF 1024 (Int.ofNat (nU u+nU X)))) (cf:=(dj X).any fun i=>(dj u).any (bg i))with q|⟨q1,q2,q3⟩
    · rw[q];exact .refl hu
    · rw[q3]
      rw[BM,BM]at q1
      have q4:=aG q1.2.2
      simp only[oN]at q4
      refine⟨hu.ins (by rw[hsi];exact O2 _ _ _ _) (fun p hp hq=>?_) (by omega) hsw,KQ (f:=dB n X) (fun _=>rfl) u⟩
      rw[List.any_eq_false]at q2
      have:=q2 p hp
      exact this (List.any_eq_true.2 ⟨p,hq,kH p⟩)
/-- A unit is taken away. -/
theorem VU{u:TUnit}(hu:OkB u){p:PId}(hp:iQ p u=true):∃q i,q∈bp u∧su p u=bq q∧qv p u=Int.ofNat i∧i<q.kids.length∧bq (gD q.kids i)=p∧kP 164 [eU u,aU p] (eU (dV (bq q) (gp i) u)):=by
  obtain⟨q,i,h1,h2,h3,h4,h5⟩:=vn u hp
  have hP:=kQ hu p
  rw[h2,h3,hp]at hP
  exact⟨q,i,h1,h2,h3,h4,h5,yo u _ p _ i hP (Og (bq q) i u (b0 hu.n (by decide)) (wE hu) fun v hv hid=>by rw[hu.uni hv h1 ((gi _ v).1 hid)];exact h4)⟩
theorem YK{u x:TUnit}(hu:OkB u)(d:PDeed)(hp:iQ (bq x) u=true):∃r:pH,kP 129 [eU u,eU x,aq d] (eH r)∧Bk u d r.1:=by
  obtain⟨q,i,h1,h2,h3,h4,h5,h6⟩:=VU hu hp
  exact⟨_,SS u x _ d h6,(hu.del h1 h4).1,KQ (f:=gp i) (fun _=>rfl) u⟩
theorem Do(l:List PWord):(vf l).length≤256:=by
  unfold vf
  cases h:aF 256 (Int.ofNat l.length)with
  |true=>exact bM _
  |false=>have:=aG h;simp only[oN]at this;show l.length≤256;omega
theorem PY(a b:Int)(w:List PWord)(old new:List aP)(n:Int):(Fi a b w old new n).1.length≤256:=by
  unfold Fi
  cases al (Int.ofNat old.length) 0
  · cases al (Int.ofNat (nM (uQ (b8 w) old) n).length) 0
    · exact Do _
    · exact bM _
  · exact bM _
theorem TG(a b:Int)(w:List PWord)(part new:List aP)(n:Int):(D0 a b w part new n).1.length≤256:=by
  unfold D0
  cases(al (Int.ofNat new.length) 0||(al (Int.ofNat part.length) 0&&aw (al n 0)))
  · cases al (Int.ofNat part.length) 0
    · cases al (Int.ofNat (nM (uQ (b8 w) part) n).length) 0
      · exact Do _
      · exact bM _
    · exact Do _
  · exact bM _
theorem tg{l:List aP}(h:qj l=true):l.length≤256:=by
  unfold qj at h
  rw[bx]at h
  have:=gh h.1
  simp only[oN]at this
  omega
theorem KB{n:Int}(h:Bo n=true):0≤n∧n≤256:=by
  unfold Bo at h
  rw[bx]at h
  exact⟨gh h.1,gh h.2⟩
theorem Cb{u:TUnit}(hu:OkB u)(q:PId){l:List PWord}(hl:l.length≤300):OkB (dV q (l8 l) u):=hu.keep (fun _=>⟨rfl,rfl⟩) fun v hv=>⟨(hu.w v hv).1,hl⟩
theorem PI{u:TUnit}(hu:OkB u)(q:PId){l:List PWord}(hl:l.length≤300):OkB (dV q (AJ l) u):=hu.keep (fun _=>⟨rfl,rfl⟩) fun v hv=>⟨hl,(hu.w v hv).2⟩
theorem MS{u:TUnit}(hu:OkB u)(q:PId)(s:aP):OkB (dV q (pW s) u):=hu.keep (fun _=>⟨rfl,rfl⟩) fun v hv=>hu.w v hv
theorem Ju{u u2:TUnit}{d:PDeed}{e:Int}(h:OkB u)(h2:Bk u d u2):Bk u d (E2 u e u2).1:=by
  have h:=Bk.refl h (d:=d)
  unfold E2;cases al e 0;exact h;exact h2
theorem XE{u x:TUnit}(hu:OkB u)(hx:x∈bp u)(hp:iQ (bq x) u=true)(d:PDeed)(hg:AU d.it)(hk:d.it.kind=2):∃r:pH,kP 130 [eU u,eU x,aq d] (eH r)∧Bk u d r.1:=by
  obtain⟨h1,h2⟩:=hg.2.2.1 (.inl hk)
  have h3:=tg h1
  have h4:=tg (hg.2.2.2 (.inl hk))
  obtain⟨h5,h6⟩:=KB h2
  have h7:=(hu.w x hx).2
  have hR:=SR d.act d.item x.words d.it.old d.it.new d.it.nth_ (by omega) (by omega) (by omega) h5 (by omega) (kf h5)
  exact⟨_,Sa u x _ d _ _ hR (Oy (bq x) _ u (b0 hu.n (by decide)) (wE hu)),Ju hu ⟨Cb hu _ (b0 (PY ..) (by decide)),J9 hp⟩⟩
theorem Yq{u x:TUnit}(hu:OkB u)(hx:x∈bp u)(hp:iQ (bq x) u=true)(d:PDeed)(hg:AU d.it)(hk:d.it.kind=3):∃r:pH,kP 131 [eU u,eU x,aq d] (eH r)∧Bk u d r.1:=by
  obtain⟨h1,h2⟩:=hg.2.2.1 (.inr hk)
  have h3:=tg h1
  have h4:=tg (hg.2.2.2 (.inr (.inl hk)))
  obtain⟨h5,h6⟩:=KB h2
  have h7:=(hu.w x hx).2
  have hR:=Yr d.act d.item x.words d.it.old d.it.new d.it.nth_ (by omega) (by omega) (by omega) h5 (by omega)
  exact⟨_,S6 u x _ d _ _ hR (Ob (bq x) _ u (b0 hu.n (by decide)) (wE hu)),Ju hu ⟨Cb hu _ (b0 (TG ..) (by decide)),J9 hp⟩⟩
theorem YB{u x:TUnit}(hu:OkB u)(hp:iQ (bq x) u=true)(d:PDeed)(hg:AU d.it)(hk:d.it.kind=4):∃r:pH,kP 132 [eU u,eU x,aq d] (eH r)∧Bk u d r.1:=by
  have h4:=tg (hg.2.2.2 (.inr (.inr hk)))
  have hM:=yK d.it.new d.act d.item 0 (by omega) (by decide)
  exact⟨_,T4 u x _ d _ hM (Of (bq x) _ u (b0 hu.n (by decide)) (wE hu)),PI hu _ (by rw[f8];omega),J9 hp⟩
theorem Vk{u:TUnit}(hu:OkB u)(p:PId):(ee p u).kids.length<2^40:=by
  have hn:=hu.n
  cases h:cj p u with
  |true=>have:=dO (vg h).1;have:=bf (ee p u);omega
  |false=>unfold ee;rw[h];exact l0 (bM 0) (by decide)
theorem YY{u x:TUnit}(hu:OkB u)(hp:iQ (bq x) u=true)(d:PDeed):∃r:pH,kP 133 [eU u,eU x,aq d] (eH r)∧Bk u d r.1:=by
  refine⟨_,S1 u x _ _ d _ _ _ _ _ (kQ hu (bq x)) (vO hu _) (yE _ _ (Vk hu _)) (Oa (bq x) d u (b0 hu.n (by decide)) (wE hu)),?_⟩
  unfold S2
  cases al (yF (ee (su (bq x) u) u) (pW d.it.label x)) 10
  · exact⟨MS hu _ _,J9 hp⟩
  · exact .refl hu
theorem Tw{u u2:TUnit}{d:PDeed}{te:Int}{full:Bool}(h:OkB u)(h2:Bk u d u2):Bk u d (P4 u te full u2).1:=by
  have h:=Bk.refl h (d:=d)
  unfold P4;cases al te 0<;>cases full<;>first|exact h|exact h2
theorem YI{e2 e3:Int}{sp:PSpot}(h:(HW 0 e2 sp e3).2=0):e2=0∧e3=0∧(HW 0 e2 sp e3).1=sp:=by
  unfold HW at h ⊢
  rw[show al 0 0=true from rfl]at h ⊢
  simp only[cond_true]at h ⊢
  cases h1:al e2 0 with
  |false=>rw[h1]at h;rw[show e2=0 from h]at h1;cases h1
  | true=>
    rw[h1]at h
    cases h2:al e3 0 with
    |false=>rw[h2]at h;rw[show e3=0 from h]at h2;cases h2
    |true=>exact⟨jy h1,jy h2,rfl⟩
/-- A move has an outcome. -/
theorem Yg{u x:TUnit}(hu:OkB u)(hx:x∈bp u)(d:PDeed)(hd:yZ d.it)(hg:AU d.it)(hk:d.it.kind=6)(h0:(aH u d.it.at_).2=0)(hid:(aH u d.it.at_).1=bq x)(hp:iQ (bq x) u=true):∃r:pH,kP 134 [eU u,eU x,aq d] (eH r)∧Bk u d r.1:=by
  have hw:=hg.1 (.inr hk)
  have hF:=wD hu d.it.at_ hd.2.1
  rw[h0,hid]at hF
  obtain⟨bs,hG⟩:=WF hu (bq x) (aH u d.it.to).1 d.it.where_ hw
  obtain⟨q,i,h1,h2,h3,h4,h5,h6⟩:=VU hu hp
  have hD:=Rx u d.it _ _ _ _ _ _ (by rw[hk];rfl) (by rw[hk];rfl) hw hF (wD hu d.it.to hd.2.2.1) hG
  rw[h2,h3,hp]at hD
  cases he:al (HW 0 (aH u d.it.to).2 (nO (bq x) (aH u d.it.to).1 (bq q) (Int.ofNat i) true ((pG (aH u d.it.to).1 u).any (bg (bq x))) bs (dc d.it.where_ u (aH u d.it.to).1).1 (dc d.it.where_ u (aH u d.it.to).1).2).1 (nO (bq x) (aH u d.it.to).1 (bq q) (Int.ofNat i) true ((pG (aH u d.it.to).1 u).any (bg (bq x))) bs (dc d.it.where_ u (aH u d.it.to).1).1 (dc d.it.where_ u (aH u d.it.to).1).2).2).2 0 with
  |false=>exact⟨(u,_),Tv u x d _ _ _ he hD,.refl hu⟩
  | true=>
    have e0:=jy he
    obtain⟨e1,e2,e3⟩:=YI e0
    obtain⟨n,n1,n2,n3⟩:=Qt hu h1 h4 (qt e1) e2
    rw[e0,e3,n1]at hD
    obtain⟨hr,hpm⟩:=hu.del h1 h4
    have hkx:gD q.kids i=x:=hu.uni (iP h1 (bA (iC h4) (dz _))) hx h5
    rw[hkx]at hpm
    have hnr:=hr.n
    have hnx:=dO hx
    have hn:=hu.n
    refine⟨_,Tk u x _ _ _ d _ _ n _ _ _ _ _ hD (kQ hu (bq x)) h6 (vO hr _) (yE _ x (Vk hr _)) (Ly _ x _ (by omega) (by omega)) (Oc _ n x _ (by omega) (wE hr) n3),Tw hu ?_⟩
    have hnd:=List.nodup_append.1 (hpm.nodup_iff.1 hu.nd)
    have hlen:=hpm.length_eq
    rw[lA,←lG,←lG,←lG]at hlen
    exact⟨hr.ins hnd.2.1 (fun p hp hq=>hnd.2.2 p hq p hp rfl) (by omega) (fun y hy=>hu.w y (iP hx hy)),(KQ (f:=dB _ _) (fun _=>rfl) _).trans (KQ (f:=gp i) (fun _=>rfl) u)⟩
/-- An item's doer. -/
theorem ZT{u x:TUnit}(hu:OkB u)(hx:x∈bp u)(d:PDeed)(hd:yZ d.it)(hg:AU d.it)(hk0:0≤d.it.kind)(hk6:d.it.kind≤6)(h0:(aH u d.it.at_).2=0)(hid:(aH u d.it.at_).1=bq x)(hp:iQ (bq x) u=true):∃r:pH,kP (Vg d.it.kind) [eU u,eU x,aq d] (eH r)∧Bk u d r.1:=by
  have hk:d.it.kind=0∨d.it.kind=1∨d.it.kind=2∨d.it.kind=3∨d.it.kind=4∨d.it.kind=5∨d.it.kind=6:=by omega
  rcases hk with h|h|h|h|h|h|h<;>rw[h]
  · exact Va hu x d hd hg h
  · exact YK hu d hp
  · exact XE hu hx hp d hg h
  · exact Yq hu hx hp d hg h
  · exact YB hu hp d hg h
  · exact YY hu hp d
  · exact Yg hu hx d hd hg h h0 hid hp
/-- An amendment has one outcome. -/
theorem UL {u:TUnit}(hu:OkB u)(d:PDeed)(hd:yZ d.it)(hk0:0≤d.it.kind)(hk6:d.it.kind≤6):∃r:pH,kP 74 [eU u,aq d] (eH r)∧Bk u d r.1:=by
  obtain⟨b,hV,hg⟩:=Vt d.it hd hk0 hk6
  have hl:=Wa d hk0 hk6
  cases b with
  |false=>exact⟨_,UM u d _ hl hV,.refl hu⟩
  | true=>
    have hg:=hg rfl
    have hF:=wD hu d.it.at_ hd.2.1
    cases he:al (aH u d.it.at_).2 0 with
    |false=>exact⟨_,UO u d _ _ _ hl hV he hF,.refl hu⟩
    | true=>
      have e0:=jy he
      have hh:=qt e0
      obtain⟨hx,hxi⟩:=vg hh
      rw[e0]at hF
      have hX:=vO hu (aH u d.it.at_).1
      cases hi:(al (aH u d.it.at_).1.a u.act&&(al (aH u d.it.at_).1.i u.item&&al (aH u d.it.at_).1.n u.n))with
      | true=>
        cases hk:al d.it.kind 0 with
        | true=>
          have hk:=jy hk
          obtain⟨r,h1,h2⟩:=Va hu (ee (aH u d.it.at_).1 u) d hd hg hk
          exact⟨r,RS u _ d _ _ _ r hl hV hF hX hi (by rw[hk];rfl) (by rw[hk];exact h1),h2⟩
        |false=>exact⟨_,UN u _ d _ _ _ _ _ hl hV hF hX hi hk (wD hu d.it.to hd.2.2.1),.refl hu⟩
      | false=>
        have hni:fL (aH u d.it.at_).1 u=false:=by
          cases q:fL (aH u d.it.at_).1 u with
          |false=>rfl
          | true=>
            have:=(gi _ u).1 q
            rw[←this]at hi
            have e:(al (bq u).a u.act&&(al (bq u).i u.item&&al (bq u).n u.n))=true:=by
              show(al u.act u.act&&(al u.item u.item&&al u.n u.n))=true
              rw[bV,bV,bV];rfl
            rw[e]at hi;cases hi
        obtain⟨r,h1,h2⟩:=ZT hu hx d hd hg hk0 hk6 e0 hxi.symm (by rw[hxi];exact T6 hh hni)
        exact⟨r,UP u _ d _ _ _ r hl hV hF hX hi h1,h2⟩
theorem R8{k:Int}(h:qL k=true):0≤k∧k≤6:=by
  unfold qL at h;rw[bx]at h;exact⟨gh h.1,gh h.2⟩
/-- What an amendment makes of a book: the one outcome there is. -/
structure AppOk(u:TUnit)(d:PDeed):Prop where
  b:OkB u
  i:yZ d.it
  a:qL d.it.kind=true
theorem RP{u:TUnit}{d:PDeed}(h:AppOk u d):∃r:pH,kP 74 [eU u,aq d] (eH r)∧Bk u d r.1:=UL h.b d h.i (R8 h.a).1 (R8 h.a).2
open Classical in
noncomputable def jt(u:TUnit)(d:PDeed):pH:=if h:AppOk u d then(RP h).choose else(u,0)
theorem Ls{u:TUnit}{d:PDeed}(h:AppOk u d):kP 74 [eU u,aq d] (.tuple [eU (jt u d).1,iV (jt u d).2])∧Bk u d (jt u d).1:=by
  unfold jt;rw[dif_pos h];exact(RP h).choose_spec
theorem rp{u:TUnit}{d:PDeed}(h:AppOk u d):kP 74 [eU u,aq d] (.tuple [eU (jt u d).1,iV (jt u d).2])∧OkB (jt u d).1:=⟨(Ls h).1,(Ls h).2.1⟩
theorem Vn(u:TUnit)(d:PDeed)(h1:OkB u)(h2:yZ d.it)(h3:qL d.it.kind=true):kP 74 [eU u,aq d] (.tuple [eU (jt u d).1,iV (jt u d).2]):=(rp ⟨h1,h2,h3⟩).1
noncomputable def tw(u:TUnit)(d:PDeed):TUnit:=bif qL d.it.kind then(jt u d).1 else u
noncomputable def Cn(u:TUnit)(d:PDeed):List PFail:=bif qL d.it.kind then(bif al (jt u d).2 0 then[]else[⟨d.act,d.item,(jt u d).2⟩])else[]
theorem OS{u:TUnit}{d:PDeed}(h1:OkB u)(h2:yZ d.it):OkB (tw u d):=by
  unfold tw
  cases h:qL d.it.kind with
  |false=>exact h1
  |true=>exact(rp ⟨h1,h2,h⟩).2
noncomputable def dg:TUnit→List PDeed→TUnit
  |u,[]=>u
  |u,d::r=>dg (tw u d) r
noncomputable def fc:TUnit→List PDeed→List PFail
  |_,[]=>[]
  |u,d::r=>Cn u d++fc (tw u d) r
theorem Hl:∀{l:List PDeed}{u:TUnit},OkB u→(∀d,d∈l→yZ d.it)→OkB (dg u l)
  |[],_,h,_=>h
  |d::r,u,h,hl=>Hl (l:=r) (u:=tw u d) (OS h (hl d (fW ..))) fun x hx=>hl x (fJ _ hx)
theorem CM:∀(l:List PDeed)(u:TUnit),(fc u l).length≤l.length
  |[],_=>ao _
  | d::r,u=>by
    have:=CM r (tw u d)
    have h:(Cn u d).length≤1:=by
      unfold Cn
      cases qL d.it.kind<;>cases al (jt u d).2 0<;>simp
    rw[fc,lA,lC];omega
theorem YQ{u:TUnit}{d:PDeed}{r:List PDeed}(h:qL d.it.kind=false):dg u (d::r)=dg u r∧fc u (d::r)=fc u r:=by
  rw[dg,fc,tw,Cn,h];exact⟨rfl,rfl⟩
theorem Su{u:TUnit}{d:PDeed}{r:List PDeed}(h:qL d.it.kind=true)(h2:al (jt u d).2 0=true):dg u (d::r)=dg (jt u d).1 r∧fc u (d::r)=fc (jt u d).1 r:=by
  rw[dg,fc,tw,Cn,h,h2];exact⟨rfl,rfl⟩
theorem Ss{u:TUnit}{d:PDeed}{r:List PDeed}(h:qL d.it.kind=true)(h2:al (jt u d).2 0=false):dg u (d::r)=dg (jt u d).1 r∧fc u (d::r)=⟨d.act,d.item,(jt u d).2⟩::fc (jt u d).1 r:=by
  rw[dg,fc,tw,Cn,h,h2];exact⟨rfl,rfl⟩
mutual
theorem J2:∀(u:TUnit)(deep most:Int),mn u deep most≤most→Int.ofNat (nU u)≤mn u deep most
  | ⟨_,_,_,_,_,_,_,kids⟩,deep,most,h=>by
    rw[mn]at h ⊢
    cases hd:aF 20 deep with
    |true=>rw[hd]at h;simp only at h;omega
    | false=>
      rw[hd]at h
      have:=J3 kids deep most 1 h
      rw[nU]
      simp only[oN]at *
      omega
theorem J3:∀(l:List TUnit)(deep most n:Int),mo l deep most n≤most→n+Int.ofNat (eJ l)≤mo l deep most n
  |[],_,_,n,_=>by rw[mo,eJ];exact Int.le_of_eq (Int.add_zero n)
  | k::r,deep,most,n,h=>by
    rw[mo]at h ⊢
    cases hd:aF most n with
    |true=>rw[hd]at h;have:=aA hd;simp only at h;omega
    | false=>
      rw[hd]at h
      have h2:=J3 r deep most _ h
      have h1:=J2 k (deep+1) (most-n) (by simp only[oN]at *;omega)
      rw[eJ]
      simp only[oN]at *
      omega
end
theorem Fw{l:List PWord}(h:mp l=true):l.length≤300∧∀w,w∈l→w.text.length≤100:=by
  unfold mp at h
  obtain⟨h1,h2⟩:=pN.1 h
  refine⟨by have:=gh h2;simp only[oN]at this;omega,fun w hw=>?_⟩
  have:=gh (md.1 h1 w hw)
  simp only[oN]at this;omega
theorem HR:∀(u:TUnit),ko u=true→∀x,x∈bp u→rT x:=by
  refine TUnit.ind fun u ih h x hx=>?_
  rw[BT]at h
  simp only[bx]at h
  obtain⟨⟨⟨h0,h1⟩,h2⟩,h3⟩:=h
  rw[da]at hx
  rcases fD.1 hx with rfl|hx
  · have h0:=gh h0
    simp only[oN]at h0
    have q1:=Fw h1
    have q2:=Fw h2
    exact⟨q1.1,q2.1,by omega,fun w hw=>b0 (q1.2 w hw) (by decide),fun w hw=>b0 (q2.2 w hw) (by decide)⟩
  · obtain⟨k,hk,hx⟩:=mj hx
    exact ih k hk (md.1 h3 k hk) x hx
theorem WT{u:TUnit}{n:Nat}(h:GL u (.ofNat n)=true):nU u≤n∧∀x,x∈bp u→rT x:=by
  unfold GL at h
  obtain⟨h1,h2⟩:=pN.1 h
  refine⟨?_,HR u h2⟩
  have h3:=gh h1
  have:=J2 u 0 (.ofNat n) h3
  simp only[oN]at *
  omega
theorem PH{x:PItem}(hf:nW x)(h:mN x=true):yZ x:=by
  rw[EJ]at h
  unfold yq at h
  simp only[bx]at h
  obtain⟨⟨⟨⟨⟨⟨⟨⟨⟨⟨a1,a2⟩,a3⟩,a4⟩,a5⟩,a6⟩,a7⟩,a8⟩,a9⟩,a10⟩,b1,b2,b3,b4,b5⟩:=h
  have a1:=gh a1
  have a2:=gh a2
  have a3:=gh a3
  have a4:=gh a4
  have a5:=gh a5
  have a6:=gh a6
  have a7:=gh a7
  simp only[oN]at a1 a2 a3 a4 a5 a6 a7
  have hs:∀{l:List aP},l.all xm=true→∀s,s∈l→s.length≤2^39:=fun h s hs=>by
    have:=gh (md.1 h s hs);simp only[oN]at this;omega
  have ht:∀{l:List PStep},l.all xl=true→∀s,s∈l→s.label.length≤2^39:=fun h s hs=>by
    have:=gh (md.1 h s hs);simp only[oN]at this;omega
  have hu:=WT (n:=30) a10
  exact⟨hf,⟨by omega,ht b3⟩,⟨by omega,ht b4⟩,⟨by omega,hs b1⟩,⟨by omega,hs b2⟩,by omega,by omega,by omega,b0 hu.1 (by decide),hu.2⟩
theorem TU:∀(u:TUnit),nU u≤1024→(∀x,x∈bp u→x.head.length≤300∧x.words.length≤300)→pY u:=by
  refine TUnit.ind fun u ih hn hw=>?_
  have:=bf u
  obtain⟨h1,h2⟩:=hw u (dz u)
  exact lq.2 ⟨by omega,by omega,by omega,fun k hk=>ih k hk (by have:=iz hk;omega) fun x hx=>hw x (bA hk hx)⟩
theorem tP{u:TUnit}(h:OkB u):pY u:=TU u h.n h.w
theorem I9{u v:TUnit}{l r:List PDeed}{xs:List PFail}(h:fc u l=xs++fc v r):xs.length≤l.length:=by
  grind[CM]
theorem R4(u:TUnit)(l:List PDeed)(hu:OkB u)(hl:l.length<2^30)(ho:∀d,d∈l→yZ d.it):kP 59 [eU u,.ls (l.map aq)] (.tuple [eU (dg u l),.ls ((fc u l).map ic)]):=by
  have rr0 b' (h:((dg u l).act)=b':=by first|(rw[hj0.2.1];rfl)|(rw[hj0.2.2];rfl)|(rw[hj0.2.2.1];rfl)|(rw[hj0.2.2.2];simp only[fc,dC])|exact aZ gY _):=h;have rr1 b' (h:((dg u l).item)=b':=by first|(rw[hj0.2.1];rfl)|(rw[hj0.2.2];rfl)|(rw[hj0.2.2.1];rfl)|(rw[hj0.2.2.2];simp only[fc,dC])|exact aZ gY _):=h;have rr2 b' (h:((dg u l).n)=b':=by first|(rw[hj0.2.1];rfl)|(rw[hj0.2.2];rfl)|(rw[hj0.2.2.1];rfl)|(rw[hj0.2.2.2];simp only[fc,dC])|exact aZ gY _):=h;have rr3 b' (h:((dg u l).kind)=b':=by first|(rw[hj0.2.1];rfl)|(rw[hj0.2.2];rfl)|(rw[hj0.2.2.1];rfl)|(rw[hj0.2.2.2];simp only[fc,dC])|exact aZ gY _):=h;have rr4 b' (h:((dg u l).label)=b':=by first|(rw[hj0.2.1];rfl)|(rw[hj0.2.2];rfl)|(rw[hj0.2.2.1];rfl)|(rw[hj0.2.2.2];simp only[fc,dC])|exact aZ gY _):=h;have rr5 b' (h:(List.map aQ (dg u l).head)=b':=by first|(rw[hj0.2.1];rfl)|(rw[hj0.2.2];rfl)|(rw[hj0.2.2.1];rfl)|(rw[hj0.2.2.2];simp only[fc,dC])|exact aZ gY _):=h;have rr6 b' (h:(List.map aQ (dg u l).words)=b':=by first|(rw[hj0.2.1];rfl)|(rw[hj0.2.2];rfl)|(rw[hj0.2.2.1];rfl)|(rw[hj0.2.2.2];simp only[fc,dC])|exact aZ gY _):=h;have rr7 b' (h:(List.map aY (dg u l).kids)=b':=by first|(rw[hj0.2.1];rfl)|(rw[hj0.2.2];rfl)|(rw[hj0.2.2.1];rfl)|(rw[hj0.2.2.2];simp only[fc,dC])|exact aZ gY _):=h;have rr8 b' (h:((fc u l).map ic)=b':=by first|(rw[hj0.2.1];rfl)|(rw[hj0.2.2];rfl)|(rw[hj0.2.2.1];rfl)|(rw[hj0.2.2.2];simp only[fc,dC])|exact aZ gY _):=h;exact bD Tryz.func59<|Kl 2 5 bN<|Kl 2 12 (ln aq l)<|Mg 0<|Zz TUnit Nat Nat (List PFail) aq l u [2,4,6,11,12,13] (fun a _ b=>([bz 0 0 0 0,bz 1 0 0 0,ah,aW<|l.map aq,nV l.length,nV a],[aX 8 false 0 [aj [iV b.act,iV b.item,iV b.n,iV b.kind,aV b.label,aW<|b.head.map aQ,aW<|b.words.map aQ,aW<|b.kids.map aY]],aX 8 false 0 [aj [iV 0,iV 0,iV 0,iV 0,aV [],ah,ah,ah]]])) (fun a _ b c e f=>([bz 0 0 0 0,bz 1 0 0 0,aM 2 c 0 e none,aW<|l.map aq,nV l.length,nV a],[aX 8 false 0 [aj [iV b.act,iV b.item,iV b.n,iV b.kind,aV b.label,aW<|b.head.map aQ,aW<|b.words.map aQ,aW<|b.kids.map aY]],aX 8 false 0 [aj [iV 0,iV 0,iV 0,iV 0,aV [],ah,ah,ah]],aX 3 true c<|f.map ic])) (fun a b=>OkB b∧dg u l=dg b a∧fc u l=fc b a) (fun a b _ c e=>OkB b∧c=e.length∧dg u l=dg b a∧fc u l=e++fc b a) sA (fun _ _ a _ _ _ b hj0=>Kh 0 b<|Kl 3 5 bN<|Mf<|eN<|.cons (aT (.cons (li<|rr0 a.act)<|.cons (li<|rr1 a.item)<|.cons (li<|rr2 a.n)<|.cons (li<|rr3 a.kind)<|.cons (Le.str<|rr4 a.label)<|.cons (bR<|rr5<|a.head.map aQ)<|.cons (bR<|rr6<|a.words.map aQ)<|.cons (bR<|rr7<|a.kids.map aY) .nil)<|by kernel_rfl)<|.cons (bR<|rr8 []) .nil) (fun a _ b c _ e f g i j k _ n hj0=>have c:=ho _<|bQ c j;Kt 0 k<|Mx n<|Kp 5 (Jg e.it.kind)<|Kn 0 (qL e.it.kind) (fun _=>Kl 0 40 (dU a)<|K1 0 (.frz 2 [2,4,6,11,12,13]) (cZ rt rt ti)<|Mf<|g b<|by grind[YQ]) fun j=>Kp 1 (Vn b e sA c j)<|Kc 7 (jt b e).2 0 (fun _ _=>Kl 12 40 (dU a)<|Mg 0<|M0 (.ren [0,1,4,2,3] [] [2,4,6,11,12,13])<|M1 (.frz 3 [2,4,6,11,12,13]) (jX rt rt rt ti)<|Mf<|i (jt b e).1 0 1 [PFail.mk e.act e.item (jt b e).2]<|by exact⟨(rp ⟨hj0.1,c,by omega⟩).2,rfl,hj0.2.1.trans (Ss (by omega) (by omega)).1,hj0.2.2.trans (Ss (by omega) (by omega)).2⟩) fun _ _=>Kl 2 40 (dU a)<|K1 0 (.frz 2 [2,4,6,11,12,13]) (cZ rt rt ti)<|Mf<|g (jt b e).1<|by exact⟨(rp ⟨hj0.1,c,by omega⟩).2,hj0.2.1.trans (Su (by omega) (by omega)).1,hj0.2.2.trans (Su (by omega) (by omega)).2⟩) (fun _ _ a b c e _ _ _ f hj0=>Kh 0 f<|Mg 3<|M2 (.fsl 2 [4] 5<|e.map ic) (cZ rt rt ti) (cZ (az b) (tA ic e c (oA:(e).length=c))<|aZ gY e)<|Ml 5 (eX (e.map ic) false<|aZ gY e)<|Mf<|eN<|.cons (aT (.cons (li<|rr0 a.act)<|.cons (li<|rr1 a.item)<|.cons (li<|rr2 a.n)<|.cons (li<|rr3 a.kind)<|.cons (Le.str<|rr4 a.label)<|.cons (bR<|rr5<|a.head.map aQ)<|.cons (bR<|rr6<|a.words.map aQ)<|.cons (bR<|rr7<|a.kids.map aY) .nil)<|by kernel_rfl)<|.cons (bR<|rr8<|e.map ic) .nil) fun a _ b c e f g _ i j _ k n o _ p hj0=>have g:=ho _<|bQ g n;Kt 0 o<|Mx p<|Kp 5 (Jg i.it.kind)<|Kn 0 (qL i.it.kind) (fun _=>Kl 0 40 (dU a)<|K1 0 (.frz 3 [2,4,6,11,12,13]) (jX (tR 3 true c 3<|aZ gY f) rt rt ti)<|Mf<|k b c e f<|by grind[YQ]) fun n=>Kp 1 (Vn b i sA g n)<|Kc 7 (jt b i).2 0 (fun _ _=>K1 7 .app (cZ (az c) (sA:e=(f.map ic).length) (by(have z:=I9 hj0.2.2.2;have z2:=hj0.2.1;refine aD (m:=2^31) ?_ ?_ ?_<;>omega):small (e+1) 24=true))<|M1 (.obj 2<|aX 3 true (c+1)<|(f++[PFail.mk i.act i.item (jt b i).2]).map ic) (congrArg (aX 3 true<|c+1)<|cS (f:=ic) (l:=f) (ws:=[PFail.mk i.act i.item (jt b i).2]))<|Kl 3 40 (dU a)<|K1 0 (.frz 3 [2,4,6,11,12,13]) (jX (tR 3 true (c+1) 3<|aZ gY<|f++[PFail.mk i.act i.item (jt b i).2]) rt rt ti)<|Mf<|k (jt b i).1 (c+1) (e+1) (f++[PFail.mk i.act i.item (jt b i).2])<|by exact⟨(rp ⟨hj0.1,g,by omega⟩).2,by simp_all,hj0.2.2.1.trans (Ss (by omega) (by omega)).1,hj0.2.2.2.trans (by grind[Ss])⟩) fun _ _=>Kl 2 40 (dU a)<|K1 0 (.frz 3 [2,4,6,11,12,13]) (jX (tR 3 true c 3<|aZ gY f) rt rt ti)<|Mf<|k (jt b i).1 c e f<|by exact⟨(rp ⟨hj0.1,g,by omega⟩).2,hj0.2.1,hj0.2.2.1.trans (Su (by omega) (by omega)).1,hj0.2.2.2.trans (by grind[Su])⟩
end Go.Proofs.YtaepacpodblomaaGreatDoor
