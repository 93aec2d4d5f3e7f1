/- Functions walked: what each of them answers, for the law that an act has touched the units that its number names, and that items are effective only while they are in force: part 5. Conditions: those that each theorem names. -/
import Derived.Test.YtiflidpifinbjaaGreatDoorH4
namespace Go.Proofs.YtiflidpifinbjaaGreatDoor
open Go Go.Ev
noncomputable abbrev C0(l:lag):AObj:=.row 4 true 0 (l.map aQ)
noncomputable def Gb:TypeInfo:=(Tryz.prog.info? 175).getD default
theorem Ga:Tryz.prog.info? 175=some Gb:=by kernel_rfl
theorem zp:Gb.size=4:=by kernel_rfl
theorem xb:Gb.bytes=40:=by kernel_rfl
theorem XL(l:lag):dL 4 (l.map aQ)=true:=gN (λw=>by cases w;rfl) l
theorem cl4(ws:lag)(hl:ws.length<=2^20)(a b c d:AObj):kD 107 [.ls (ws.map aQ)] (aw [a,b,c,d]) (.sl0 4 0 ws.length none) (aw [a,b,c,d,C0 ws]):=by
  by_cases hne:ws=[]
  · subst hne
    have hE:(aw [a,b,c,d]).push (C0 [])=aw [a,b,c,d,C0 []]:=by kernel_rfl
    have h:=aO.psh (o:=C0 []) (u:=.sl0 4 0 0 none) (sj [] (by omega) (aw [a,b,c,d])) F4
    simp_all
  have hn:ws.map aQ≠[]:=λh=>hne (List.map_eq_nil_iff.1 h)
  have hf:=XL ws
  have hsm:small (ws.map aQ).length 40=true:=by grind[aN]
  have hlen:ws.length=(ws.map aQ).length:=(cw ..).symm
  unfold C0
  rw[hlen]
  generalize ws.map aQ=L at hn hf hsm
  refine(aO.less (Ψ:=λv h=>v=.slice 4 0 0 L.length none/\h=aw [a,b,c,d,.row 4 true 0 L]) ?_ λv h ⟨h1,h2⟩=>⟨_,h1▸Le.sl0,rfl,h2⟩)
  refine aO.enter 2 (fn:=Tryz.f107) Tryz.func107 (by kernel_rfl) rfl ⟨by kernel_rfl,by kernel_rfl⟩ ?_
  refine aA.seq (aA.mono (Fz na gM (ev 40) (s':=⟨eh 8 [(0,.ls L),(2,.nils)],aw [a,b,c,d]⟩) (.go 0 .fin) (by kernel_rfl)) ?_)
  rintro _ _ ⟨rfl,rfl⟩
  refine aA.seq (aA.seq (aA.mono (yP gM (ev 40) (Ψ:=λs=>s=⟨eh 8 [(0,.ls L),(2,.nils),(3,.ps L false),(4,.bool false)],aw [a,b,c,d]⟩) (.go 0 (.nz 3 .abs (.go 0 .fin)))
    (W:=(L=[]->False)/\(⟨eh 8 [(0,.ls L),(2,.nils),(3,.ps L false),(4,.bool false)],aw [a,b,c,d]⟩:St)=⟨eh 8 [(0,.ls L),(2,.nils),(3,.ps L false),(4,.bool false)],aw [a,b,c,d]⟩) ⟨hn,rfl⟩ (by kernel_rfl)) ?_))
  rintro _ _ ⟨rfl,rfl⟩
  refine aA.cond (t:=false) (by kernel_rfl) (λh=>by grind) λ_=>aA.skip ?_
  refine aA.seq (aA.region ?_)
  show cE _ _ _ _ [_,_,_,_] _ _
  refine cE.one (s':=⟨eh 8 [(0,.ls L),(2,.nils),(3,.ps L false),(4,.bool false),(5,.ps [] true)],aw [a,b,c,d]⟩) (ev 40) (by kernel_rfl) ?_
  refine cE.one (s':=⟨eh 8 [(0,.ls L),(2,.nils),(3,.ps L false),(4,.bool false),(5,.ps [] true),(6,.ls L)],aw [a,b,c,d]⟩) (ev 40) (by kernel_rfl) ?_
  refine sg (I:=λk:Nat=>k=0) (r:=λ_=>.slice 4 0 0 L.length none) (H:=λ_=>aw [a,b,c,d,.row 4 true 0 L]) (by kernel_rfl)
    (λpl M a w g1 g2 g3=>yz (z:=aQ ⟨[],0,0,0⟩) (z0:=aQ ⟨[],0,0,0⟩) (xs:=L) (t:=29) (tx:=29) (e:=175) (i:=Gb) zp xb (by kernel_rfl) ⟨175,by kernel_rfl⟩ Ga (by kernel_rfl) (Le.refl _) (by kernel_rfl) (by kernel_rfl) hn hf (by kernel_rfl) hsm (by omega) pl M a w g1 g2 g3) λk _=>?_
  refine⟨eh 8 [(0,.ls L),(2,.nils),(3,.ps L false),(4,.bool false),(5,.ps [] true),(6,.ls L),(7,.slice 4 0 0 L.length none)],by kernel_rfl,?_⟩
  refine cE.one (s':=⟨eh 8 [(0,.ls L),(2,.slice 4 0 0 L.length none),(3,.ps L false),(4,.bool false),(5,.ps [] true),(6,.ls L),(7,.slice 4 0 0 L.length none)],aw [a,b,c,d,.row 4 true 0 L]⟩) (ev 40) (by kernel_rfl) (cE.nil (aA.ret ⟨λid h=>(by grind),.slice 4 0 0 L.length none,by kernel_rfl,by kernel_rfl,by kernel_rfl⟩))
theorem cl5(ws:lag)(hl:ws.length<=2^20)(a b c d e:AObj):kD 107 [.ls (ws.map aQ)] (aw [a,b,c,d,e]) (.sl0 5 0 ws.length none) (aw [a,b,c,d,e,C0 ws]):=by
  by_cases hne:ws=[]
  · subst hne
    have hE:(aw [a,b,c,d,e]).push (C0 [])=aw [a,b,c,d,e,C0 []]:=by kernel_rfl
    have h:=aO.psh (o:=C0 []) (u:=.sl0 5 0 0 none) (sj [] (by omega) (aw [a,b,c,d,e])) F4
    simp_all
  have hn:ws.map aQ≠[]:=λh=>hne (List.map_eq_nil_iff.1 h)
  have hf:=XL ws
  have hsm:small (ws.map aQ).length 40=true:=by grind[aN]
  have hlen:ws.length=(ws.map aQ).length:=(cw ..).symm
  unfold C0
  rw[hlen]
  generalize ws.map aQ=L at hn hf hsm
  refine(aO.less (Ψ:=λv h=>v=.slice 5 0 0 L.length none/\h=aw [a,b,c,d,e,.row 4 true 0 L]) ?_ λv h ⟨h1,h2⟩=>⟨_,h1▸Le.sl0,rfl,h2⟩)
  refine aO.enter 2 (fn:=Tryz.f107) Tryz.func107 (by kernel_rfl) rfl ⟨by kernel_rfl,by kernel_rfl⟩ ?_
  refine aA.seq (aA.mono (Fz na gM (ev 40) (s':=⟨eh 8 [(0,.ls L),(2,.nils)],aw [a,b,c,d,e]⟩) (.go 0 .fin) (by kernel_rfl)) ?_)
  rintro _ _ ⟨rfl,rfl⟩
  refine aA.seq (aA.seq (aA.mono (yP gM (ev 40) (Ψ:=λs=>s=⟨eh 8 [(0,.ls L),(2,.nils),(3,.ps L false),(4,.bool false)],aw [a,b,c,d,e]⟩) (.go 0 (.nz 3 .abs (.go 0 .fin)))
    (W:=(L=[]->False)/\(⟨eh 8 [(0,.ls L),(2,.nils),(3,.ps L false),(4,.bool false)],aw [a,b,c,d,e]⟩:St)=⟨eh 8 [(0,.ls L),(2,.nils),(3,.ps L false),(4,.bool false)],aw [a,b,c,d,e]⟩) ⟨hn,rfl⟩ (by kernel_rfl)) ?_))
  rintro _ _ ⟨rfl,rfl⟩
  refine aA.cond (t:=false) (by kernel_rfl) (λh=>by grind) λ_=>aA.skip ?_
  refine aA.seq (aA.region ?_)
  show cE _ _ _ _ [_,_,_,_] _ _
  refine cE.one (s':=⟨eh 8 [(0,.ls L),(2,.nils),(3,.ps L false),(4,.bool false),(5,.ps [] true)],aw [a,b,c,d,e]⟩) (ev 40) (by kernel_rfl) ?_
  refine cE.one (s':=⟨eh 8 [(0,.ls L),(2,.nils),(3,.ps L false),(4,.bool false),(5,.ps [] true),(6,.ls L)],aw [a,b,c,d,e]⟩) (ev 40) (by kernel_rfl) ?_
  refine sg (I:=λk:Nat=>k=0) (r:=λ_=>.slice 5 0 0 L.length none) (H:=λ_=>aw [a,b,c,d,e,.row 4 true 0 L]) (by kernel_rfl)
    (λpl M a w g1 g2 g3=>yz (z:=aQ ⟨[],0,0,0⟩) (z0:=aQ ⟨[],0,0,0⟩) (xs:=L) (t:=29) (tx:=29) (e:=175) (i:=Gb) zp xb (by kernel_rfl) ⟨175,by kernel_rfl⟩ Ga (by kernel_rfl) (Le.refl _) (by kernel_rfl) (by kernel_rfl) hn hf (by kernel_rfl) hsm (by omega) pl M a w g1 g2 g3) λk _=>?_
  refine⟨eh 8 [(0,.ls L),(2,.nils),(3,.ps L false),(4,.bool false),(5,.ps [] true),(6,.ls L),(7,.slice 5 0 0 L.length none)],by kernel_rfl,?_⟩
  refine cE.one (s':=⟨eh 8 [(0,.ls L),(2,.slice 5 0 0 L.length none),(3,.ps L false),(4,.bool false),(5,.ps [] true),(6,.ls L),(7,.slice 5 0 0 L.length none)],aw [a,b,c,d,e,.row 4 true 0 L]⟩) (ev 40) (by kernel_rfl) (cE.nil (aA.ret ⟨λid h=>(by grind),.slice 5 0 0 L.length none,by kernel_rfl,by kernel_rfl,by kernel_rfl⟩))
noncomputable abbrev EM(u:TUnit)(k:AV):AV:=.agg [iV u.act,iV u.item,iV u.n,iV u.kind,.str u.label,.sl0 3 0 u.head.length none,.sl0 4 0 u.words.length none,k]
noncomputable abbrev WS(u:TUnit)(i j:Nat)(k:AV):AObj:=.row 8 false 0 [.agg [iV u.act,iV u.item,iV u.n,iV u.kind,.str u.label,.sl0 i 0 u.head.length none,.sl0 j 0 u.words.length none,k]]
theorem abm(u:TUnit)(hk:0<u.kids.length)(hn:nU u<=2^20)(ht:∀x,x∈bV u->x.head.length<=2^20/\x.words.length<=2^20):kC 70 [eU u] (aw [xe u,xw])
    (λv h=>∃y:Nat×Nat×lad,(y.2.1=u.kids.length/\y.2.2=u.kids)/\v=EM u (.slice 5 y.1 0 y.2.1 none)/\h=aw [xe u,xw,WS u 3 4 (.slice 5 y.1 0 y.2.1 none),C0 u.head,C0 u.words,.row 8 true y.1 (y.2.2.map aU)]):=by
  have hkl:=bB u
  have c1:=(ht u (dU u)).1
  have c2:=(ht u (dU u)).2
  have ihk:∀k,k∈u.kids->kP 70 [eU k] (eU k):=λk hk=>IC k (b0 (oK (iI hk)) hn) (λx hx=>⟨mR (ht x (bi hk hx)).1 (by omega),mR (ht x (bi hk hx)).2 (by omega)⟩)
  let q1:=[av (uLx u)];let q2:=[av [iV 0,iV 0,iV 0,iV 0,aj [],ah,ah,ah]];let q3:=aZ 8 false 0 q2;let q4:=aZ 8 false 0 q1;let q5:=List.map aQ u.head;let q6:=aZ 4 true 0 q5;exact qH Tryz.func70 λa=>Mg 3<|M3 (.efx true (AV.sl0 4 0 u.head.length none)<|aw [aZ 8 false 0 q1,aZ 8 false 0 q2,aZ 8 false 0 q1,aZ 8 false 0 q2,aZ 4 true 0 q5]) (qh rt rt rt rt ti) (qh (aY<|some q3) (aY<|some q4) (aY<|some q3) (aY<|some q4) ti) (cl4 u.head c1 q4 q3 q4 q3)<|Mg 1<|M3 (.efx true (AV.sl0 5 0 u.words.length none)<|aw [aZ 8 false 0 q1,aZ 8 false 0 q2,aZ 8 false 0 q1,aZ 8 false 0 q2,aZ 4 true 0 q5,aZ 4 true 0<|u.words.map aQ]) (od (tR 4 true 0 5<|aX i9 u.head) rt rt rt rt ti) (od (aY<|some q6) (aY<|some q3) (aY<|some q4) (aY<|some q3) (aY<|some q4) ti) (cl5 u.words c2 q4 q3 q4 q3 q6)<|Kl 7 16 (ln aU u.kids)<|Mg 0<|ky Nat Nat lad aU u.kids [1,2,3,15,16,17] (λa _=>([bY 2 0 0 0,bY 3 0 0 0,ah,aW<|u.kids.map aU,nV u.kids.length,nV a],[aZ 8 false 0 [av (uLx u)],aZ 8 false 0 [av [iV 0,iV 0,iV 0,iV 0,aj [],ah,ah,ah]],aZ 8 false 0 [av [iV u.act,iV u.item,iV u.n,iV u.kind,aj u.label,AV.sl0 4 0 u.head.length none,AV.sl0 5 0 u.words.length none,aW<|u.kids.map aU]],aZ 8 false 0 [av [iV 0,iV 0,iV 0,iV 0,aj [],ah,ah,ah]],aZ 4 true 0<|u.head.map aQ,aZ 4 true 0<|u.words.map aQ])) (λa _ b c d=>([bY 2 0 0 0,bY 3 0 0 0,aM 6 b 0 c none,aW<|u.kids.map aU,nV u.kids.length,nV a],[aZ 8 false 0 [av (uLx u)],aZ 8 false 0 [av [iV 0,iV 0,iV 0,iV 0,aj [],ah,ah,ah]],aZ 8 false 0 [av [iV u.act,iV u.item,iV u.n,iV u.kind,aj u.label,AV.sl0 4 0 u.head.length none,AV.sl0 5 0 u.words.length none,aW<|u.kids.map aU]],aZ 8 false 0 [av [iV 0,iV 0,iV 0,iV 0,aj [],ah,ah,ah]],aZ 4 true 0<|u.head.map aQ,aZ 4 true 0<|u.words.map aQ,aZ 8 true b<|d.map aU])) (λa=>a=u.kids) (λa _ b c=>b=c.length/\(0:Nat)<c.length/\c++a=u.kids/\c.length+a.length=u.kids.length) (by rfl) (λ_ _ _ _ _ a _=>Kh 0 a<|Mg 4<|Mw .abs (sA:False)) (λa _ _ b c d _ e f g _ i _=>have i:=(i).trans<|congrArg some<|bQ c;have b:=bT (J:=λa _=>a=u.kids) (a:=()) f b;Kt 0 g<|Mx i<|Kp 4 (ihk c gR)<|K1 1 (.obj 7<|aZ 8 true 0<|List.map aU [c]) (congrArg (aZ 8 true 0)<|PX (f:=aU) (g:=Go.Ev.eU) (ws:=[c]) bQ)<|Kl 1 26 (dQ a)<|Mg 0<|Mw (.ren [0,1,2,3,4,5,7,6] [4,5,7] [1,2,3,15,16,17]<|.frz 7 [1,2,3,15,16,17] .fin)<|qh (tS 4 true 0<|aX i9 u.head) (tS 4 true 0<|aX i9 u.words) (tS 8 true 0<|aX gO [c]) (et8 (tR 8 true 0 7<|aX gO [c]) (tR 4 true 0 7<|aX i9 u.words) (tR 4 true 0 7<|aX i9 u.head) rt rt rt rt ti)<|e 0 1 [c]<|by(refine⟨rfl,by simp,?_,?_⟩<;>(rw[<-b])<;>(first|rfl|grind))) (λ_ _ b c d _ _ _ e _=>Kh 0 e<|Mg 4<|Mw (.ren [0,1,3,4,5,6,2] [4,5,6] [2]<|.frz 6 [2] .fin)<|qh (tS 4 true 0<|aX i9 u.head) (tS 4 true 0<|aX i9 u.words) (tS 8 true b<|aX gO d) (Ik (tR 8 true b 6<|aX gO d) (tR 4 true 0 6<|aX i9 u.words) (tR 4 true 0 6<|aX i9 u.head) rt rt rt ti)<|a (b,c,d) sA) λa _ b c d _ e f g _ i j l _ n _=>have n:=(n).trans<|congrArg some<|bQ f;have e:=bT (J:=λa b=>b.2.1=b.2.2.length/\(0:Nat)<b.2.2.length/\b.2.2++a=u.kids/\b.2.2.length+a.length=u.kids.length) (a:=(b,c,d)) j e;Kt 0 l<|Mx n<|Kp 4 (ihk f gR)<|K1 0 .app (cL (aY b) (sA:c=(d.map aU).length) (by(refine aN (m:=2^21) ?_ ?_ ?_<;>omega):small (c+1) 120=true))<|M1 (.obj 6<|aZ 8 true (b+1)<|(d++[f]).map aU) (congrArg (aZ 8 true<|b+1)<|y8 (f:=aU) (g:=Go.Ev.eU) (l:=d) (ws:=[f]) bQ)<|Kl 1 26 (dQ a)<|K1 0 (.frz 7 [1,2,3,15,16,17]) (et8 (tR 8 true (b+1) 7<|aX gO<|d++[f]) (tR 4 true 0 7<|aX i9 u.words) (tR 4 true 0 7<|aX i9 u.head) rt rt rt rt ti)<|Mf<|i (b+1) (c+1) (d++[f])<|by(refine⟨by simp_all,by simp,?_,?_⟩<;>first|(rw[<-e.2.2.1];simp;done)|grind)
theorem abn(u:TUnit)(hk:u.kids=[])(ht:∀x,x∈bV u->x.head.length<=2^20/\x.words.length<=2^20):kD 70 [eU u] (aw [xe u,xw]) (EM u .nils) (aw [xe u,xw,WS u 3 4 .nils,C0 u.head,C0 u.words]):=by
  have c1:=(ht u (dU u)).1
  have c2:=(ht u (dU u)).2
  have hz:aE 0 (Int.ofNat u.kids.length)=false:=by rw[hk];rfl
  let q:=[av (uLx u)];let q1:=[av [iV 0,iV 0,iV 0,iV 0,aj [],ah,ah,ah]];let q2:=[aZ 8 false 0 q,aZ 8 false 0 q1,aZ 8 false 0 [av [iV u.act,iV u.item,iV u.n,iV u.kind,aj u.label,AV.sl0 4 0 u.head.length none,AV.sl0 5 0 u.words.length none,aW (u.kids.map aU)]],aZ 8 false 0 q1,aZ 4 true 0 (u.head.map aQ),aZ 4 true 0 (u.words.map aQ)];let q3:=aZ 8 false 0 q1;let q4:=aZ 8 false 0 q;let q5:=[bY 2 0 0 0,bY 3 0 0 0,ah,aW (u.kids.map aU),nV u.kids.length,iV 0];let q6:=List.map aQ u.head;let q7:=aZ 4 true 0 q6;exact eg Tryz.func70 λa=>Mg 3<|M3 (.efx true (AV.sl0 4 0 u.head.length none)<|aw [aZ 8 false 0 q,aZ 8 false 0 q1,aZ 8 false 0 q,aZ 8 false 0 q1,aZ 4 true 0 q6]) (qh rt rt rt rt ti) (qh (aY<|some q3) (aY<|some q4) (aY<|some q3) (aY<|some q4) ti) (cl4 u.head c1 q4 q3 q4 q3)<|Mg 1<|M3 (.efx true (AV.sl0 5 0 u.words.length none)<|aw [aZ 8 false 0 q,aZ 8 false 0 q1,aZ 8 false 0 q,aZ 8 false 0 q1,aZ 4 true 0 q6,aZ 4 true 0<|u.words.map aQ]) (od (tR 4 true 0 5<|aX i9 u.head) rt rt rt rt ti) (od (aY<|some q7) (aY<|some q3) (aY<|some q4) (aY<|some q3) (aY<|some q4) ti) (cl5 u.words c2 q4 q3 q4 q3 q7)<|Kl 7 16 (ln aU u.kids)<|Mg 0<|Z2 [1,2,3,15,16,17] (q5,q2) True 0 ti λ_ _=>Kh 0 hz<|Mg 4<|M2 (.ren [0,1,3,4,5,2] [4,5] [2]) (tS 4 true 0<|aX i9 u.head) (tS 4 true 0<|aX i9 u.words)<|M1 (.frz 5 [2]) (od (tR 4 true 0 5<|aX i9 u.words) (tR 4 true 0 5<|aX i9 u.head) rt rt rt ti)<|Mf a
noncomputable abbrev kdO(ep:Nat)(l:lad):AObj:=.row 8 true ep (l.map aU)
theorem Nk(u:TUnit){k k':AV}(h:Le k k')(h2:dq k=true):Le (EM u k) (EM u k'):=bJ (.cons (Le.refl _) (.cons (Le.refl _) (.cons (Le.refl _) (.cons (Le.refl _) (.cons (Le.refl _) (.cons (Le.refl _) (.cons (Le.refl _) (.cons h .nil)))))))) (by simp only[List.all_cons,List.all_nil,h2];rfl)
theorem abl(u:TUnit)(hn:nU u<=2^20)(ht:∀x,x∈bV u->x.head.length<=2^20/\x.words.length<=2^20):kC 70 [eU u] (aw [xe u,xw])
    (λv h=>∃ep:Nat,True/\v=EM u (.sl0 5 ep u.kids.length none)/\h=aw [xe u,xw,.dead,C0 u.head,C0 u.words,kdO ep u.kids]):=by
  rcases Nat.eq_zero_or_pos u.kids.length with hk|hk
  · have hk:=List.length_eq_zero_iff.1 hk
    refine aO.dead (i:=2) (LC (Ψ':=λv h=>v=EM u (.sl0 5 0 0 none)/\h=aw [xe u,xw,WS u 3 4 .nils,C0 u.head,C0 u.words,kdO 0 u.kids]) (kdO 0 u.kids) (abn u hk ht) λv h' ⟨h1,h2⟩=>⟨EM u (.sl0 5 0 0 none),h1▸Nk u Le.sl0n rfl,rfl,?_⟩) (ar 2) (by omega) λv h' ⟨h1,h2⟩=>⟨0,trivial,by simp_all,?_⟩
    · rw[h2];kernel_rfl
    · rw[h2];kernel_rfl
  · refine aO.dead (i:=2) (aO.less (Ψ':=λv h=>∃ep:Nat,v=EM u (.sl0 5 ep u.kids.length none)/\h=aw [xe u,xw,WS u 3 4 (.slice 5 ep 0 u.kids.length none),C0 u.head,C0 u.words,kdO ep u.kids]) (abm u hk hn ht) λv h' ⟨y,⟨e1,e2⟩,h1,h2⟩=>⟨EM u (.sl0 5 y.1 u.kids.length none),?_,y.1,rfl,?_⟩) (ar 2) (by omega) λv h' ⟨ep,h1,h2⟩=>⟨ep,trivial,h1,?_⟩
    · rw[h1,e1];exact Nk u Le.sl0 rfl
    · simp_all
    · rw[h2];kernel_rfl
def lZ{α:Type}(f:α->α)(l:List α)(i:Nat):List α:=(l.take i).map f++l.drop i
theorem wt{α:Type}{f:α->α}{l:List α}{i:Nat}:(lZ f l i).length=l.length:=by
  grind[lZ]
theorem wA{α:Type}{f:α->α}{l:List α}{i:Nat}(h:l.length<=i):lZ f l i=l.map f:=by
  grind[lZ,List.take_of_length_le]
theorem AB{α:Type}[Inhabited α]{f:α->α}{l:List α}{i:Nat}(h:i<l.length):gD (lZ f l i) i=gD l i:=by
  have e:((l.take i).map f).length=i:=by grind
  simp_all[lZ,gD,ot]
theorem Dm{α:Type}[Inhabited α]{f:α->α}{l:List α}{i:Nat}(h:i<l.length):(lZ f l i).set i (f (gD l i))=lZ f l (i+1):=by
  have e:((l.take i).map f).length=i:=by grind
  have hg:gD l i=l[i]:=by unfold gD;simp_all
  unfold lZ
  rw[List.set_append_right _ _ (by omega),e,Nat.sub_self,hg,Qx h,List.set_cons_zero,Qj h,mT,iQ]
  rfl
theorem AA{l:lag}{i:Nat}(h:i<l.length):(lZ iU l i).set i ⟨(gD (lZ iU l i) i).text,0,0,0⟩=lZ iU l (i+1):=by
  rw[AB h];exact Dm h
theorem QE:∀u:TUnit,nU u<=2^20->(∀x,x∈bV u->x.head.length<=2^20/\x.words.length<=2^20)->kP 289 [eU u] (eU (dY u)):=by
  refine TUnit.ind λu ih hn ht=>?_
  have hkl:=bB u
  have c1:=(ht u (dU u)).1
  have c2:=(ht u (dU u)).2
  have hc:=abl u hn ht
  have ihk:∀k,k∈u.kids->kP 289 [eU k] (eU (dY k)):=λk hk=>ih k hk (b0 (oK (iI hk)) hn) (λx hx=>ht x (bi hk hx))
  rw[mI]
  have rr0 b' (h:(List.map aQ (TUnit.mk 0 0 0 u.kind u.label (u.head.map iU) (u.words.map iU) (u.kids.map dY)).head)=b':=by(rw[hx1.2,wA (by(simp only[oN]at *;omega))];rfl)):=h;have rr1 b' (h:(List.map aQ (TUnit.mk 0 0 0 u.kind u.label (u.head.map iU) (u.words.map iU) (u.kids.map dY)).words)=b':=by(rw[hx2.2,wA (by(simp only[oN]at *;omega))];rfl)):=h;have rr2 b' (h:(List.map aU (TUnit.mk 0 0 0 u.kind u.label (u.head.map iU) (u.words.map iU) (u.kids.map dY)).kids)=b':=by(rw[hx3.2,wA (by(simp only[oN]at *;omega))];rfl)):=h;exact bH Tryz.func289<|Mg 2<|Mq hc λa _=>Mg 10<|M0 (.un 2)<|Mg 7<|OY (0:Nat) u.head [1,2,4,15,16,17,22,23] (λb c=>([bY 0 0 0 0,bY 1 0 0 0,AV.sl0 3 0 u.head.length none,jV [AV.sl0 3 0 u.head.length none,AV.sl0 4 0 u.words.length none] true,iV 2,iV 0,nV u.head.length,nV b],[aZ 8 false 0 [av [iV 0,iV 0,iV 0,iV u.kind,aj u.label,AV.sl0 3 0 u.head.length none,AV.sl0 4 0 u.words.length none,AV.sl0 5 a u.kids.length none]],aZ 8 false 0 [av [iV 0,iV 0,iV 0,iV 0,aj [],ah,ah,ah]],AObj.dead,aZ 4 true 0<|c.map aQ,aZ 4 true 0<|u.words.map aQ,aZ 8 true a<|u.kids.map aU])) (λa b=>a<=u.head.length/\b=lZ iU u.head a) (λa _=>u.head.length-a) (by exact⟨b6 _,rfl⟩) λb c hx1 d=>have hx1:b<=u.head.length/\c=lZ iU u.head b:=hx1;have:c.length=u.head.length:=(by grind[wt]);Ka 0 (Int.ofNat b) (Int.ofNat u.head.length) (λ_ _=>K1 4 .rix (et (aY 0) (sA:b<u.head.length))<|K1 0 (.rst (aQ<|gD c b)<|(c.set b<|PWord.mk (gD c b).text 0 0 0).map aQ) (cL (aY 0) (bw aQ (sA:b<(c).length))<|ki (f:=aQ) (l:=c) (i:=b) (w:=PWord.mk (gD c b).text 0 0 0))<|Kl 0 31 (jo b)<|Kf 0<|d (b+1) (c.set b<|PWord.mk (gD c b).text 0 0 0) (by grind[AA]) gR) λ_ _=>Mg 9<|OY (0:Nat) u.words [1,2,4,15,16,17,22,23] (λb d=>([bY 0 0 0 0,bY 1 0 0 0,AV.sl0 4 0 u.words.length none,jV [AV.sl0 3 0 u.head.length none,AV.sl0 4 0 u.words.length none] true,iV 2,iV 1,nV u.words.length,nV b],[aZ 8 false 0 [av [iV 0,iV 0,iV 0,iV u.kind,aj u.label,AV.sl0 3 0 u.head.length none,AV.sl0 4 0 u.words.length none,AV.sl0 5 a u.kids.length none]],aZ 8 false 0 [av [iV 0,iV 0,iV 0,iV 0,aj [],ah,ah,ah]],AObj.dead,aZ 4 true 0<|c.map aQ,aZ 4 true 0<|d.map aQ,aZ 8 true a<|u.kids.map aU])) (λa b=>a<=u.words.length/\b=lZ iU u.words a) (λa _=>u.words.length-a) (by exact⟨b6 _,rfl⟩) λb d hx2 e=>have hx2:b<=u.words.length/\d=lZ iU u.words b:=hx2;have:d.length=u.words.length:=(by grind[wt]);Ka 0 (Int.ofNat b) (Int.ofNat u.words.length) (λ_ _=>K1 4 .rix (et (aY 0) (sA:b<u.words.length))<|K1 0 (.rst (aQ<|gD d b)<|(d.set b<|PWord.mk (gD d b).text 0 0 0).map aQ) (cL (aY 0) (bw aQ (sA:b<(d).length))<|ki (f:=aQ) (l:=d) (i:=b) (w:=PWord.mk (gD d b).text 0 0 0))<|Kl 0 31 (jo b)<|Kf 0<|e (b+1) (d.set b<|PWord.mk (gD d b).text 0 0 0) (by grind[AA]) gR) λ_ _=>Mg 7<|OY (0:Nat) u.kids [1,2,35,36] (λb e=>([bY 0 0 0 0,bY 1 0 0 0,nV u.kids.length,nV b],[aZ 8 false 0 [av [iV 0,iV 0,iV 0,iV u.kind,aj u.label,AV.sl0 3 0 u.head.length none,AV.sl0 4 0 u.words.length none,AV.sl0 5 a u.kids.length none]],aZ 8 false 0 [av [iV 0,iV 0,iV 0,iV 0,aj [],ah,ah,ah]],AObj.dead,aZ 4 true 0<|c.map aQ,aZ 4 true 0<|d.map aQ,aZ 8 true a<|e.map aU])) (λa b=>a<=u.kids.length/\b=lZ dY u.kids a) (λa _=>u.kids.length-a) (by exact⟨b6 _,rfl⟩) λb e hx3 f=>have hx3:b<=u.kids.length/\e=lZ dY u.kids b:=hx3;have:e.length=u.kids.length:=(by grind[wt]);have g:b<u.kids.length->kP (289:FuncId) [eU (gD e b)] (eU (dY (gD e b))):=λh=>ihk _ (by grind[AB,eP]);Ka 0 (Int.ofNat b) (Int.ofNat u.kids.length) (λ_ _=>K1 7 .rix (et (aY a) (sA:b<u.kids.length))<|Mr (et (aY a)<|r9 aU (g:=Go.Ev.eU) bQ (sA:b<(e).length))<|Mp (g sA)<|M1 .rix (et (aY a) (sA:b<u.kids.length))<|M3 (.rst (av [iV (gD e b).act,iV (gD e b).item,iV (gD e b).n,iV (gD e b).kind,aj (gD e b).label,aW<|List.map aQ (gD e b).head,aW<|List.map aQ (gD e b).words,aW<|List.map aU (gD e b).kids])<|(e.set b<|dY<|gD e b).map aU) rt (ic (tR 8 true a 6<|aX gO e) rt) (cL (aY a) (r9 aU (g:=Go.Ev.eU) bQ (sA:b<(e).length))<|EF (f:=aU) (g:=Go.Ev.eU) bQ (l:=e) (i:=b) (w:=dY<|gD e b))<|Kl 0 49 (jo b)<|Kf 0<|f (b+1) (e.set b<|dY<|gD e b) (by grind[AB,Dm]) gR) λ_ _=>M2 (.fza 0 7 5 [1,2]<|e.map aU) (od (tR 4 true 0 5<|aX i9 d) (tR 4 true 0 5<|aX i9 c) rt rt rt ti) (cL (aY a) (tA aU e u.kids.length (oA:(e).length=u.kids.length))<|aX gO e)<|M2 (.fza 0 6 4 [1,2]<|d.map aQ) (qh (tR 4 true 0 4<|aX i9 c) rt rt rt ti) (cL (aY 0) (tA aQ d u.words.length (oA:(d).length=u.words.length))<|aX i9 d)<|M2 (.fza 0 5 3 [1,2]<|c.map aQ) (jp rt rt rt ti) (cL (aY 0) (tA aQ c u.head.length (oA:(c).length=u.head.length))<|aX i9 c)<|Kf 1 (bJ (lc<|lc<|lc<|lc<|lc<|.cons (ch<|rr0<|c.map aQ)<|.cons (ch<|rr1<|d.map aQ)<|.cons (ch<|rr2<|e.map aU) .nil)<|by kernel_rfl:Le _ (AV.agg [iV 0,iV 0,iV 0,iV u.kind,AV.str u.label,AV.ls (c.map aQ),AV.ls (d.map aQ),AV.ls (e.map aU)]))
theorem RL:Go.Proofs.Builder.Extra Tryz.prog Tryz.ljoin_ren:=by
  repeat' (first|kernel_rfl|(intro w;kernel_rfl)|decide|constructor)
theorem Vu(l:laj)(sep:bZ)(h1:l.length<=140737488355328)(h2:(Lib.join l sep).length<=140737488355328):kP 261 [.ls (l.map nD),.str sep] (.str (Lib.join l sep)):=PU (Go.Proofs.enters_of Tryz.func261 (by kernel_rfl) rfl) (λa b c d e f g h i j k=>Go.Proofs.Any.strings_Join Go.Proofs.Tryz.ljoin RL a b c d e f g h i j k) (λa b c d=>Go.Proofs.Any.strings_Join_none Go.Proofs.Tryz.ljoin RL a b c d) l sep h1 h2
theorem aaQ:Go.Proofs.Builder.Extra Tryz.prog Tryz.lrep_ren:=by
  repeat' (first|kernel_rfl|(intro w;kernel_rfl)|decide|constructor)
theorem Yj(s:bZ)(c:Nat)(h1:c<=9223372036854775807)(h2:s.length*c<=140737488355328):kP 306 [.str s,nV c] (.str (Lib.repeatL s c)):=G0 (Go.Proofs.enters_of Tryz.func306 (by kernel_rfl) rfl) (λa b d e f=>Go.Proofs.Any.strings_Repeat Go.Proofs.Tryz.lrep aaQ a b d e f) s c h1 h2
theorem RZ(s:bZ)(ws:lag)(hw:∀w,w∈ws->1<=w.text.length/\w.text.length<=24)(hb:s.length+26*ws.length<=2^40)(hn:ws.length<=2^20):kP 308 [.str s,.ls (ws.map aQ)] (.str (me s ws)):=by
  have rr0 b' (h:(me s ws)=b':=by first|rfl|(exact hj0.1.symm)):=h;exact bH Tryz.func308<|Kl 2 8 (ln aQ ws)<|Mg 0<|UY (0:Nat) ws s [0,7,8,9] (λa _ b=>([aj b,aW<|ws.map aQ,nV ws.length,nV a],[])) (λa b c=>(ws).drop a=b/\me c b=me s ws/\List.length c+26*b.length<=2^40) (λ_ a _=>a.length) (et rfl<|by first|rfl|(first|simp_all|(refine⟨by(rw[<-hj0.1,pX];first|rw[F2 h1]|rw[F1 h1 h2]|rw[F0 h1 h2]),?_⟩;have q:=hj0.2;simp only[lA,lC,lN]at *;omega))) λa b c d e=>Mc b (λa=>have b:=dm d.1 a;have hj0:=eM (J:=λa b=>me b a=me s ws/\List.length b+26*a.length<=2^40) (a:=c) a d.2;Kh 0 b<|Kf 1<|Le.str<|rr0 c) λb f g=>let i:=[aZ 4 false 0 [av [aj b.text,iV b.act,iV b.item,iV b.at_]]];have j:=dI d.1 g;have:=ap j;have k:=dl (enc:=aQ) d.1 g;have hj0:=bT (J:=λa b=>me b a=me s ws/\List.length b+26*a.length<=2^40) (a:=c) g d.2;have:=hw b<|aG d.1 g;Kt 0 j<|Mx k<|Kv 3 (jz (s:=c) (u:=[32]) (H:=aw i) (by(first|first|assumption|omega|grind):(c).length+([32]).length<=2^62))<|K1 2 (.chr<|gD b.text 0) (Ai (by first|omega|(simp only[oN,lM,lS]at *;omega)|(simp only[oN,lM,lS,lA,lR,lC,lN]at * <;>omega):0<(b.text).length))<|Kj 1 (Int.ofNat (gD b.text 0).toNat) 124 (λj _=>Mt j<|Mt j<|Mt j<|MV j<|Kv 1 (jz (s:=c++[32]) (u:=[92]) (H:=aw i) (by(first|first|assumption|omega|grind):(c++[32]).length+([92]).length<=2^62))<|Kv 3 (jz (s:=c++[32]++[92]) (u:=b.text) (H:=aw i) (by(first|first|assumption|omega|grind):(c++[32]++[92]).length+(b.text).length<=2^62))<|Kl 1 31 (dQ a)<|K1 0 (.frz 0 [0,7,8,9]) ti<|Mf<|e (a+1) f (c++[32]++[92]++b.text) (et (aH d.1 g)<|by first|exact⟨rfl,hb⟩|(refine⟨by(rw[<-hj0.1,pX];first|rw[F2 j]|rw[F1 j h2]|rw[F0 j h2]),?_⟩;grind))<|cC g) λj _=>Kh 0 j<|Kh 0 j<|M1 (.chr<|gD b.text 0) (Ai (by first|omega|(simp only[oN,lM,lS]at *;omega)|(simp only[oN,lM,lS,lA,lR,lC,lN]at * <;>omega):0<(b.text).length))<|Mh j<|Kw 0 j<|Mb (ae (Int.ofNat (gD b.text 0).toNat) 92) (λk=>have:=jE k;Kv 0 (jz (s:=c++[32]) (u:=[92]) (H:=aw i) (by(first|first|assumption|omega|grind):(c++[32]).length+([92]).length<=2^62))<|Kv 3 (jz (s:=c++[32]++[92]) (u:=b.text) (H:=aw i) (by(first|first|assumption|omega|grind):(c++[32]++[92]).length+(b.text).length<=2^62))<|Kl 1 31 (dQ a)<|K1 0 (.frz 0 [0,7,8,9]) ti<|Mf<|e (a+1) f (c++[32]++[92]++b.text) (et (aH d.1 g)<|by first|exact⟨rfl,hb⟩|(refine⟨by(rw[<-hj0.1,pX];first|rw[F2 j]|grind[F1]|rw[F0 j k]),?_⟩;grind))<|cC g) λk=>have:=NG k;Kv 2 (jz (s:=c++[32]) (u:=b.text) (H:=aw i) (by(first|first|assumption|omega|grind):(c++[32]).length+(b.text).length<=2^62))<|Kl 1 31 (dQ a)<|K1 0 (.frz 0 [0,7,8,9]) ti<|Mf<|e (a+1) f (c++[32]++b.text) (et (aH d.1 g)<|by first|exact⟨rfl,hb⟩|(refine⟨by(rw[<-hj0.1,pX];first|rw[F2 j]|rw[F1 j k]|grind[F0]),?_⟩;grind))<|cC g
theorem tU{u:TUnit}(h:m9 u):m9 (dY u):=by
  obtain⟨h1,h2⟩:=Of u
  refine⟨by rw[h1];exact h.1,λx hx=>?_⟩
  obtain⟨y,hy,rfl⟩:=h2 x hx
  obtain⟨a,b,c,d,e⟩:=h.2 y hy
  rw[mI]
  refine⟨by grind[TUnit.head],by grind[TUnit.words],c,λw hw=>?_,λw hw=>?_⟩
  · obtain⟨v,hv,rfl⟩:=iO.1 hw;exact d v hv
  · obtain⟨v,hv,rfl⟩:=iO.1 hw;exact e v hv
theorem C6{u:TUnit}(h:sI u):m9 (um u):=by
  have e:bV (um u)=[um u]:=by rw[b8];exact congrArg _ ef
  refine⟨by rw[jv];exact b0 (uj (congrArg (1+ ·) mr)) (by omega),λx hx=>?_⟩
  rw[e]at hx
  rw[jr.1 hx];exact h
theorem Es(u:TUnit)(h:m9 u):kP 289 [eU u] (eU (dY u)):=
  QE u (b0 h.1 (by omega)) λx hx=>⟨b0 (h.2 x hx).1 (by omega),b0 (h.2 x hx).2.1 (by omega)⟩
theorem RG(u:TUnit)(d:Nat)(hd:d<=2^20)(h:sI u):kP 305 [eU u,nV d] (.bool (E9 u d)):=by
  have h1:=Es (um u) (C6 h)
  have h2:=yD (dY (um u)) (tU (C6 h))
  have hz:=Yi d
  have rr0 b' (h:(E9 u d)=b':=by first|rfl|(unfold E9;simp only[aS,ak,bS, *];done)):=h;exact bH Tryz.func305<|Kn 13 (aE 8<|Int.ofNat d) (λa=>Kt 0 (cM a)<|Mp (aP.onArgs (.cons (bJ (lc<|lc<|lc<|lc<|lc<|lc<|lc<|.cons bI .nil)<|by kernel_rfl) .nil) h1:kP 289 [av [iV 0,iV 0,iV 0,iV u.kind,aj u.label,aW (u.head.map aQ),aW (u.words.map aQ),ah]] _)<|Mt (cM a)<|Mp h2<|MV (cM a)<|Kf 0<|cq<|rr0<|lY<|dY<|um u) λa=>Mh (cp a)<|Mh (cp a)<|My (cp a)<|Ky 0<|rr0 false
theorem YD(u:TUnit)(d:Nat)(hd:d<=2^20)(h:sI u)(hm:E9 u d=false):kP 291 [eU u,nV d] (.str (gy u d)):=by
  have h1:=RG u d hd h
  rw[hm]at h1
  have e:gy u d=[]:=by unfold gy;simp_all
  rw[e]
  exact bH Tryz.func291<|Kp 3 h1<|Kf 2<|bA<|aj []
def PY(u:TUnit)(d:Nat)(z18:bZ):Prop:=(z18=bif ak (ae u.kind (0:Int))then Lib.repeatL [(32:UInt8),(32:UInt8)] d++dc u.kind++([(32:UInt8)]++u.label)else Lib.repeatL [(32:UInt8),(32:UInt8)] d++dc u.kind)/\List.length z18<=(40:Nat)
noncomputable def PV(u:TUnit)(d:Nat)(z18:bZ):laa×lai:=([AV.ptr 0 0 0 0,AV.str z18],[AObj.row 8 false 0 [AV.agg (uLx u)]])
def PK(u:TUnit)(z18:bZ)(z27:bZ):Prop:=(z27=bif aE (0:Int) (Int.ofNat u.head.length)then me (z18++[(58:UInt8)]) u.head else z18)/\List.length z27<=(6700:Nat)
noncomputable def PJ(u:TUnit)(z18:bZ)(z27:bZ):laa×lai:=([AV.ptr 0 0 0 0,AV.str z27],[AObj.row 8 false 0 [AV.agg (uLx u)]])
theorem YC(u:TUnit)(d:Nat)(hd:d<=2^20)(h:sI u)(hm:E9 u d=true):kP 291 [eU u,nV d] (.str (gy u d)):=by
  have h1:=RG u d hd h
  obtain⟨hd8,hlb,⟨hh1,hh2⟩,hw1,hw2⟩:=NK hm
  have hrl:=Lib.repeatL_length [32,32] d
  simp only[lC,lN]at hrl
  have h2:=Yj [32,32] d (by omega) (by grind)
  have hk:=xF u.kind
  have hkl:=AP u.kind
  have hp1:∀s:bZ,s.length<=2^14->kP 308 [.str s,.ls (u.head.map aQ)] (.str (me s u.head)):=λs hs=>RZ s u.head hh2 (by omega) (by omega)
  have hp2:∀s:bZ,s.length<=2^14->kP 308 [.str s,.ls (u.words.map aQ)] (.str (me s u.words)):=λs hs=>RZ s u.words hw2 (by omega) (by omega)
  rw[hm]at h1
  have rr0 b' (h:(gy u d)=b':=by first|rfl|(unfold gy;rw[hm];simp only[ak,cond_false];rw[<-hz18.1,<-hz27.1];first|(rw[h3];rfl)|(rw[h4];rfl)|(rw[h5];rfl)|(rw[h6];rfl)|(rw[h7];rfl))):=h;let q1:=[aZ 8 false 0 [av (uLx u)]];exact bH Tryz.func291<|Kp 3 h1<|Kp 2 h2<|Kp 1 hk<|Mv (jz (s:=Lib.repeatL [32,32] d) (u:=dc u.kind) (H:=AHeap.mk 1000000 Tr.nil) (by(first|first|assumption|((try simp only[lA,lC,lN]);omega)|(simp only[lA,lC,lN]at *;omega)):(Lib.repeatL [32,32] d).length+(dc u.kind).length<=2^62))<|Mg 0<|Mj bZ [2,5] (PV u d) (PY u d) (λa=>Kn 2 (ae u.kind 0) (λ_=>Kv 2 (jz (s:=[32]) (u:=u.label) (H:=aw q1) (by(first|first|assumption|((try simp only[lA,lC,lN]);omega)|(simp only[lA,lC,lN]at *;omega)):([32]).length+(u.label).length<=2^62))<|Mv (jz (s:=Lib.repeatL [32,32] d++dc u.kind) (u:=32::u.label) (H:=aw q1) (by(first|first|assumption|((try simp only[lA,lC,lN]);omega)|(simp only[lA,lC,lN]at *;omega)):(Lib.repeatL [32,32] d++dc u.kind).length+(32::u.label).length<=2^62))<|Kf 0<|a (Lib.repeatL [32,32] d++dc u.kind++32::u.label) (by(refine⟨by first|simp_all|(rw[h2];rfl)|(rw[h3];rfl)|(rw[h0];rfl),?_⟩;grind):(Lib.repeatL [(32:UInt8),(32:UInt8)] d++dc u.kind++(32:UInt8)::u.label=bif ak (ae u.kind (0:Int))then Lib.repeatL [(32:UInt8),(32:UInt8)] d++dc u.kind++([(32:UInt8)]++u.label)else Lib.repeatL [(32:UInt8),(32:UInt8)] d++dc u.kind)/\(Lib.repeatL [(32:UInt8),(32:UInt8)] d++dc u.kind++(32:UInt8)::u.label).length<=40)) λ_=>Mf<|a (Lib.repeatL [32,32] d++dc u.kind) (by(refine⟨by first|simp_all|(rw[h2];rfl)|(rw[h3];rfl)|(rw[h0];rfl),?_⟩;grind):(Lib.repeatL [(32:UInt8),(32:UInt8)] d++dc u.kind=bif ak (ae u.kind (0:Int))then Lib.repeatL [(32:UInt8),(32:UInt8)] d++dc u.kind++([(32:UInt8)]++u.label)else Lib.repeatL [(32:UInt8),(32:UInt8)] d++dc u.kind)/\(Lib.repeatL [(32:UInt8),(32:UInt8)] d++dc u.kind).length<=40)) λa hz18=>have hz18:(a=bif ak (ae u.kind (0:Int))then Lib.repeatL [(32:UInt8),(32:UInt8)] d++dc u.kind++([(32:UInt8)]++u.label)else Lib.repeatL [(32:UInt8),(32:UInt8)] d++dc u.kind)/\List.length a<=40:=hz18;Mj bZ [2,5] (PJ u a) (PK u a) (λb=>Kl 2 26 (ln aQ u.head)<|Kb 0 (aE 0<|Int.ofNat u.head.length) (λh3=>Kv 0 (jz (s:=a) (u:=[58]) (H:=aw q1) (by(first|first|assumption|((try simp only[lA,lC,lN]);omega)|(simp only[lA,lC,lN]at *;omega)):(a).length+([58]).length<=2^62))<|Kp 1 (hp1 (a++[58])<|by first|assumption|((try simp only[lA,lC,lN]);omega))<|Kf 0<|b (me (a++[58]) u.head) (by(refine⟨by first|simp_all|(rw[h2];rfl)|(rw[h4];rfl)|(rw[h5];rfl),?_⟩;first|omega|(have q:=vT (λw hw=>(hh2 w hw).2) (a++[58]);grind)):(me (a++[(58:UInt8)]) u.head=bif aE (0:Int) (Int.ofNat u.head.length)then me (a++[(58:UInt8)]) u.head else a)/\List.length (me (a++[(58:UInt8)]) u.head)<=6700)) λh3=>Mf<|b a (by(refine⟨by first|simp_all|(rw[h2];rfl)|(rw[h4];rfl)|(rw[h5];rfl),?_⟩;first|omega|(have q:=vT (λw hw=>(hh2 w hw).2) (a++[58]);simp only[lA,lC,lN]at q;omega)):(a=bif aE (0:Int) (Int.ofNat u.head.length)then me (a++[(58:UInt8)]) u.head else a)/\List.length a<=6700)) λb hz27=>have hz27:(b=bif aE (0:Int) (Int.ofNat u.head.length)then me (a++[(58:UInt8)]) u.head else a)/\List.length b<=6700:=hz27;Kl 2 35 (ln aQ u.words)<|Kb 0 (aE 0<|Int.ofNat u.words.length) (λh4=>Kv 0 (jz (s:=b) (u:=[32,124]) (H:=aw q1) (by(first|first|assumption|((try simp only[lA,lC,lN]);omega)|(simp only[lA,lC,lN]at *;omega)):(b).length+([32,124]).length<=2^62))<|Kp 1 (hp2 (b++[32,124])<|by first|assumption|((try simp only[lA,lC,lN]);omega))<|Kf 2<|Le.str<|rr0<|me (b++[32,124]) u.words) λh4=>Kf 1<|Le.str<|rr0 b
theorem Nj(u:TUnit)(d:Nat)(hd:d<=2^20)(h:sI u):kP 291 [eU u,nV d] (.str (gy u d)):=by
  grind[YD,YC]
noncomputable abbrev I4(ep n:Nat):AObj:=.row 1 false 0 [.slice 2 ep 0 n none]
noncomputable abbrev FD:AObj:=.row 1 false 0 [.func (.func 290) [] [.ptr 0 0 0 0,.ptr 1 0 0 0]]
noncomputable abbrev Gi(ep:Nat)(l:laj):AObj:=.row 1 true ep (l.map nD)
def tI(u:TUnit)(d:Nat)(l:laj)(x0:Nat×lad×Nat×Nat×laj):Prop:=(u.kids).drop x0.1=x0.2.1/\x0.2.2.2.1=x0.2.2.2.2.length/\x0.2.2.2.2++dg (d+(1:Nat)) x0.2.1=l++[gy u d]++dg (d+(1:Nat)) u.kids/\x0.2.2.2.2.length+eB x0.2.1<=2^20
noncomputable def tH(u:TUnit)(d:Nat)(l:laj)(x0:Nat×lad×Nat×Nat×laj):laa×lai:=([nV d,AV.ptr 1 0 0 0,AV.ls (u.kids.map aU),nV u.kids.length,nV x0.1],[AObj.row 1 false 0 [AV.slice 2 x0.2.2.1 0 x0.2.2.2.1 none],AObj.row 1 false 0 [AV.func (Fn.func 290) [] [AV.ptr 0 0 0 0,AV.ptr 1 0 0 0]],AObj.row 1 true x0.2.2.1 (x0.2.2.2.2.map nD)])
theorem aaR:∀(u:TUnit)(d ep n:Nat)(l:laj),n=l.length->l.length+nU u<=2^20->d+nU u<=2^20->(∀x,x∈bV u->sI x)->kC 290 [eU u,nV d,.ptr 0 0 0 0,.ptr 1 0 0 0] (aw [I4 ep n,FD,Gi ep l])
    (λv h=>∃y:Nat×Nat×laj,(y.2.1=y.2.2.length/\y.2.2=l++eD d u)/\v=.tuple []/\h=aw [I4 y.1 y.2.1,FD,Gi y.1 y.2.2]):=by
  refine TUnit.ind λu ih d ep n l hn hl hd ht=>?_
  have hq:=jv u
  have hkl:=bB u
  have hf:=Nj u d (by omega) (ht u (dU u))
  have ihk:∀k,k∈u.kids->∀(d ep n:Nat)(l:laj),n=l.length->l.length+nU k<=2^20->d+nU k<=2^20->kC 290 [eU k,nV d,.ptr 0 0 0 0,.ptr 1 0 0 0] (aw [I4 ep n,FD,Gi ep l])
    (λv h=>∃y:Nat×Nat×laj,(y.2.1=y.2.2.length/\y.2.2=l++eD d k)/\v=.tuple []/\h=aw [I4 y.1 y.2.1,FD,Gi y.1 y.2.2]):=λk hk d ep n l a b c=>ih k hk d ep n l a b c (λx hx=>ht x (bi hk hx))
  exact qH Tryz.func290 λe=>Kp 3 hf<|Mg 0<|Mw (.apx ((l++[gy u d]).map nD)<|.go 3<|.le 16 (nV u.kids.length)<|.go 0<|.frz 3 [1,3,15,16,17]<|.loop (Nat×lad×Nat×Nat×laj) [1,3,15,16,17] (tH u d l) (tI u d l) (λe=>e.2.1.length) (0,u.kids,(ep+1,n+1,l++[gy u d])) λe=>.cs TUnit e.2.1 (.go 0<|.ff .fin) λf _=>.go 0<|.tt<|.elem (eU f)<|.go 6<|.le 24 (nV<|d+1)<|.frz 3 [1,3,15,16,17,21,22,24]<|.eff (Nat×Nat×laj) (λ_=>cX []) (λe=>aw [I4 e.1 e.2.1,FD,Gi e.1 e.2.2]) (λg=>g.2.1=g.2.2.length/\g.2.2=e.2.2.2.2++eD (d+1) f) λ_=>.go 0<|.le 26 (nV<|e.1+1)<|.go 0 .fin)<|et9 rt (ic (tR 1 true ep 4<|aX K9 l) rt) (et (jO _ _:([aj (gy u d)]:laa)≠[]) rt) (et (cL (aY ep) (by first|assumption|omega|simp_all|(refine aN (m:=2^31) ?_ ?_ ?_<;>(try simp only[lM,lC,lN])<;>omega):n=(l.map nD).length) (by first|assumption|omega|(simp only[lM];omega)|(refine aN (m:=2^31) ?_ ?_ ?_<;>(try simp only[lM,lC,lN])<;>omega):small (n+([AV.str (gy u d)]).length) 16=true))<|cO (f:=nD) (l:=l) (ws:=[gy u d])) (ln aU u.kids) (jp (tR 1 true (ep+1) 3<|aX K9<|l++[gy u d]) rt rt ti) (aY<|tH u d l (0,u.kids,(ep+1,n+1,l++[gy u d]))) (et (rfl:List.drop 0 (u.kids)=u.kids) (by first|rfl|(first|grind|(have h1:=hj0.2.1;have h2:=hj0.2.2;rw[bD]at h2;rw[mA]at h1;exact⟨hy1.1,(by rw[hy1.2,<-h1];simp),(by rw[hy1.2,lA,lj];omega)⟩)):(n+1=(l++[gy u d]).length/\l++[gy u d]++dg (d+1) u.kids=l++[gy u d]++dg (d+1) u.kids/\(l++[gy u d]).length+eB u.kids<=2^20))) λ(f:Nat×lad×Nat×Nat×laj)(g:(tI u d l) f)=>et (λ(i:f.2.1=[])=>have j:=dm g.1 i;have:=eM (J:=λe f=>f.2.1=f.2.2.length/\f.2.2++dg (d+1) e=l++[gy u d]++dg (d+1) u.kids/\f.2.2.length+eB e<=2^20) (a:=f.2.2) i g.2;et j<|e (f.2.2.1,f.2.2.2.1,f.2.2.2.2)<|by first|grind[xC,Do]|rfl) λ(e:TUnit)(i:lad)(j:f.2.1=e::i)=>have o:=dI g.1 j;have:=ap o;have p:=(dl (enc:=aU) g.1 j).trans<|congrArg some<|bQ e;have:=bT (J:=λe f=>f.2.1=f.2.2.length/\f.2.2++dg (d+1) e=l++[gy u d]++dg (d+1) u.kids/\f.2.2.length+eB e<=2^20) (a:=f.2.2) j g.2;have q:=aG g.1 j;have r:f.2.2.2.2.length+nU e<=2^20:=(by grind[bD]);have s:d+1+nU e<=2^20:=(by have:=iI q;omega);od o p (jo d) (jp (tR 1 true f.2.2.1 3<|aX K9 f.2.2.2.2) rt rt ti) (ihk e q (d+1) f.2.2.1 f.2.2.2.1 f.2.2.2.2 (by first|assumption|omega|(simp only[lM];omega)|(refine aN (m:=2^31) ?_ ?_ ?_<;>(try simp only[lM,lC,lN])<;>omega)) r s) λ(o:Nat×Nat×laj)(_:o.2.1=o.2.2.length/\o.2.2=f.2.2.2.2++eD (d+1) e)=>et (jo f.1)<|Nx.mk (I:=tI u d l) (m:=λe=>e.2.1.length) (S:=tH u d l) (x:=f) (f.1+1,i,(o.1,o.2.1,o.2.2)) (et (aH g.1 j) (by first|exact⟨by simp[hn],rfl,by simp;omega⟩|grind[bD,mA,lj]:(o.2.1=o.2.2.length/\o.2.2++dg (d+1) i=l++[gy u d]++dg (d+1) u.kids/\o.2.2.length+eB i<=2^20)))<|cC j
theorem aaS(u:TUnit)(d:Nat)(hl:nU u<=2^19)(hd:d+nU u<=2^20)(ht:∀x,x∈bV u->sI x):kC 290 [eU u,nV d,.ptr 0 0 0 0,.ptr 1 0 0 0] (aw [.row 1 false 0 [.nils],FD])
    (λv h=>∃y:Nat×Nat×laj,(y.2.1=y.2.2.length/\y.2.2=eD d u)/\v=.tuple []/\h=aw [I4 y.1 y.2.1,FD,Gi y.1 y.2.2]):=by
  have hq:=jv u
  have hkl:=bB u
  have hf:=Nj u d (by omega) (ht u (dU u))
  have ihk:∀k,k∈u.kids->∀(d ep n:Nat)(l:laj),n=l.length->l.length+nU k<=2^20->d+nU k<=2^20->kC 290 [eU k,nV d,.ptr 0 0 0 0,.ptr 1 0 0 0] (aw [I4 ep n,FD,Gi ep l])
    (λv h=>∃y:Nat×Nat×laj,(y.2.1=y.2.2.length/\y.2.2=l++eD d k)/\v=.tuple []/\h=aw [I4 y.1 y.2.1,FD,Gi y.1 y.2.2]):=λk hk d ep n l a b c=>aaR k d ep n l a b c (λx hx=>ht x (bi hk hx))
  exact qH Tryz.func290 λe=>Kp 3 hf<|Kl 5 16 (ln aU u.kids)<|Mg 0<|M0 (.ren [0,1,3,2] [] [1,3,15,16,17])<|M1 (.frz 3 [1,3,15,16,17]) (jp rt rt rt ti)<|Xb aU u.kids (0:Nat) (1:Nat) ([gy u d]:laj) [1,3,15,16,17] (λe _ f g i=>([nV d,bY 1 0 0 0,aW<|u.kids.map aU,nV u.kids.length,nV e],[aZ 1 false 0 [aM 2 f 0 g none],aZ 1 false 0 [bc (bb 290) [] [bY 0 0 0 0,bY 1 0 0 0]],aZ 1 true f<|i.map nD])) (λe _ f g=>f=g.length/\g++dg (d+1) e=[gy u d]++dg (d+1) u.kids/\g.length+eB e<=2^20) (by first|rfl|(first|grind|(have h1:=hj0.2.1;have h2:=hj0.2.2;rw[bD]at h2;rw[mA]at h1;exact⟨hy1.1,(by rw[hy1.2,<-h1];simp),(by rw[hy1.2,lA,lj];omega)⟩))) (λ_ _ f g i _ _ _ j _=>Kh 0 j<|Mf<|e (f,g,i)<|by first|grind[xC,Do]|rfl) λe _ f g i j m o p q r s _ t _=>have t:=(t).trans<|congrArg some<|bQ o;have:=bT (J:=λe f=>f.2.1=f.2.2.length/\f.2.2++dg (d+1) e=[gy u d]++dg (d+1) u.kids/\f.2.2.length+eB e<=2^20) (a:=(f,g,i)) r m;have j:=aG j r;have m:i.length+nU o<=2^20:=(by grind[bD]);have r:d+1+nU o<=2^20:=(by have:=iI j;omega);Kt 0 s<|Mx t<|Kl 6 24 (jo d)<|M1 (.frz 3 [1,3,15,16,17,21,22,24]) (jp (tR 1 true f 3<|aX K9 i) rt rt ti)<|Mq (ihk o j (d+1) f g i (by first|assumption|omega) m r) λf _=>Kl 0 26 (jo e)<|Kf 0<|q f.1 f.2.1 f.2.2<|by first|exact⟨by simp[hl],rfl,by simp;omega⟩|grind[bD,mA,lj]
theorem YB(u:TUnit)(h:m9 u)(hv:lY (dY u)=false):kP 260 [eU u] (.ls (([]:laj).map nD)):=by
  have h1:=Es u h
  have h2:=yD (dY u) (tU h)
  exact bH Tryz.func260<|Kp 2 h1<|Mp h2<|Kt 0 (cM hv)<|Kf 0 bI
theorem YA(u:TUnit)(h:m9 u)(hv:lY (dY u)=true):kP 260 [eU u] (.ls ((eD 0 u).map nD)):=by
  have h1:=Es u h
  have h2:=yD (dY u) (tU h)
  have h3:=aaS u 0 h.1 (by have:=h.1;omega) h.2
  have rr0 b' (h:((eD 0 u).map nD)=b':=by first|rfl|(rw[hy0.2])):=h;exact bH Tryz.func260<|Kp 2 h1<|Mp h2<|Kh 0 (cp hv)<|Mg 5<|M0 (.ren [1,2,0] [] [3,10,11])<|M1 (.frz 2 [3,10,11]) (cL rt rt ti)<|Mq h3 λa hy0=>Mg 1<|M2 (.fsl 0 [] 2<|a.2.2.map nD) ti (cL (aY a.1) (tA nD a.2.2 a.2.1 (by first|assumption|omega:(a.2.2).length=a.2.1))<|aX K9 a.2.2)<|Ml 2 (fe (a.2.2.map nD) false<|aX K9 a.2.2)<|Mf<|ch<|rr0<|a.2.2.map nD
theorem aa4(u:TUnit)(h:m9 u)(hv:lY (dY u)=false):kP 227 [eU u] (.tuple [.str (yf u).1,iV (yf u).2]):=by
  have h1:=YB u h hv
  have e:yf u=([],1):=by unfold yf;simp_all
  rw[e]
  exact bH Tryz.func227<|Kp 3 h1<|Kf 6<|bA<|cX [aj [],iV 1]
theorem aa3(u:TUnit)(h:m9 u)(hv:lY (dY u)=true):kP 227 [eU u] (.tuple [.str (yf u).1,iV (yf u).2]):=by
  have h1:=YA u h hv
  have hlen:=lj 0 u
  have hq:=jv u
  have hm:=h.1
  have hjl:=R3 (sep:=[10]) (B:=2^14) (l:=eD 0 u) (λs hs=>AN 0 u s hs)
  rw[hlen]at hjl
  have hj2:(Lib.join (eD 0 u) [10]).length<=140737488355328:=b0 hjl (b0 (e9 _ hm) (by grind))
  have hj3:(Lib.join (eD 0 u) [10]).length<=2^40:=b0 hjl (b0 (e9 _ hm) (by grind))
  have hj:=Vu (eD 0 u) [10] (by omega) hj2
  have hz:ae (.ofNat (eD 0 u).length) 0=false:=by grind[S8]
  have e:yf u=(bif aE 16384 (.ofNat (Lib.join (eD 0 u) [10]++[10]).length)then([],6)else(Lib.join (eD 0 u) [10]++[10],0)):=by unfold yf;simp_all
  rw[e]
  clear e
  generalize Lib.join (eD 0 u) [10]=J at *
  cases hb:aE 16384 (.ofNat (J++[10]).length)
  · have hb2:aE 16384 (.ofNat (J++[10]).length)=false:=hb
    exact bH Tryz.func227<|Kp 3 h1<|Kl 2 9 (ln nD<|eD 0 u)<|Kh 0 hz<|Kp 0 hj<|Mv (jz (s:=J) (u:=[10]) (H:=aw [aZ 8 false 0 [av (uLx u)]]) (by(first|first|assumption|grind|omega|(simp only[lA,lC,lN]at *;omega)):(J).length+([10]).length<=2^62))<|Kh 3 hb<|Kf 2<|bA<|cX [aj<|J++[10],iV 0]
  · have hb2:aE 16384 (.ofNat (J++[10]).length)=true:=hb
    exact bH Tryz.func227<|Kp 3 h1<|Kl 2 9 (ln nD<|eD 0 u)<|Kh 0 hz<|Kp 0 hj<|Mv (jz (s:=J) (u:=[10]) (H:=aw [aZ 8 false 0 [av (uLx u)]]) (by(first|first|assumption|grind|omega|(simp only[lA,lC,lN]at *;omega)):(J).length+([10]).length<=2^62))<|Kt 3 hb<|Kf 1<|bA<|cX [aj [],iV 6]
theorem Y9(u:TUnit)(h:m9 u):kP 227 [eU u] (.tuple [.str (yf u).1,iV (yf u).2]):=by
  grind[aa4,aa3]
def YI(u:TUnit):Bool:=I9 u&&(ak (ae u.kind 0)&&ae (yf u).2 0)
theorem YH(u:TUnit)(h:m9 u):kP 145 [eU u] (.bool (YI u)):=by
  have q1:=Y9 u h
  have q2:=ZF u h
  have rr0 b' (h:(YI u)=b':=by first|rfl|(unfold YI;rw[h0];rfl)|(unfold YI;rw[h0,h1];rfl)|(unfold YI;rw[h0,h1,h2];rfl)):=h;exact bH Tryz.func145<|Kp 2 q1<|Kp 5 q2<|Kb 0 (I9 u) (λh0=>Kt 0 h0<|Kt 0 h0<|Ku 0 h0<|Kn 0 (ae u.kind 0) (λh1=>Kt 0 (cM h1)<|Ku 0 (cM h1)<|Kf 0<|cq<|rr0<|ae (yf u).2 0) λh1=>Mh (cp h1)<|My (cp h1)<|Ky 0<|rr0 false) λh0=>Mh h0<|Mh h0<|My h0<|Ky 2<|rr0 false
def og(x:PItem):Prop:=nP x/\(x.at_.length<2^40/\∀s,s∈x.at_->s.label.length<=2^39)/\(x.to.length<2^40/\∀s,s∈x.to->s.label.length<=2^39)/\(x.old.length<2^40/\∀s,s∈x.old->s.length<=2^39)/\(x.new.length<2^40/\∀s,s∈x.new->s.length<=2^39)/\x.label.length<=2^39/\x.for_.length<=2^39/\x.start.event.length<=2^39/\m9 x.unit
def BK(x:PItem):Prop:=(x.kind=0\/x.kind=6->iS x.where_=true)/\(x.kind=0->YI x.unit=true)/\(x.kind=2\/x.kind=3->rZ x.old=true/\Cm x.nth_=true)/\(x.kind=2\/x.kind=3\/x.kind=4->rZ x.new=true)
theorem qT{l:laj}{n:Int}(h:rQ l n=true):rZ l=true:=by
  simp_all[rQ]
theorem X5(x:PItem)(hx:og x)(h0:0<=x.kind)(h6:x.kind<=6):∃b,kP 64 [eI x] (.bool b)/\(b=true->BK x):=by
  obtain⟨k,a,t,w,n,u,o,ne,l,f,s,ac,im,d,e,bs⟩:=x
  obtain⟨hf,⟨ha,has⟩,⟨ht,hts⟩,⟨ho,hos⟩,⟨hn,hns⟩,hl,hfo,hse,hu⟩:=hx
  have hz:tT bo:=⟨by grind,by grind,by grind,trivial⟩
  have n0:(0:Nat)<2^60:=by omega
  obtain⟨f1,f2,f3,f4,f5,f6,f7⟩:=hf
  have hff:∀k w n,nP ⟨k,a,t,w,n,u,o,ne,l,f,s,ac,im,d,e,bs⟩:=λ_ _ _=>⟨f1,f2,f3,f4,f5,f6,f7⟩
  have h0:0<=k:=h0
  have h6:k<=6:=h6
  have hk:k=0\/k=1\/k=2\/k=3\/k=4\/k=5\/k=6:=by omega
  rcases hk with rfl|rfl|rfl|rfl|rfl|rfl|rfl
  · refine⟨_,pj ⟨0,a,t,w,n,u,o,ne,l,f,s,ac,im,d,e,bs⟩ (oe ⟨0,a,t,w,n,u,o,ne,l,f,s,ac,im,d,e,bs⟩ 0) 142 143 _ _ rfl rfl (WB _) (tP _ (hff _ _ _) (xM ⟨0,a,t,w,n,u,o,ne,l,f,s,ac,im,d,e,bs⟩ (oe ⟨0,a,t,w,n,u,o,ne,l,f,s,ac,im,d,e,bs⟩ 0)) ⟨f1,n0,n0,n0,n0,f6,trivial⟩) (Vn a t w n u o ne l f s ac im d e bs (YI u) (YH u hu)) ha has hfo hse,λh=>?_⟩
    simp only[ba]at h
    exact⟨λ_=>h.2.2.2.2.1,λ_=>h.2.2.2.2.2,λq=>(by rcases q with q|q<;>cases q),λq=>(by rcases q with q|q|q<;>cases q)⟩
  · refine⟨_,pj ⟨1,a,t,w,n,u,o,ne,l,f,s,ac,im,d,e,bs⟩ (oe ⟨1,a,t,w,n,u,o,ne,l,f,s,ac,im,d,e,bs⟩ 1) 146 147 _ _ rfl rfl (WA _) (tP _ (hff _ _ _) (xM ⟨1,a,t,w,n,u,o,ne,l,f,s,ac,im,d,e,bs⟩ (oe ⟨1,a,t,w,n,u,o,ne,l,f,s,ac,im,d,e,bs⟩ 1)) ⟨f1,n0,n0,n0,n0,hz,trivial⟩) (Vm a t w n u o ne l f s ac im d e bs) ha has hfo hse,λh=>?_⟩
    exact⟨λq=>(by rcases q with q|q<;>cases q),λq=>(by cases q),λq=>(by rcases q with q|q<;>cases q),λq=>(by rcases q with q|q|q<;>cases q)⟩
  · refine⟨_,pj ⟨2,a,t,w,n,u,o,ne,l,f,s,ac,im,d,e,bs⟩ (oe ⟨2,a,t,w,n,u,o,ne,l,f,s,ac,im,d,e,bs⟩ 2) 148 149 _ _ rfl rfl (Wu _) (tP _ (hff _ _ _) (xM ⟨2,a,t,w,n,u,o,ne,l,f,s,ac,im,d,e,bs⟩ (oe ⟨2,a,t,w,n,u,o,ne,l,f,s,ac,im,d,e,bs⟩ 2)) ⟨f1,n0,f3,f4,n0,hz,trivial⟩) (Vl a t w n u o ne l f s ac im d e bs ho hn hos hns) ha has hfo hse,λh=>?_⟩
    simp only[ba]at h
    exact⟨λq=>(by rcases q with q|q<;>cases q),λq=>(by cases q),λ_=>⟨qT h.2.2.2.2.1,h.2.2.2.2.2.2⟩,λ_=>qT h.2.2.2.2.2.1⟩
  · refine⟨_,pj ⟨3,a,t,w,n,u,o,ne,l,f,s,ac,im,d,e,bs⟩ (oe ⟨3,a,t,w,n,u,o,ne,l,f,s,ac,im,d,e,bs⟩ 3) 152 153 _ _ rfl rfl (Ws _) (tP _ (hff _ _ _) (xM ⟨3,a,t,w,n,u,o,ne,l,f,s,ac,im,d,e,bs⟩ (oe ⟨3,a,t,w,n,u,o,ne,l,f,s,ac,im,d,e,bs⟩ 3)) ⟨f1,n0,f3,f4,n0,hz,trivial⟩) (Vi a t w n u o ne l f s ac im d e bs ho hn hos hns) ha has hfo hse,λh=>?_⟩
    simp only[ba]at h
    exact⟨λq=>(by rcases q with q|q<;>cases q),λq=>(by cases q),λ_=>⟨qT h.2.2.2.2.1,h.2.2.2.2.2.2.1⟩,λ_=>qT h.2.2.2.2.2.1⟩
  · refine⟨_,pj ⟨4,a,t,w,n,u,o,ne,l,f,s,ac,im,d,e,bs⟩ (oe ⟨4,a,t,w,n,u,o,ne,l,f,s,ac,im,d,e,bs⟩ 4) 154 155 _ _ rfl rfl (Wr _) (tP _ (hff _ _ _) (xM ⟨4,a,t,w,n,u,o,ne,l,f,s,ac,im,d,e,bs⟩ (oe ⟨4,a,t,w,n,u,o,ne,l,f,s,ac,im,d,e,bs⟩ 4)) ⟨f1,n0,n0,f4,n0,hz,trivial⟩) (Vh a t w n u o ne l f s ac im d e bs hn hns) ha has hfo hse,λh=>?_⟩
    simp only[ba]at h
    exact⟨λq=>(by rcases q with q|q<;>cases q),λq=>(by cases q),λq=>(by rcases q with q|q<;>cases q),λ_=>qT h.2.2.2.2⟩
  · refine⟨_,pj ⟨5,a,t,w,n,u,o,ne,l,f,s,ac,im,d,e,bs⟩ (oe ⟨5,a,t,w,n,u,o,ne,l,f,s,ac,im,d,e,bs⟩ 5) 156 157 _ _ rfl rfl (Wp _) (tP _ (hff _ _ _) (xM ⟨5,a,t,w,n,u,o,ne,l,f,s,ac,im,d,e,bs⟩ (oe ⟨5,a,t,w,n,u,o,ne,l,f,s,ac,im,d,e,bs⟩ 5)) ⟨f1,n0,n0,n0,n0,hz,trivial⟩) (Vg a t w n u o ne l f s ac im d e bs hl) ha has hfo hse,λh=>?_⟩
    exact⟨λq=>(by rcases q with q|q<;>cases q),λq=>(by cases q),λq=>(by rcases q with q|q<;>cases q),λq=>(by rcases q with q|q|q<;>cases q)⟩
  · refine⟨_,pj ⟨6,a,t,w,n,u,o,ne,l,f,s,ac,im,d,e,bs⟩ (oe ⟨6,a,t,w,n,u,o,ne,l,f,s,ac,im,d,e,bs⟩ 6) 159 160 _ _ rfl rfl (Wo _) (tP _ (hff _ _ _) (xM ⟨6,a,t,w,n,u,o,ne,l,f,s,ac,im,d,e,bs⟩ (oe ⟨6,a,t,w,n,u,o,ne,l,f,s,ac,im,d,e,bs⟩ 6)) ⟨f1,f2,n0,n0,n0,hz,trivial⟩) (Vf a t w n u o ne l f s ac im d e bs ht hts) ha has hfo hse,λh=>?_⟩
    simp only[ba]at h
    exact⟨λ_=>h.2.2.2.2.1,λq=>(by cases q),λq=>(by rcases q with q|q<;>cases q),λq=>(by rcases q with q|q|q<;>cases q)⟩
theorem xu{u:TUnit}(h:OkB u):∀x,x∈bV u->x.head.length<2^30/\x.words.length<2^30:=λx hx=>⟨mR (h.w x hx).1 (by omega),mR (h.w x hx).2 (by omega)⟩
theorem ES(p:PId)(u:TUnit)(hn:nU u<=1024): -1<=rJ p u/\rJ p u<=2^20:=by
  cases h:jg p u with
  |false=>rw[Rx h];omega
  | true=>
    obtain⟨q,i,h1,_,h3,h4,_⟩:=rS u h
    have:=dT h1
    grind[bB]
theorem y9(w:Int)(u:TUnit)(p:PId)(hn:nU u<=1024): -1<=(cD w u p).1.at_/\(cD w u p).1.at_<=2^41:=by
  have hb:=ES p u hn
  have key:∀n:Int,0<=n->n<=1-> -1<=(kO u p n).1.at_/\(kO u p n).1.at_<=2^41:=λn h0 h1=>by
    unfold kO
    cases jg p u
    · exact⟨by show(-1:Int)<=0;omega,by show(0:Int)<=_;omega⟩
    grind
  unfold cD
  cases ae w 0
  · cases ae w 1
    · grind
    · show -1<=Int.ofNat _/\Int.ofNat _<=2^41
      have:(cH p u).kids.length<=1024:=by
        cases h:bG p u with
        | true=>
          have:=dT (iH h).1
          grind[bB]
        |false=>unfold cH;rw[h];exact b6 _
      grind
  simp_all
theorem uX{u:TUnit}(hu:OkB u)(p:PId):kP 46 [eU u,aK p] (.tuple [eU (cH p u),.bool (bG p u)]):=SI p u (b0 hu.n (by omega)) (xu hu)
theorem kp{u:TUnit}(hu:OkB u)(p:PId):kP 139 [eU u,aK p] (.tuple [aK (si p u),iV (rJ p u),.bool (jg p u)]):=RU p u (b0 hu.n (by omega))
theorem uM{u:TUnit}(hu:OkB u)(p:lap)(hp:p.length<2^40/\∀s,s∈p->s.label.length<=2^39):kP 43 [eU u,.ls (p.map aq)] (.tuple [aK (aC u p).1,iV (aC u p).2]):=
  Pe u p (WY u p (b0 hu.n (by omega)) hp.1 hp.2) (b0 hu.n (by omega))
theorem Na{u:TUnit}(hu:OkB u)(p:PId):kP 279 [eU u,aK p] (.tuple [fG (cD 0 u p).1,iV (cD 0 u p).2]):=RS u _ p _ (uX hu p)
theorem Ny{u:TUnit}(hu:OkB u)(p:PId):kP 282 [eU u,aK p] (.tuple [fG (cD 1 u p).1,iV (cD 1 u p).2]):=RR u _ p _ (uX hu p)
theorem Nv{u:TUnit}(hu:OkB u)(p:PId):kP 284 [eU u,aK p] (.tuple [fG (cD 2 u p).1,iV (cD 2 u p).2]):=RP u p _ _ _ (kp hu p) (by have:=ES p u hu.n;omega)
theorem Nw{u:TUnit}(hu:OkB u)(p:PId):kP 286 [eU u,aK p] (.tuple [fG (cD 3 u p).1,iV (cD 3 u p).2]):=RO u p _ _ _ (kp hu p) (by have:=ES p u hu.n;omega)
theorem xa{w:Int}(h:iS w=true):w=0\/w=1\/w=2\/w=3:=by
  unfold iS at h
  rw[ba]at h
  have h1:=gu h.1
  have h2:=gu h.2
  omega
theorem VX{u:TUnit}(hu:OkB u)(p:lap)(hp:p.length<2^40/\∀s,s∈p->s.label.length<=2^39)(w:Int)(hw:iS w=true):kP 206 [eU u,.ls (p.map aq),iV w]
    (.tuple [aK (DV (aC u p).2 (cD w u (aC u p).1).1 (cD w u (aC u p).1).2).1.id,iV (DV (aC u p).2 (cD w u (aC u p).1).1 (cD w u (aC u p).1).2).1.at_,iV (DV (aC u p).2 (cD w u (aC u p).1).1 (cD w u (aC u p).1).2).2]):=by
  rcases xa hw with rfl|rfl|rfl|rfl
  · exact rR 0 _ rfl rfl u p _ _ _ _ (uM hu p hp) (Na hu _)
  · exact rR 1 _ rfl rfl u p _ _ _ _ (uM hu p hp) (Ny hu _)
  · exact rR 2 _ rfl rfl u p _ _ _ _ (uM hu p hp) (Nv hu _)
  · exact rR 3 _ rfl rfl u p _ _ _ _ (uM hu p hp) (Nw hu _)
theorem Y4{u:TUnit}(hu:OkB u)(p q:PId)(w:Int)(hw:iS w=true):∃bs,kP 208 [eU u,aK p,aK q,iV w]
    (.tuple [fG (nO p q (si p u) (rJ p u) (jg p u) ((mH q u).any (ao p)) bs (cD w u q).1 (cD w u q).2).1,iV (nO p q (si p u) (rJ p u) (jg p u) ((mH q u).any (ao p)) bs (cD w u q).1 (cD w u q).2).2]):=by
  have hb:=ES p u hu.n
  have hb: -1<=rJ p u/\rJ p u<=2^40:=by omega
  have hn:nU u<=2^20:=b0 hu.n (by omega)
  have hal:(mH q u).length<2^40:=by
    grind[mn,mH]
  have hC:=N3 (mH q u) p hal
  rcases xa hw with rfl|rfl|rfl|rfl
  · exact⟨_,HP 0 _ rfl rfl rfl u p q _ _ _ _ _ _ _ hb (y9 0 u q hu.n) (kp hu p) (JJ q u hn) hC (Na hu q)⟩
  · exact⟨_,HP 1 _ rfl rfl rfl u p q _ _ _ _ _ _ _ hb (y9 1 u q hu.n) (kp hu p) (JJ q u hn) hC (Ny hu q)⟩
  · exact⟨_,Sh u p q _ _ _ _ _ _ _ hb (y9 2 u q hu.n) (kp hu p) (JJ q u hn) hC (Nv hu q)⟩
  · exact⟨_,Sg u p q _ _ _ _ _ _ _ hb (y9 3 u q hu.n) (kp hu p) (JJ q u hn) hC (Nw hu q)⟩
theorem H7{B:Nat}:∀{l:lad},(∀x,x∈l->(nT x).length<=B)->(l.flatMap nT).length<=B*l.length
  |[],_=>b6 _
  | x::r,h=>by
    have h1:=h x dr
    have h2:=H7 (l:=r) λy hy=>h y (di _ hy)
    rw[CD,lA,lC,Nat.mul_succ];omega
theorem Gg{u:TUnit}(h:m9 u):(nL u).length<=2^29:=by
  rw[T8]
  have h1:∀x,x∈bV u->(nT x).length<=600:=λx hx=>by
    obtain⟨a,b,_⟩:=h.2 x hx
    unfold nT;rw[lA];omega
  have h2:=H7 h1
  have h3:(bV u).length=nU u:=by rw[je];unfold cG;rw[lM]
  rw[h3]at h2
  have:=h.1
  omega
theorem aaq{e:Int}{sp:PSpot}{e2:Int}(h:(DV e sp e2).2=0):e=0/\e2=0/\(DV e sp e2).1=sp:=by
  unfold DV at h ⊢
  cases h1:ae e 0 with
  |false=>rw[h1]at h;rw[show e=0 from h]at h1;cases h1
  | true=>
    rw[h1]at h
    cases h2:ae e2 0 with
    |false=>rw[h2]at h;rw[show e2=0 from h]at h2;cases h2
    |true=>exact⟨jE h1,jE h2,rfl⟩
theorem VE{u u2:TUnit}{te:Int}{full cf:Bool}:(Pz u te full cf u2).1=u\/(full=false/\cf=false/\Pz u te full cf u2=(u2,0)):=by
  unfold Pz;cases ae te 0<;>cases full<;>cases cf<;>first|exact .inl rfl|exact .inr ⟨rfl,rfl,rfl⟩
noncomputable def nM(u:TUnit)(d:PDeed):lam:=bif ae d.it.kind 0 then cG (cP d.act d.item d.it.unit 0 0)else bif ae d.it.kind 1 then cG (cH (aC u d.it.at_).1 u)else[(aC u d.it.at_).1]
noncomputable def yo(u:TUnit)(d:PDeed)(e:Int):lam:=bif ae e 0 then nM u d else[]
def Bk(u:TUnit)(d:PDeed)(r:pK):Prop:=OkB r.1/\Un (yo u d r.2) u r.1
theorem Bk.no{u:TUnit}(hu:OkB u){d:PDeed}{r:pK}(h:r.1=u):Bk u d r:=by unfold Bk;rw[h];exact⟨hu,.refl⟩
theorem Bk.refl{u:TUnit}(hu:OkB u){d:PDeed}{e:Int}:Bk u d (u,e):=.no hu rfl
theorem XI{u:TUnit}(hu:OkB u)(f:TUnit)(d:PDeed)(hd:og d.it)(hg:BK d.it)(hk:d.it.kind=0):∃r:pK,kP 93 [eU u,eU f,aV d] (fY r)/\Bk u d r:=by
  have hw:=hg.1 (.inl hk)
  have hD:=TK u d.it _ _ _ (by rw[hk];rfl) (VX hu d.it.at_ hd.2.1 d.it.where_ hw)
  cases he:ae (DV (aC u d.it.at_).2 (cD d.it.where_ u (aC u d.it.at_).1).1 (cD d.it.where_ u (aC u d.it.at_).1).2).2 0 with
  |false=>exact⟨(u,_),VH u f d _ _ _ he hD,.refl hu⟩
  | true=>
    have e0:=jE he
    obtain⟨e1,e2,e3⟩:=aaq e0
    obtain⟨n,n1,n2,n3⟩:=Hg hu (oZ e1) e2
    rw[e0,e3,n1]at hD
    have ht:=hd.2.2.2.2.2.2.2.2
    have hS:=Gp d.act d.item d.it.unit (b0 ht.1 (by decide)) (Gg ht) (λx hx=>⟨b0 (ht.2 x hx).1 (by decide),b0 (ht.2 x hx).2.1 (by decide)⟩)
    have hsn:=zM d.act d.item d.it.unit 0 0
    have hsi:=rO d.act d.item d.it.unit 0 0
    have hsw:=L7 d.act d.item 300 d.it.unit 0 0 (λx hx=>⟨(ht.2 x hx).1,(ht.2 x hx).2.1⟩)
    have hA:nM u d=cG (cP d.act d.item d.it.unit 0 0):=by unfold nM;rw[hk];rfl
    generalize cP d.act d.item d.it.unit 0 0=X at *
    have hn:=hu.n
    have hm:=ht.1
    have hX:nU X<=2^19:=by omega
    have hkp:(cH (cD d.it.where_ u (aC u d.it.at_).1).1.id u).kids.length<2^40:=by
      cases h:bG (cD d.it.where_ u (aC u d.it.at_).1).1.id u with
      |true=>have:=dT (iH h).1;have:=bB (cH (cD d.it.where_ u (aC u d.it.at_).1).1.id u);omega
      |false=>unfold cH;rw[h];exact mR (b6 0) (by decide)
    have hiu:(cG u).length<2^40:=by rw[<-je];omega
    have hix:(cG X).length<2^40:=by rw[<-je];omega
    refine⟨_,VB u f _ X _ d _ n (nU u) (nU X) _ _ _ _ (cG u) (cG X) (by omega) (by omega) hD (uX hu _) hS (zC _ X hkp) (NO u X _ (by omega) (by omega)) (Fm u (by omega)) (Fm X (by omega)) (HG u (by omega)) (HG X (by omega)) (cfX (cG X) (cG u) hiu hix) (Qd _ n X u (by omega) (xu hu) n3),?_⟩
    rcases VE (u:=u) (u2:=co (cD d.it.where_ u (aC u d.it.at_).1).1.id (dn n X) u) (te:=zD (cH (cD d.it.where_ u (aC u d.it.at_).1).1.id u) X) (full:=ak (aE (Int.ofNat (cH (cD d.it.where_ u (aC u d.it.at_).1).1.id u).kids.length) 64)||(Tj u (cD d.it.where_ u (aC u d.it.at_).1).1.id X||aE 1024 (Int.ofNat (nU u+nU X)))) (cf:=(cG X).any λi=>(cG u).any (ao i))with q|⟨q1,q2,q3⟩
    · exact .no hu q
    · rw[q3]
      rw[GV,GV]at q1
      have q4:=aI q1.2.2
      simp only[oN]at q4
      refine⟨hu.ins (by rw[hsi];exact QL _ _ _ _) (λp hp hq=>?_) (by omega) hsw,(by show Un (nM u d) _ _;rw[hA];exact X8)⟩
      rw[List.any_eq_false]at q2
      have:=q2 p hp
      exact this (List.any_eq_true.2 ⟨p,hq,gi p⟩)
theorem Xu{u:TUnit}(hu:OkB u){p:PId}(hp:jg p u=true):∃q i,q∈bV u/\si p u=aF q/\rJ p u=Int.ofNat i/\i<q.kids.length/\aF (gD q.kids i)=p/\kP 132 [eU u,aK p] (eU (co (aF q) (ee i) u)):=by
  obtain⟨q,i,h1,h2,h3,h4,h5⟩:=rS u hp
  have hP:=kp hu p
  rw[h2,h3,hp]at hP
  exact⟨q,i,h1,h2,h3,h4,h5,zn u _ p _ i hP (Qf (aF q) i u (b0 hu.n (by decide)) (xu hu) λv hv hid=>by rw[hu.uni hv h1 ((fS _ v).1 hid)];exact h4)⟩
theorem aaj{u x:TUnit}(hu:OkB u)(hx:x∈bV u)(d:PDeed)(hp:jg (aF x) u=true)(hA:nM u d=cG x):∃r:pK,kP 94 [eU u,eU x,aV d] (fY r)/\Bk u d r:=by
  obtain⟨q,i,h1,h2,h3,h4,h5,h6⟩:=Xu hu hp
  exact⟨_,US u x _ d h6,(hu.del h1 h4).1,(by show Un (nM u d) _ _;rw[hA,<-hu.uni (dD h1 (bi (eP h4) (dU _))) hx h5];exact X9 hu h1 h4)⟩
theorem EN(l:lag):(wa l).length<=256:=by
  unfold wa
  cases h:aE 256 (Int.ofNat l.length)with
  |true=>exact b6 _
  |false=>have:=aI h;simp only[oN]at this;show l.length<=256;omega
theorem Q4(a b:Int)(w:lag)(old new:laj)(n:Int):(GT a b w old new n).1.length<=256:=by
  unfold GT
  cases ae (Int.ofNat old.length) 0
  · cases ae (Int.ofNat (ov (uS (cK w) old) n).length) 0
    · exact EN _
    · exact b6 _
  · exact b6 _
theorem VC(a b:Int)(w:lag)(part new:laj)(n:Int):(FY a b w part new n).1.length<=256:=by
  unfold FY
  cases(ae (Int.ofNat new.length) 0||(ae (Int.ofNat part.length) 0&&ak (ae n 0)))
  · cases ae (Int.ofNat part.length) 0
    · cases ae (Int.ofNat (ov (uS (cK w) part) n).length) 0
      · exact EN _
      · exact b6 _
    · exact EN _
  · exact b6 _
theorem uA{l:laj}(h:rZ l=true):l.length<=256:=by
  unfold rZ at h
  rw[ba]at h
  have:=gu h.1
  simp only[oN]at this
  omega
theorem NZ{n:Int}(h:Cm n=true):0<=n/\n<=256:=by
  unfold Cm at h
  rw[ba]at h
  exact⟨gu h.1,gu h.2⟩
theorem Dw{u:TUnit}(hu:OkB u)(q:PId){l:lag}(hl:l.length<=300):OkB (co q (ml l) u):=hu.keep (λ_=>⟨rfl,rfl⟩) λv hv=>⟨(hu.w v hv).1,hl⟩
theorem Rl{u:TUnit}(hu:OkB u)(q:PId){l:lag}(hl:l.length<=300):OkB (co q (BZ l) u):=hu.keep (λ_=>⟨rfl,rfl⟩) λv hv=>⟨hl,(hu.w v hv).2⟩
theorem O4{u:TUnit}(hu:OkB u)(q:PId)(s:bZ):OkB (co q (pC s) u):=hu.keep (λ_=>⟨rfl,rfl⟩) λv hv=>hu.w v hv
theorem LM{u u2:TUnit}{d:PDeed}{e:Int}(h:OkB u)(h2:Bk u d (u2,0)):Bk u d (Gx u e u2):=by
  have h:∀e,Bk u d (u,e):=λ_=>.refl h
  unfold Gx;cases ae e 0;exact h _;exact h2
theorem Z6{u x:TUnit}(hu:OkB u)(hx:x∈bV u)(d:PDeed)(hA:nM u d=[aF x])(hg:BK d.it)(hk:d.it.kind=2):∃r:pK,kP 95 [eU u,eU x,aV d] (fY r)/\Bk u d r:=by
  obtain⟨h1,h2⟩:=hg.2.2.1 (.inl hk)
  have h3:=uA h1
  have h4:=uA (hg.2.2.2 (.inl hk))
  obtain⟨h5,h6⟩:=NZ h2
  have h7:=(hu.w x hx).2
  have hR:=UR d.act d.item x.words d.it.old d.it.new d.it.nth_ (by omega) (by omega) (by omega) h5 (by omega) (jC h5)
  exact⟨_,Uv u x _ d _ _ hR (Qy (aF x) _ u (b0 hu.n (by decide)) (xu hu)),LM hu ⟨Dw hu _ (b0 (Q4 ..) (by decide)),(by show Un (nM u d) _ _;rw[hA];exact Ep λ_=>⟨rfl,rfl⟩)⟩⟩
theorem aao{u x:TUnit}(hu:OkB u)(hx:x∈bV u)(d:PDeed)(hA:nM u d=[aF x])(hg:BK d.it)(hk:d.it.kind=3):∃r:pK,kP 96 [eU u,eU x,aV d] (fY r)/\Bk u d r:=by
  obtain⟨h1,h2⟩:=hg.2.2.1 (.inr hk)
  have h3:=uA h1
  have h4:=uA (hg.2.2.2 (.inr (.inl hk)))
  obtain⟨h5,h6⟩:=NZ h2
  have h7:=(hu.w x hx).2
  have hR:=aaU d.act d.item x.words d.it.old d.it.new d.it.nth_ (by omega) (by omega) (by omega) h5 (by omega)
  exact⟨_,U4 u x _ d _ _ hR (Qb (aF x) _ u (b0 hu.n (by decide)) (xu hu)),LM hu ⟨Dw hu _ (b0 (VC ..) (by decide)),(by show Un (nM u d) _ _;rw[hA];exact Ep λ_=>⟨rfl,rfl⟩)⟩⟩
theorem aaZ{u x:TUnit}(hu:OkB u)(d:PDeed)(hA:nM u d=[aF x])(hg:BK d.it)(hk:d.it.kind=4):∃r:pK,kP 97 [eU u,eU x,aV d] (fY r)/\Bk u d r:=by
  have h4:=uA (hg.2.2.2 (.inr (.inr hk)))
  have hM:=y7 d.it.new d.act d.item 0 (by omega) (by decide)
  exact⟨_,V3 u x _ d _ hM (Qe (aF x) _ u (b0 hu.n (by decide)) (xu hu)),Rl hu _ (by rw[gz];omega),(by show Un (nM u d) _ _;rw[hA];exact Ep λ_=>⟨rfl,rfl⟩)⟩
theorem XE{u:TUnit}(hu:OkB u)(p:PId):(cH p u).kids.length<2^40:=by
  have hn:=hu.n
  cases h:bG p u with
  |true=>have:=dT (iH h).1;have:=bB (cH p u);omega
  |false=>unfold cH;rw[h];exact mR (b6 0) (by decide)
theorem aal{u x:TUnit}(hu:OkB u)(d:PDeed)(hA:nM u d=[aF x]):∃r:pK,kP 98 [eU u,eU x,aV d] (fY r)/\Bk u d r:=by
  refine⟨_,U0 u x _ _ d _ _ _ _ _ (kp hu (aF x)) (uX hu _) (zC _ _ (XE hu _)) (Qa (aF x) d u (b0 hu.n (by decide)) (xu hu)),?_⟩
  unfold U1
  cases ae (zD (cH (si (aF x) u) u) (pC d.it.label x)) 10
  · exact⟨O4 hu _ _,(by show Un (nM u d) _ _;rw[hA];exact Ep λ_=>⟨rfl,rfl⟩)⟩
  · exact .refl hu
theorem Vy{u u2:TUnit}{d:PDeed}{te:Int}{full:Bool}(h:OkB u)(h2:Bk u d (u2,0)):Bk u d (RD u te full u2):=by
  have h:∀e,Bk u d (u,e):=λ_=>.refl h
  unfold RD;cases ae te 0<;>cases full<;>first|exact h _|exact h2
theorem abj{e2 e3:Int}{sp:PSpot}(h:(Ip 0 e2 sp e3).2=0):e2=0/\e3=0/\(Ip 0 e2 sp e3).1=sp:=by
  unfold Ip at h ⊢
  rw[show ae 0 0=true from rfl]at h ⊢
  simp only[cond_true]at h ⊢
  cases h1:ae e2 0 with
  |false=>rw[h1]at h;rw[show e2=0 from h]at h1;cases h1
  | true=>
    rw[h1]at h
    cases h2:ae e3 0 with
    |false=>rw[h2]at h;rw[show e3=0 from h]at h2;cases h2
    |true=>exact⟨jE h1,jE h2,rfl⟩
theorem aaM{u x:TUnit}(hu:OkB u)(hx:x∈bV u)(d:PDeed)(hd:og d.it)(hg:BK d.it)(hk:d.it.kind=6)(h0:(aC u d.it.at_).2=0)(hid:(aC u d.it.at_).1=aF x)(hp:jg (aF x) u=true):∃r:pK,kP 99 [eU u,eU x,aV d] (fY r)/\Bk u d r:=by
  have hw:=hg.1 (.inr hk)
  have hF:=uM hu d.it.at_ hd.2.1
  rw[h0,hid]at hF
  obtain⟨bs,hG⟩:=Y4 hu (aF x) (aC u d.it.to).1 d.it.where_ hw
  obtain⟨q,i,h1,h2,h3,h4,h5,h6⟩:=Xu hu hp
  have hD:=TJ u d.it _ _ _ _ _ _ (by rw[hk];rfl) (by rw[hk];rfl) hw hF (uM hu d.it.to hd.2.2.1) hG
  rw[h2,h3,hp]at hD
  cases he:ae (Ip 0 (aC u d.it.to).2 (nO (aF x) (aC u d.it.to).1 (aF q) (Int.ofNat i) true ((mH (aC u d.it.to).1 u).any (ao (aF x))) bs (cD d.it.where_ u (aC u d.it.to).1).1 (cD d.it.where_ u (aC u d.it.to).1).2).1 (nO (aF x) (aC u d.it.to).1 (aF q) (Int.ofNat i) true ((mH (aC u d.it.to).1 u).any (ao (aF x))) bs (cD d.it.where_ u (aC u d.it.to).1).1 (cD d.it.where_ u (aC u d.it.to).1).2).2).2 0 with
  |false=>exact⟨(u,_),Va u x d _ _ _ he hD,.refl hu⟩
  | true=>
    have e0:=jE he
    obtain⟨e1,e2,e3⟩:=abj e0
    obtain⟨n,n1,n2,n3⟩:=Sf hu h1 h4 (oZ e1) e2
    rw[e0,e3,n1]at hD
    obtain⟨hr,hpm⟩:=hu.del h1 h4
    have hkx:gD q.kids i=x:=hu.uni (dD h1 (bi (eP h4) (dU _))) hx h5
    rw[hkx]at hpm
    have hnr:=hr.n
    have hnx:=dT hx
    have hn:=hu.n
    refine⟨_,Vv u x _ _ _ d _ _ n _ _ _ _ _ hD (kp hu (aF x)) h6 (uX hr _) (zC _ x (XE hr _)) (NO _ x _ (by omega) (by omega)) (Qc _ n x _ (by omega) (xu hr) n3),Vy hu ?_⟩
    have hnd:=zi.1 (hpm.nodup_iff.1 hu.nd)
    have hlen:=hpm.length_eq
    rw[lA,<-je,<-je,<-je]at hlen
    exact⟨hr.ins hnd.2.1 (λp hp hq=>hnd.2.2 p hq p hp rfl) (by omega) (λy hy=>hu.w y (dD hx hy)),(by
      have e2:=e2
      have z:=Se hu h1 h4 (oZ e1) (by rw[hkx];exact e2)
      rw[hkx]at z
      have y:=X7 (A:=nM u d) (j:=n) hu h1 h4 z
      rw[hkx]at y
      exact y)⟩
theorem acF{u x:TUnit}(hu:OkB u)(hx:x∈bV u)(d:PDeed)(hd:og d.it)(hg:BK d.it)(hk0:0<=d.it.kind)(hk6:d.it.kind<=6)(h0:(aC u d.it.at_).2=0)(hid:(aC u d.it.at_).1=aF x)(hp:jg (aF x) u=true):∃r:pK,kP (XP d.it.kind) [eU u,eU x,aV d] (fY r)/\Bk u d r:=by
  have hk:d.it.kind=0\/d.it.kind=1\/d.it.kind=2\/d.it.kind=3\/d.it.kind=4\/d.it.kind=5\/d.it.kind=6:=by omega
  rcases hk with h|h|h|h|h|h|h<;>rw[h]
  · exact XI hu x d hd hg h
  · exact aaj hu hx d hp (by unfold nM;rw[h,hid,hu.uni (iH (ma hx)).1 hx (iH (ma hx)).2];rfl)
  · exact Z6 hu hx d (by unfold nM;rw[h,hid];rfl) hg h
  · exact aao hu hx d (by unfold nM;rw[h,hid];rfl) hg h
  · exact aaZ hu d (by unfold nM;rw[h,hid];rfl) hg h
  · exact aal hu d (by unfold nM;rw[h,hid];rfl)
  · exact aaM hu hx d hd hg h h0 hid hp
theorem W6 {u:TUnit}(hu:OkB u)(d:PDeed)(hd:og d.it)(hk0:0<=d.it.kind)(hk6:d.it.kind<=6):∃r:pK,kP 42 [eU u,aV d] (fY r)/\Bk u d r:=by
  obtain⟨b,hV,hg⟩:=X5 d.it hd hk0 hk6
  have hl:=Yu d hk0 hk6
  cases b with
  |false=>exact⟨_,W7 u d _ hl hV,.refl hu⟩
  | true=>
    have hg:=hg rfl
    have hF:=uM hu d.it.at_ hd.2.1
    cases he:ae (aC u d.it.at_).2 0 with
    |false=>exact⟨_,W9 u d _ _ _ hl hV he hF,.refl hu⟩
    | true=>
      have e0:=jE he
      have hh:=oZ e0
      obtain⟨hx,hxi⟩:=iH hh
      rw[e0]at hF
      have hX:=uX hu (aC u d.it.at_).1
      cases hi:(ae (aC u d.it.at_).1.a u.act&&(ae (aC u d.it.at_).1.i u.item&&ae (aC u d.it.at_).1.n u.n))with
      | true=>
        cases hk:ae d.it.kind 0 with
        | true=>
          have hk:=jE hk
          obtain⟨r,h1,h2⟩:=XI hu (cH (aC u d.it.at_).1 u) d hd hg hk
          exact⟨r,TR u _ d _ _ _ r hl hV hF hX hi (by rw[hk];rfl) (by rw[hk];exact h1),h2⟩
        |false=>exact⟨_,W8 u _ d _ _ _ _ _ hl hV hF hX hi hk (uM hu d.it.to hd.2.2.1),.refl hu⟩
      | false=>
        have hni:gQ (aC u d.it.at_).1 u=false:=by
          cases q:gQ (aC u d.it.at_).1 u with
          |false=>rfl
          | true=>
            have:=(fS _ u).1 q
            rw[<-this]at hi
            have e:(ae (aF u).a u.act&&(ae (aF u).i u.item&&ae (aF u).n u.n))=true:=by
              show(ae u.act u.act&&(ae u.item u.item&&ae u.n u.n))=true
              rw[be,be,be];rfl
            rw[e]at hi;cases hi
        obtain⟨r,h1,h2⟩:=acF hu hx d hd hg hk0 hk6 e0 hxi.symm (by rw[hxi];exact V6 hh hni)
        exact⟨r,XQ u _ d _ _ _ r hl hV hF hX hi h1,h2⟩
theorem T5{k:Int}(h:jl k=true):0<=k/\k<=6:=by
  unfold jl at h;rw[ba]at h;exact⟨gu h.1,gu h.2⟩
structure AppOk(u:TUnit)(d:PDeed):Prop where
  b:OkB u
  i:og d.it
  a:jl d.it.kind=true
theorem TO{u:TUnit}{d:PDeed}(h:AppOk u d):∃r:pK,kP 42 [eU u,aV d] (fY r)/\Bk u d r:=W6 h.b d h.i (T5 h.a).1 (T5 h.a).2
open Classical in
noncomputable def eS(u:TUnit)(d:PDeed):pK:=if h:AppOk u d then(TO h).choose else(u,0)
theorem FI{u:TUnit}{d:PDeed}(h:AppOk u d):kP 42 [eU u,aV d] (.tuple [eU (eS u d).1,iV (eS u d).2])/\Bk u d (eS u d):=by
  unfold eS;rw[dif_pos h];exact(TO h).choose_spec
theorem lu{u:TUnit}{d:PDeed}(h:AppOk u d):kP 42 [eU u,aV d] (.tuple [eU (eS u d).1,iV (eS u d).2])/\OkB (eS u d).1:=⟨(FI h).1,(FI h).2.1⟩
theorem B6(u:TUnit)(d:PDeed)(h1:OkB u)(h2:og d.it)(h3:jl d.it.kind=true):kP 42 [eU u,aV d] (.tuple [eU (eS u d).1,iV (eS u d).2]):=(lu ⟨h1,h2,h3⟩).1
noncomputable def n5(u:TUnit)(d:PDeed):TUnit:=bif jl d.it.kind then(eS u d).1 else u
noncomputable def Dh(u:TUnit)(d:PDeed):List PFail:=bif jl d.it.kind then(bif ae (eS u d).2 0 then[]else[⟨d.act,d.item,(eS u d).2⟩])else[]
theorem QH{u:TUnit}{d:PDeed}(h1:OkB u)(h2:og d.it):OkB (n5 u d):=by
  unfold n5
  cases h:jl d.it.kind with
  |false=>exact h1
  |true=>exact(lu ⟨h1,h2,h⟩).2
theorem ZH{u:TUnit}{d:PDeed}(h1:OkB u)(h2:og d.it)(h3:jl d.it.kind=true):Un (yo u d (eS u d).2) u (eS u d).1:=(FI ⟨h1,h2,h3⟩).2.2
noncomputable def dz:TUnit->lab->TUnit
  |u,[]=>u
  |u,d::r=>dz (n5 u d) r
noncomputable def fQ:TUnit->lab->List PFail
  |_,[]=>[]
  |u,d::r=>Dh u d++fQ (n5 u d) r
theorem BL:∀{l:lab}{u:TUnit},OkB u->(∀d,d∈l->og d.it)->OkB (dz u l)
  |[],_,h,_=>h
  |d::r,u,h,hl=>BL (l:=r) (u:=n5 u d) (QH h (hl d (dr ..))) λx hx=>hl x (di _ hx)
theorem wM:∀(l:lab)(u:TUnit),(fQ u l).length<=l.length
  |[],_=>ar _
  | d::r,u=>by
    have:=wM r (n5 u d)
    have h:(Dh u d).length<=1:=by
      unfold Dh
      cases jl d.it.kind<;>cases ae (eS u d).2 0<;>simp
    rw[fQ,lA,lC];omega
theorem aad{u:TUnit}{d:PDeed}{r:lab}(h:jl d.it.kind=false):dz u (d::r)=dz u r/\fQ u (d::r)=fQ u r:=by
  rw[dz,fQ,n5,Dh,h];exact⟨rfl,rfl⟩
theorem Uu{u:TUnit}{d:PDeed}{r:lab}(h:jl d.it.kind=true)(h2:ae (eS u d).2 0=true):dz u (d::r)=dz (eS u d).1 r/\fQ u (d::r)=fQ (eS u d).1 r:=by
  rw[dz,fQ,n5,Dh,h,h2];exact⟨rfl,rfl⟩
theorem Ut{u:TUnit}{d:PDeed}{r:lab}(h:jl d.it.kind=true)(h2:ae (eS u d).2 0=false):dz u (d::r)=dz (eS u d).1 r/\fQ u (d::r)=⟨d.act,d.item,(eS u d).2⟩::fQ (eS u d).1 r:=by
  rw[dz,fQ,n5,Dh,h,h2];exact⟨rfl,rfl⟩
mutual
theorem MJ:∀(u:TUnit)(deep most:Int),nX u deep most<=most->Int.ofNat (nU u)<=nX u deep most
  | ⟨_,_,_,_,_,_,_,kids⟩,deep,most,h=>by
    rw[nX]at h ⊢
    cases hd:aE 20 deep with
    |true=>rw[hd]at h;simp only at h;omega
    | false=>
      rw[hd]at h
      have:=MK kids deep most 1 h
      rw[nU]
      simp only[oN]at *
      omega
theorem MK:∀(l:lad)(deep most n:Int),nW l deep most n<=most->n+Int.ofNat (eB l)<=nW l deep most n
  |[],_,_,n,_=>by rw[nW,eB];exact Int.le_of_eq (Int.add_zero n)
  | k::r,deep,most,n,h=>by
    rw[nW]at h ⊢
    cases hd:aE most n with
    |true=>rw[hd]at h;have:=ap hd;simp only at h;omega
    | false=>
      rw[hd]at h
      have h2:=MK r deep most _ h
      have h1:=MJ k (deep+1) (most-n) (by simp only[oN]at *;omega)
      rw[eB]
      simp only[oN]at *
      omega
end
theorem GE{l:lag}(h:nJ l=true):l.length<=300/\∀w,w∈l->w.text.length<=100:=by
  unfold nJ at h
  obtain⟨h1,h2⟩:=jj.1 h
  refine⟨by have:=gu h2;simp only[oN]at this;omega,λw hw=>?_⟩
  have:=gu (mf.1 h1 w hw)
  simp only[oN]at this;omega
theorem Ji:∀(u:TUnit),lV u=true->∀x,x∈bV u->sI x:=by
  refine TUnit.ind λu ih h x hx=>?_
  rw[CS]at h
  simp only[ba]at h
  obtain⟨⟨⟨h0,h1⟩,h2⟩,h3⟩:=h
  rw[b8]at hx
  rcases dO.1 hx with rfl|hx
  · have h0:=gu h0
    simp only[oN]at h0
    have q1:=GE h1
    have q2:=GE h2
    exact⟨q1.1,q2.1,by omega,λw hw=>b0 (q1.2 w hw) (by decide),λw hw=>b0 (q2.2 w hw) (by decide)⟩
  · obtain⟨k,hk,hx⟩:=kK hx
    exact ih k hk (mf.1 h3 k hk) x hx
theorem ZV{u:TUnit}{n:Nat}(h:IV u (.ofNat n)=true):nU u<=n/\∀x,x∈bV u->sI x:=by
  unfold IV at h
  obtain⟨h1,h2⟩:=jj.1 h
  refine⟨?_,Ji u h2⟩
  have h3:=gu h1
  have:=MJ u 0 (.ofNat n) h3
  simp only[oN]at *
  omega
theorem Rh{x:PItem}(hf:nP x)(h:oc x=true):og x:=by
  rw[Fy]at h
  unfold zX at h
  simp only[ba]at h
  obtain⟨⟨⟨⟨⟨⟨⟨⟨⟨⟨a1,a2⟩,a3⟩,a4⟩,a5⟩,a6⟩,a7⟩,a8⟩,a9⟩,a10⟩,b1,b2,b3,b4,b5⟩:=h
  have a1:=gu a1
  have a2:=gu a2
  have a3:=gu a3
  have a4:=gu a4
  have a5:=gu a5
  have a6:=gu a6
  have a7:=gu a7
  simp only[oN]at a1 a2 a3 a4 a5 a6 a7
  have hs:∀{l:laj},l.all yb=true->∀s,s∈l->s.length<=2^39:=λh s hs=>by
    have:=gu (mf.1 h s hs);simp only[oN]at this;omega
  have ht:∀{l:lap},l.all ya=true->∀s,s∈l->s.label.length<=2^39:=λh s hs=>by
    have:=gu (mf.1 h s hs);simp only[oN]at this;omega
  have hu:=ZV (n:=30) a10
  exact⟨hf,⟨by omega,ht b3⟩,⟨by omega,ht b4⟩,⟨by omega,hs b1⟩,⟨by omega,hs b2⟩,by omega,by omega,by omega,b0 hu.1 (by decide),hu.2⟩
noncomputable abbrev bU(u:TUnit):AObj:=.row 8 false 0 [eU u]
theorem KR{u v:TUnit}{l r:lab}{xs:List PFail}(h:fQ u l=xs++fQ v r):xs.length<=l.length:=by
  grind[wM]
theorem T1(u:TUnit)(l:lab)(hu:OkB u)(hl:l.length<2^30)(ho:∀d,d∈l->og d.it):kP 40 [eU u,.ls (l.map aV)] (.tuple [eU (dz u l),.ls ((fQ u l).map eQ)]):=by
  have rr0 b' (h:((dz u l).act)=b':=by first|(rw[hj0.2.1];rfl)|(rw[hj0.2.2];rfl)|(rw[hj0.2.2.1];rfl)|(rw[hj0.2.2.2];simp only[fQ,eu])|exact aX gd _):=h;have rr1 b' (h:((dz u l).item)=b':=by first|(rw[hj0.2.1];rfl)|(rw[hj0.2.2];rfl)|(rw[hj0.2.2.1];rfl)|(rw[hj0.2.2.2];simp only[fQ,eu])|exact aX gd _):=h;have rr2 b' (h:((dz u l).n)=b':=by first|(rw[hj0.2.1];rfl)|(rw[hj0.2.2];rfl)|(rw[hj0.2.2.1];rfl)|(rw[hj0.2.2.2];simp only[fQ,eu])|exact aX gd _):=h;have rr3 b' (h:((dz u l).kind)=b':=by first|(rw[hj0.2.1];rfl)|(rw[hj0.2.2];rfl)|(rw[hj0.2.2.1];rfl)|(rw[hj0.2.2.2];simp only[fQ,eu])|exact aX gd _):=h;have rr4 b' (h:((dz u l).label)=b':=by first|(rw[hj0.2.1];rfl)|(rw[hj0.2.2];rfl)|(rw[hj0.2.2.1];rfl)|(rw[hj0.2.2.2];simp only[fQ,eu])|exact aX gd _):=h;have rr5 b' (h:(List.map aQ (dz u l).head)=b':=by first|(rw[hj0.2.1];rfl)|(rw[hj0.2.2];rfl)|(rw[hj0.2.2.1];rfl)|(rw[hj0.2.2.2];simp only[fQ,eu])|exact aX gd _):=h;have rr6 b' (h:(List.map aQ (dz u l).words)=b':=by first|(rw[hj0.2.1];rfl)|(rw[hj0.2.2];rfl)|(rw[hj0.2.2.1];rfl)|(rw[hj0.2.2.2];simp only[fQ,eu])|exact aX gd _):=h;have rr7 b' (h:(List.map aU (dz u l).kids)=b':=by first|(rw[hj0.2.1];rfl)|(rw[hj0.2.2];rfl)|(rw[hj0.2.2.1];rfl)|(rw[hj0.2.2.2];simp only[fQ,eu])|exact aX gd _):=h;have rr8 b' (h:((fQ u l).map eQ)=b':=by first|(rw[hj0.2.1];rfl)|(rw[hj0.2.2];rfl)|(rw[hj0.2.2.1];rfl)|(rw[hj0.2.2.2];simp only[fQ,eu])|exact aX gd _):=h;exact bH Tryz.func40<|Kl 2 5 bI<|Kl 2 12 (ln aV l)<|Mg 0<|abR TUnit Nat Nat (List PFail) aV l u [2,4,6,11,12,13] (λa _ b=>([bY 0 0 0 0,bY 1 0 0 0,ah,aW<|l.map aV,nV l.length,nV a],[aZ 8 false 0 [av (uLx b)],aZ 8 false 0 [av [iV 0,iV 0,iV 0,iV 0,aj [],ah,ah,ah]]])) (λa _ b c e f=>([bY 0 0 0 0,bY 1 0 0 0,aM 2 c 0 e none,aW<|l.map aV,nV l.length,nV a],[aZ 8 false 0 [av (uLx b)],aZ 8 false 0 [av [iV 0,iV 0,iV 0,iV 0,aj [],ah,ah,ah]],aZ 3 true c<|f.map eQ])) (λa b=>OkB b/\dz u l=dz b a/\fQ u l=fQ b a) (λa b _ c e=>OkB b/\c=e.length/\dz u l=dz b a/\fQ u l=e++fQ b a) sA (λ_ _ a _ _ _ b hj0=>Kh 0 b<|Kl 3 5 bI<|Mf<|dJ<|.cons (bJ (.cons (li<|rr0 a.act)<|.cons (li<|rr1 a.item)<|.cons (li<|rr2 a.n)<|.cons (li<|rr3 a.kind)<|.cons (Le.str<|rr4 a.label)<|.cons (ch<|rr5<|a.head.map aQ)<|.cons (ch<|rr6<|a.words.map aQ)<|.cons (ch<|rr7<|a.kids.map aU) .nil)<|by kernel_rfl)<|.cons (ch<|rr8 []) .nil) (λa _ b c _ e f g i j k _ n hj0=>have c:=ho _<|aG c j;Kt 0 k<|Mx n<|Kp 5 (Lh e.it.kind)<|Kn 0 (jl e.it.kind) (λ_=>Kl 0 40 (dQ a)<|K1 0 (.frz 2 [2,4,6,11,12,13]) (cL rt rt ti)<|Mf<|g b<|by grind[aad]) λj=>Kp 1 (B6 b e sA c j)<|Kc 7 (eS b e).2 0 (λ_ _=>Kl 12 40 (dQ a)<|Mg 0<|M0 (.ren [0,1,4,2,3] [] [2,4,6,11,12,13])<|M1 (.frz 3 [2,4,6,11,12,13]) (jp rt rt rt ti)<|Mf<|i (eS b e).1 0 1 [PFail.mk e.act e.item (eS b e).2]<|by exact⟨(lu ⟨hj0.1,c,by omega⟩).2,rfl,hj0.2.1.trans (Ut (by omega) (by omega)).1,hj0.2.2.trans (Ut (by omega) (by omega)).2⟩) λ_ _=>Kl 2 40 (dQ a)<|K1 0 (.frz 2 [2,4,6,11,12,13]) (cL rt rt ti)<|Mf<|g (eS b e).1<|by exact⟨(lu ⟨hj0.1,c,by omega⟩).2,hj0.2.1.trans (Uu (by omega) (by omega)).1,hj0.2.2.trans (Uu (by omega) (by omega)).2⟩) (λ_ _ a b c e _ _ _ f hj0=>Kh 0 f<|Mg 3<|M2 (.fsl 2 [4] 5<|e.map eQ) (cL rt rt ti) (cL (aY b) (tA eQ e c (oA:(e).length=c))<|aX gd e)<|Ml 5 (fe (e.map eQ) false<|aX gd e)<|Mf<|dJ<|.cons (bJ (.cons (li<|rr0 a.act)<|.cons (li<|rr1 a.item)<|.cons (li<|rr2 a.n)<|.cons (li<|rr3 a.kind)<|.cons (Le.str<|rr4 a.label)<|.cons (ch<|rr5<|a.head.map aQ)<|.cons (ch<|rr6<|a.words.map aQ)<|.cons (ch<|rr7<|a.kids.map aU) .nil)<|by kernel_rfl)<|.cons (ch<|rr8<|e.map eQ) .nil) λa _ b c e f g _ i j _ k n o _ p hj0=>have g:=ho _<|aG g n;Kt 0 o<|Mx p<|Kp 5 (Lh i.it.kind)<|Kn 0 (jl i.it.kind) (λ_=>Kl 0 40 (dQ a)<|K1 0 (.frz 3 [2,4,6,11,12,13]) (jp (tR 3 true c 3<|aX gd f) rt rt ti)<|Mf<|k b c e f<|by grind[aad]) λn=>Kp 1 (B6 b i sA g n)<|Kc 7 (eS b i).2 0 (λ_ _=>K1 7 .app (cL (aY c) (sA:e=(f.map eQ).length) (by(have z:=KR hj0.2.2.2;have z2:=hj0.2.1;refine aN (m:=2^31) ?_ ?_ ?_<;>omega):small (e+1) 24=true))<|M1 (.obj 2<|aZ 3 true (c+1)<|(f++[PFail.mk i.act i.item (eS b i).2]).map eQ) (congrArg (aZ 3 true<|c+1)<|cO (f:=eQ) (l:=f) (ws:=[PFail.mk i.act i.item (eS b i).2]))<|Kl 3 40 (dQ a)<|K1 0 (.frz 3 [2,4,6,11,12,13]) (jp (tR 3 true (c+1) 3<|aX gd<|f++[PFail.mk i.act i.item (eS b i).2]) rt rt ti)<|Mf<|k (eS b i).1 (c+1) (e+1) (f++[PFail.mk i.act i.item (eS b i).2])<|by exact⟨(lu ⟨hj0.1,g,by omega⟩).2,by simp_all,hj0.2.2.1.trans (Ut (by omega) (by omega)).1,hj0.2.2.2.trans (by grind[Ut])⟩) λ_ _=>Kl 2 40 (dQ a)<|K1 0 (.frz 3 [2,4,6,11,12,13]) (jp (tR 3 true c 3<|aX gd f) rt rt ti)<|Mf<|k (eS b i).1 c e f<|by exact⟨(lu ⟨hj0.1,g,by omega⟩).2,hj0.2.1,hj0.2.2.1.trans (Uu (by omega) (by omega)).1,hj0.2.2.2.trans (by grind[Uu])⟩
end Go.Proofs.YtiflidpifinbjaaGreatDoor
