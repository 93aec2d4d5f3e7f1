/- Functions walked: what each of them answers, for the law that an act has touched the units that its number names, and that items are effective only while they are in force: part 1. Conditions: those that each theorem names. -/
import Derived.Test.YtiflidpifinbjaaGreatDoorCmb
import Derived.Test.YtiflidpifinbjaaGreatDoorLay
import Derived.Test.YtiflidpifinbjaaGreatDoorLay2
namespace Go.Proofs.YtiflidpifinbjaaGreatDoor
open Go Go.Ev
noncomputable abbrev cq:=@Le.bool
noncomputable abbrev aW:=@AV.ls
noncomputable abbrev av:=@AV.agg
noncomputable abbrev aj:=@AV.str
noncomputable abbrev bc:=@AV.func
noncomputable abbrev bb:=@Fn.func
noncomputable abbrev fe:=@Le.ps
noncomputable abbrev jV:=@AV.ps
noncomputable abbrev bA:=@Le.refl
noncomputable abbrev fZ:=@AV.bool
noncomputable abbrev dJ:=@Le.tuple
noncomputable abbrev cX:=@AV.tuple
noncomputable abbrev ah:=@AV.nils
noncomputable abbrev aZ:=@AObj.row
noncomputable abbrev fL:=@Uq
noncomputable abbrev bY:=@AV.ptr
noncomputable abbrev aM:=@AV.slice
noncomputable abbrev bI:=@Le.nils
noncomputable abbrev acS:=@ARes.val
noncomputable def qP(x:PWord):Bool:=ak (aE 100 (.ofNat x.text.length))
noncomputable def nJ(ws:lag):Bool:=ws.all qP&&ak (aE 300 (.ofNat ws.length))
theorem Hr(x:Int):kP 109 [iV x] (.bool false):=by
  have rr0 b' (h:(false)=b':=by simp[be]):=h;exact wk Tryz.func109 (.go 4 .fin)<|cq<|rr0<|ak<|ae x x
theorem pT(x y:Int):kP 76 [iV x,iV y] (iV (jF x y)):=by
  have rr0 b' (h:(jF x y)=b':=by simp[jF, *]):=h;exact bH Tryz.func76<|Kp 1 (Hr x)<|Kp 1 (Hr y)<|Kb 7 (aE x y) (λ_=>Kf 0<|li<|rr0 (-1)) λ_=>Kb 2 (aE y x) (λ_=>Kf 0<|li<|rr0 1) λ_=>Kf 0<|li<|rr0 0
theorem GD(ws:lag)(hl:ws.length<2^60):kP 205 [.ls (ws.map aQ)] (.bool (nJ ws)):=by
  have rr0 b' (h:(nJ ws)=b':=by simp only[nJ,qP,aS,ak,bS, *]):=h;exact bH Tryz.func205<|Mg 1<|sn aQ ws [0,3] (λa _=>([aW<|ws.map aQ,nV a],[])) (λa=>ws.all qP=a.all qP) (by rfl) (λ_ _ _ _ _ a _=>Kl 2 6 (ln aQ ws)<|Kh 0 a<|Kl 1 18 (ln aQ ws)<|Kf 1<|cq<|rr0<|ak<|aE 300<|Int.ofNat ws.length) λa _ _ _ b c d _ e _ f _=>Kl 2 6 (ln aQ ws)<|Kt 0 e<|Kx 1 f<|Ka 3 100 (Int.ofNat<|List.length b.text) (λ_ _=>Ky 0<|rr0 false) λ_ _=>Kl 1 9 (dQ a)<|Kf 0<|d<|by simp_all[qP]
mutual
noncomputable def lV:TUnit->Bool
  |⟨_,_,_,_,label,h,w,kids⟩=>ak (aE 30 (.ofNat label.length))&&nJ h&&nJ w&&zl kids
noncomputable def zl:lad->Bool
  |[]=>true
  |u::r=>lV u&&zl r
end
theorem CR:∀(l:lad),zl l=l.all lV
  |[]=>by rw[zl];rfl
  |u::r=>by rw[zl,CR r];rfl
theorem CS(u:TUnit):lV u=(ak (aE 30 (.ofNat u.label.length))&&nJ u.head&&nJ u.words&&u.kids.all lV):=by
  obtain⟨a,b,c,d,e,f,g,h⟩:=u
  rw[lV,CR];rfl
theorem Qw:∀(u:TUnit),tT u->kP 121 [eU u] (.bool (lV u)):=by
  refine TUnit.ind λu ih hf=>?_
  obtain⟨f1,f2,f3,f4⟩:=re.1 hf
  have rr0 b' (h:(lV u)=b':=by rw[CS];simp only[aS,ak,bS, *]):=h;exact bH Tryz.func121<|Ka 6 30 (Int.ofNat<|List.length u.label) (λa _=>Mt a<|Mt a<|Mt a<|MV a<|Ky 3<|rr0 false) λa _=>Kh 0 a<|Kh 0 a<|Mp (GD u.head f1)<|Mh a<|Kw 0 a<|Kn 0 (nJ u.head) (λa=>Mt (cM a)<|Mt (cM a)<|Mt (cM a)<|MV (cM a)<|Ky 1<|rr0 false) λa=>Kh 0 (cp a)<|Kh 0 (cp a)<|Mp (GD u.words f2)<|Mh (cp a)<|Kw 0 (cp a)<|Mn (nJ u.words) (λ_=>Ky 0<|rr0 false) λ_=>K1 0 (.frz 0 [1,3]) ti<|sn aU u.kids [1,3] (λa _=>([AV.pptr [av (uLx u)] 0 0,nV a],[])) (λa=>u.kids.all lV=a.all lV) (by rfl) (λ_ _ _ _ _ a _=>Kl 3 23 (ln aU u.kids)<|Kh 0 a<|Ky 0<|rr0 true) λa _ b _ c d e f g _ i _=>have i:=i.trans<|congrArg some<|bQ c;Kl 3 23 (ln aU u.kids)<|Kt 0 g<|Kx 2 i<|Kp 0 (ih c (by exact aG b f)<|by exact f4 _ (aG b f))<|Kn 0 (lV c) (λ_=>Kf 0<|cq<|rr0 false) λ_=>Kl 1 26 (dQ a)<|Kf 0<|e sA
mutual
noncomputable def nX:TUnit->Int->Int->Int
  |⟨_,_,_,_,_,_,_,kids⟩,deep,most=>match aE 20 deep with|true=>most+1|false=>nW kids deep most 1
noncomputable def nW:lad->Int->Int->Int->Int
  |[],_,_,n=>n
  |k::r,deep,most,n=>match aE most n with|true=>n|false=>nW r deep most (n+nX k (deep+1) (most-n))
end
theorem QR(u:TUnit)(deep most:Int):nX u deep most=match aE 20 deep with|true=>most+1|false=>nW u.kids deep most 1:=by
  obtain⟨a,b,c,d,e,f,g,h⟩:=u;rw[nX];rfl
mutual
theorem GB:∀(u:TUnit)(deep most:Int),0<=most->1<=nX u deep most/\nX u deep most<=most+1
  | ⟨_,_,_,_,_,_,_,kids⟩,deep,most,h=>by
    rw[nX]
    split
    · omega
    · exact GC kids deep most 1 (by omega) (by omega)
theorem GC:∀(l:lad)(deep most n:Int),1<=n->n<=most+1->1<=nW l deep most n/\nW l deep most n<=most+1
  |[],_,_,n,h1,h2=>by grind[nW]
  | k::r,deep,most,n,h1,h2=>by
    rw[nW]
    split
    · omega
    · rename_i h
      have:=aI h
      have:=GB k (deep+1) (most-n) (by omega)
      exact GC r deep most _ (by omega) (by omega)
end
theorem UE:∀(u:TUnit),tT u->∀(deep most:Int),0<=deep->deep<=21->0<=most->most<=2^20->kP 120 [eU u,iV deep,iV most] (iV (nX u deep most)):=by
  refine TUnit.ind λu ih hf deep most d1 d2 m1 m2=>?_
  obtain⟨f1,f2,f3,f4⟩:=re.1 hf
  have rr0 b' (h:(nX u deep most)=b':=by rw[QR];simp only[nW,aS,ak,bS, *]):=h;exact bH Tryz.func120<|Ka 3 20 deep (λ_ _=>Kl 1 12 (Le.wr (x:=most+1) fu)<|Kf 0<|li<|rr0<|most+1) λ_ _=>K1 1 (.frz 0 [1,2,3,7,8]) ti<|OV aU u.kids (1:Int) [1,2,3,7,8] (λa _ b=>([iV deep,iV most,AV.pptr [av (uLx u)] 0 0,iV b,nV a],[])) (λa b=>(1:Int)<=b/\b<=most+(1:Int)/\nW u.kids deep most (1:Int)=nW a deep most b) oA (λ_ _ a _ _ _ b _=>Kl 3 16 (ln aU u.kids)<|Kh 1 b<|Mh b<|Mh b<|My b<|Kf 2<|li<|rr0 a) λa _ b c _ d e f g i _ j _=>have j:=j.trans<|congrArg some<|bQ d;Kl 3 16 (ln aU u.kids)<|Kt 1 i<|Kt 0 i<|Kt 0 i<|Ku 0 i<|Mn (aE most b) (λi=>have:=aI i;Kx 3 j<|Kl 2 32 (Le.wr (x:=deep+1) fu)<|Kl 2 35 (Le.wr (x:=most-b) fu)<|Mp (ih d (by exact aG c g) (by exact f4 _ (aG c g)) (deep+1) (most-b) oA oA oA oA)<|have:=GB d (deep+1) (most-b) oA;Kl 0 37 (Le.wr (x:=b+nX d (deep+1) (most-b)) fu)<|Kl 2 24 (dQ a)<|Kf 0<|f (b+nX d (deep+1) (most-b))<|by(refine⟨by omega,by omega,?_⟩;first|rfl|grind[nW])) λa=>have:=ap a;Kf 1<|li<|rr0 b
noncomputable def IV(u:TUnit)(most:Int):Bool:=ak (aE most (nX u 0 most))&&lV u
theorem Wk(u:TUnit)(most:Int)(hf:tT u)(m1:0<=most)(m2:most<=2^20):kP 92 [eU u,iV most] (.bool (IV u most)):=by
  have rr0 b' (h:(IV u most)=b':=by simp only[IV,aS,ak,bS, *]):=h;exact bH Tryz.func92<|Kp 3 (UE u hf 0 most oA oA m1 m2)<|Kn 2 (aE most<|nX u 0 most) (λa=>Kt 0 (cM a)<|Mp (Qw u hf)<|MV (cM a)<|Kf 0<|cq<|rr0<|lV u) λa=>Mh (cp a)<|My (cp a)<|Ky 0<|rr0 false
noncomputable def yb(s:bZ):Bool:=ak (aE 100 (.ofNat s.length))
noncomputable def ya(s:PStep):Bool:=ak (aE 100 (.ofNat s.label.length))
noncomputable def zX(x:PItem):Bool:=
  ak (aE 12 (.ofNat x.at_.length))&&ak (aE 12 (.ofNat x.to.length))&&ak (aE 300 (.ofNat x.old.length))&&ak (aE 300 (.ofNat x.new.length))&&ak (aE 100 (.ofNat x.label.length))&&ak (aE 100 (.ofNat x.for_.length))
  &&ak (aE 100 (.ofNat x.start.event.length))&&ak (aE 100 (.ofNat x.event.length))&&ak (aE 2 (.ofNat x.by_.length))&&IV x.unit 30
noncomputable def It(y:PItem):Bool:=aE 0 (.ofNat y.by_.length)&&aE 0 (.ofNat (gD y.by_ 0).by_.length)
mutual
noncomputable def oc:PItem->Bool
  |⟨k,a,t,w,nn,u,o,n,lb,fo,st,ac,it,dy,ev,by_⟩=>zX ⟨k,a,t,w,nn,u,o,n,lb,fo,st,ac,it,dy,ev,by_⟩&&(o.all yb&&(n.all yb&&(a.all ya&&(t.all ya&&IU by_))))
noncomputable def IU:lat->Bool
  |[]=>true
  |u::r=>(ak (It u)&&oc u)&&IU r
end
noncomputable def I2(y:PItem):Bool:=ak (It y)&&oc y
theorem IY:∀(l:lat),IU l=l.all I2
  |[]=>by rw[IU];rfl
  |u::r=>by rw[IU,IY r];rfl
theorem Fy(x:PItem):oc x=(zX x&&(x.old.all yb&&(x.new.all yb&&(x.at_.all ya&&(x.to.all ya&&x.by_.all I2))))):=by
  obtain⟨k,a,t,w,nn,u,o,n,lb,fo,st,ac,it,dy,ev,by_⟩:=x
  rw[oc,IY];rfl
theorem Ww:∀(x:PItem),nP x->kP 62 [eI x] (.bool (oc x)):=by
  refine PItem.ind λx ih hf=>?_
  obtain⟨f1,f2,f3,f4,f5,f6,f7⟩:=rf.1 hf
  have hu:kP 92 [eU x.unit,iV 30] (.bool (IV x.unit 30)):=Wk x.unit 30 f6 (by omega) (by omega)
  have rr0 b' (h:(oc x)=b':=by rw[Fy,zX];simp only[I2,It,yb,ya,aS,ak,bS, *]):=h;exact bH Tryz.func62<|Kl 4 10 (ln aq x.at_)<|Ka 1 12 (Int.ofNat x.at_.length) (λa _=>Mt a<|Mt a<|Mt a<|MV a<|Ky 17<|rr0 false) λa _=>Kh 0 a<|Kh 0 a<|Kl 0 15 (ln aq x.to)<|Mh a<|Kw 0 a<|Ka 0 12 (Int.ofNat x.to.length) (λa _=>Mt a<|Mt a<|Mt a<|MV a<|Ky 15<|rr0 false) λa _=>Kh 0 a<|Kh 0 a<|Kl 0 21 (ln nD x.old)<|Mh a<|Kw 0 a<|Ka 0 300 (Int.ofNat x.old.length) (λa _=>Mt a<|Mt a<|Mt a<|MV a<|Ky 13<|rr0 false) λa _=>Kh 0 a<|Kh 0 a<|Kl 0 27 (ln nD x.new)<|Mh a<|Kw 0 a<|Ka 0 300 (Int.ofNat x.new.length) (λa _=>Mt a<|Mt a<|Mt a<|MV a<|Ky 11<|rr0 false) λa _=>Kh 0 a<|Kh 0 a<|Kh 0 a<|Kw 0 a<|Ka 0 100 (Int.ofNat<|List.length x.label) (λa _=>Mt a<|Mt a<|Mt a<|MV a<|Ky 9<|rr0 false) λa _=>Kh 0 a<|Kh 0 a<|Kh 0 a<|Kw 0 a<|Ka 0 100 (Int.ofNat<|List.length x.for_) (λa _=>Mt a<|Mt a<|Mt a<|Mt a<|MV a<|Ky 7<|rr0 false) λa _=>Kh 0 a<|Kh 0 a<|Kh 0 a<|Kh 0 a<|Kw 0 a<|Ka 0 100 (Int.ofNat<|List.length x.start.event) (λa _=>Mt a<|Mt a<|Mt a<|MV a<|Ky 5<|rr0 false) λa _=>Kh 0 a<|Kh 0 a<|Kh 0 a<|Kw 0 a<|Ka 0 100 (Int.ofNat<|List.length x.event) (λa _=>Mt a<|Mt a<|Mt a<|MV a<|Ky 3<|rr0 false) λa _=>Kh 0 a<|Kh 0 a<|Kl 0 58 (ln PB x.by_)<|Mh a<|Kw 0 a<|Ka 0 2 (Int.ofNat x.by_.length) (λa _=>Mt a<|Mt a<|Mt a<|MV a<|Ky 1<|rr0 false) λa _=>Kh 0 a<|Kh 0 a<|Mp hu<|Mh a<|Kw 0 a<|Mn (IV x.unit 30) (λ_=>Ky 0<|rr0 false) λ_=>K1 0 (.frz 0 [1,3]) ti<|sn nD x.old [1,3] (λa _=>([AV.pptr [av (iLx x)] 0 0,nV a],[])) (λa=>x.old.all yb=a.all yb) (by rfl) (λ_ _ _ _ _ a _=>Kl 3 70 (ln nD x.old)<|Kh 0 a<|Mg 0<|sn nD x.new [1,4] (λa _=>([AV.pptr [av (iLx x)] 0 0,nV a],[])) (λa=>x.new.all yb=a.all yb) (by rfl) (λ_ _ _ _ _ a _=>Kl 3 84 (ln nD x.new)<|Kh 0 a<|Mg 0<|sn aq x.at_ [1,5] (λa _=>([AV.pptr [av (iLx x)] 0 0,nV a],[])) (λa=>x.at_.all ya=a.all ya) (by rfl) (λ_ _ _ _ _ a _=>Kl 3 98 (ln aq x.at_)<|Kh 0 a<|Mg 0<|sn aq x.to [1,6] (λa _=>([AV.pptr [av (iLx x)] 0 0,nV a],[])) (λa=>x.to.all ya=a.all ya) (by rfl) (λ_ _ _ _ _ a _=>Kl 3 113 (ln aq x.to)<|Kh 0 a<|Mg 0<|sn PB x.by_ [1,7] (λa _=>([AV.pptr [av (iLx x)] 0 0,nV a],[])) (λa=>x.by_.all I2=a.all I2) (by rfl) (λ_ _ _ _ _ a _=>Kl 3 128 (ln PB x.by_)<|Kh 0 a<|Ky 0<|rr0 true) λa _ b _ c d e f g _ i _=>have i:=i.trans<|congrArg some<|eG c;Kl 3 128 (ln PB x.by_)<|Kt 0 g<|Kx 2 i<|Kl 2 138 (ln PB c.by_)<|Ka 1 0 (Int.ofNat c.by_.length) (λg _=>Kt 0 g<|Kt 0 g<|Kt 0 g<|Mx i<|Mt g<|Kt 0 g<|Kt 0 g<|Mx ((bw PB (sA:0<(c.by_).length)).trans<|congrArg some<|eG _)<|Mt g<|Kt 0 g<|Kt 0 g<|Kl 0 150 (ln PB (gD c.by_ 0).by_)<|Mt g<|Ku 0 g<|Ka 0 0 (Int.ofNat (gD c.by_ 0).by_.length) (λa _=>Mt a<|Mt a<|Mt a<|Mt a<|Mt a<|Mt a<|MV a<|Ky 1<|rr0 false) λg _=>Kh 0 g<|Kh 0 g<|Kh 0 g<|Mx i<|Mh g<|Kh 0 g<|Mp (ih c (by exact aG b f)<|by exact f7 _ (aG b f))<|Mh g<|Kw 0 g<|Mn (oc c) (λ_=>Kf 0<|cq<|rr0 false) λ_=>Kl 1 131 (dQ a)<|Kf 0<|e<|by simp_all[I2,It]) λg _=>Mh g<|Mh g<|Mh g<|Mh g<|Mh g<|Mh g<|Mh g<|Mh g<|Mh g<|Mh g<|My g<|Kx 3 i<|Kp 0 (ih c (by exact aG b f)<|by exact f7 _ (aG b f))<|Kn 1 (oc c) (λ_=>Kf 0<|cq<|rr0 false) λ_=>Kl 1 131 (dQ a)<|Kf 0<|e<|by simp_all[I2,It]) λa _ _ _ b c d _ e _ f _=>Kl 3 113 (ln aq x.to)<|Kt 0 e<|Kx 2 f<|Ka 3 100 (Int.ofNat<|List.length b.label) (λ_ _=>Ky 0<|rr0 false) λ_ _=>Kl 1 116 (dQ a)<|Kf 0<|d<|by simp_all[ya]) λa _ _ _ b c d _ e _ f _=>Kl 3 98 (ln aq x.at_)<|Kt 0 e<|Kx 2 f<|Ka 3 100 (Int.ofNat<|List.length b.label) (λ_ _=>Ky 0<|rr0 false) λ_ _=>Kl 1 101 (dQ a)<|Kf 0<|d<|by simp_all[ya]) λa _ _ _ b c d _ e _ f _=>Kl 3 84 (ln nD x.new)<|Kt 0 e<|Kx 2 f<|Ka 2 100 (Int.ofNat<|List.length b) (λ_ _=>Ky 0<|rr0 false) λ_ _=>Kl 1 87 (dQ a)<|Kf 0<|d<|by simp_all[yb]) λa _ _ _ b c d _ e _ f _=>Kl 3 70 (ln nD x.old)<|Kt 0 e<|Kx 2 f<|Ka 2 100 (Int.ofNat<|List.length b) (λ_ _=>Ky 0<|rr0 false) λ_ _=>Kl 1 73 (dQ a)<|Kf 0<|d<|by simp_all[yb]
theorem ifB(l:bZ)(g:Nat)(p:UInt8->Bool)(hp:∀s,s∈l->kP g [.int .u8 (.ofNat s.toNat)] (.bool (p s)))(hl:l.length<2^40):kP 312 [.ls (l.map oW),.func (.func g) [] []] (iV (cN p l 0)):=by
  have rr0 b' (h:(cN p l 0)=b':=by first|exact jM zd0 hr0 hj0 ‹_› |exact hj0):=h;exact bH Tryz.func312<|Kl 2 7 (ln oW l)<|Mg 0<|sn oW l [0,1,7,8] (λa _=>([aW<|l.map oW,bc (bb g) [] [],nV<|List.length l,nV a],[])) (λa=>cN p l (0:Nat)=cN p a (List.length l-a.length)) sA (λ_ _ zd0 _ hr0 a hj0=>Kh 0 a<|Kf 0<|li<|rr0 (-1)) λa _ zd0 _ b c d hr0 e _ f hj0=>Kt 0 e<|Kx 4 f<|Kp 0 (hp b<|by exact aG zd0 hr0)<|Mb (p b) (λ_=>Kf 1<|li<|rr0<|Int.ofNat a) λ_=>Kl 0 18 (dQ a)<|Kf 0<|d<|by exact ii zd0 hr0 hj0 (by omega)
theorem cfB(l:bZ)(g:Nat)(p:UInt8->Bool)(hp:∀s,s∈l->kP g [.int .u8 (.ofNat s.toNat)] (.bool (p s)))(hl:l.length<2^40):kP 300 [.ls (l.map oW),.func (.func g) [] []] (.bool (l.any p)):=by
  have h:=ifB l g p hp hl
  have rr0 b' (h:(List.any l p)=b':=by(rw[jD];simp only[aS,ak,bS,mq])):=h;exact bH Tryz.func300<|Kp 2 h<|Kf 1<|cq<|rr0<|ak<|aE (cN p l 0) 0
theorem Qv(c:UInt8):kP 299 [.int .u8 (.ofNat c.toNat)] (.bool (ak (QU 33 126 c))):=by
  have rr0 b' (h:(ak (QU 33 126 c))=b':=by(simp only[QU,aS,ak,bS,mq, *])):=h;exact bH Tryz.func299<|Kb 3 (aE (Int.ofNat c.toNat) 33) (λa=>Mt a<|MV a<|Ky 0<|rr0 true) λa=>Kh 0 a<|Kw 0 a<|Kf 0<|cq<|rr0<|aE 126<|Int.ofNat c.toNat
theorem Ua(s:bZ)(hs:s.length<=2^39):kP 268 [.str s] (.bool (sF s)):=by
  have h:=cfB s 299 _ (λc _=>Qv c) (by omega)
  have rr0 b' (h:(sF s)=b':=by first|(simp only[sF,aS,ak,bS, *];done)|(rw[sF,TQ,List.all_eq_not_any_not];simp only[FZ,aS,ak,bS, *]at *)):=h;let q:=List.map oW s;exact bH Tryz.func268<|Kn 4 (ei s (ByteArray.mk #[]).data.toList) (λa=>Kt 0 (cM a)<|Kt 0 (cM a)<|Ku 0 (cM a)<|Kn 0 (aE 24<|Int.ofNat<|List.length s) (λa=>Kt 0 (cM a)<|Mv (WD (s:=s) (H:=aw []) (oA:(s).length<=2^40))<|Mt (cM a)<|Kt 0 (cM a)<|Mp (aP.onArgs (.cons (fe q _<|aX XO s)<|lc .nil) h:kP 300 [jV q false,bc (bb 299) [] []] _)<|Mt (cM a)<|Ku 0 (cM a)<|Kf 0<|cq<|rr0<|ak<|List.any s λa=>ak<|QU 33 126 a) λa=>Mh (cp a)<|Mh (cp a)<|Mh (cp a)<|Mh (cp a)<|My (cp a)<|Ky 0<|rr0 false) λa=>Mh (cp a)<|Mh (cp a)<|My (cp a)<|Ky 2<|rr0 false
theorem ifS(l:laj)(g:Nat)(p:bZ->Bool)(hp:∀s,s∈l->kP g [.str s] (.bool (p s)))(hl:l.length<2^40):kP 298 [.ls (l.map nD),.func (.func g) [] []] (iV (cN p l 0)):=by
  have rr0 b' (h:(cN p l 0)=b':=by first|exact jM zd0 hr0 hj0 ‹_› |exact hj0):=h;exact bH Tryz.func298<|Kl 2 7 (ln nD l)<|Mg 0<|sn nD l [0,1,7,8] (λa _=>([aW<|l.map nD,bc (bb g) [] [],nV l.length,nV a],[])) (λa=>cN p l (0:Nat)=cN p a (l.length-a.length)) sA (λ_ _ zd0 _ hr0 a hj0=>Kh 0 a<|Kf 0<|li<|rr0 (-1)) λa _ zd0 _ b c d hr0 e _ f hj0=>Kt 0 e<|Kx 4 f<|Kp 0 (hp b<|by exact aG zd0 hr0)<|Mb (p b) (λ_=>Kf 1<|li<|rr0<|Int.ofNat a) λ_=>Kl 0 18 (dQ a)<|Kf 0<|d<|by exact ii zd0 hr0 hj0 (by omega)
theorem cfS(l:laj)(g:Nat)(p:bZ->Bool)(hp:∀s,s∈l->kP g [.str s] (.bool (p s)))(hl:l.length<2^40):kP 266 [.ls (l.map nD),.func (.func g) [] []] (.bool (l.any p)):=by
  have h:=ifS l g p hp hl
  have rr0 b' (h:(l.any p)=b':=by(rw[jD];simp only[aS,ak,bS,mq])):=h;exact bH Tryz.func266<|Kp 2 h<|Kf 1<|cq<|rr0<|ak<|aE (cN p l 0) 0
theorem Ow(s:bZ)(hs:s.length<=2^39):kP 267 [.str s] (.bool (ak (sF s))):=by
  exact bH Tryz.func267<|Kp 1 (Ua s hs)<|Kf 1<|bA<|fZ<|ak<|sF s
theorem MB(l:laj)(hl:l.length<2^40)(hs:∀s,s∈l->s.length<=2^39):kP 229 [.ls (l.map nD)] (.bool (rZ l)):=by
  have h:=cfS l 267 _ (λs m=>Ow s (hs s m)) hl
  have rr0 b' (h:(rZ l)=b':=by first|(simp only[rZ,aS,ak,bS, *];done)|(rw[rZ,List.all_eq_not_any_not];simp only[aS,ak,bS, *])):=h;exact bH Tryz.func229<|Kl 2 4 (ln nD l)<|Kn 1 (aE 256<|Int.ofNat l.length) (λa=>Kt 0 (cM a)<|Mp h<|Mt (cM a)<|Ku 0 (cM a)<|Kf 0<|cq<|rr0<|ak<|l.any λa=>ak<|sF a) λa=>Mh (cp a)<|Mh (cp a)<|My (cp a)<|Ky 0<|rr0 false
theorem RV(r:Int):kP 270 [.int .i32 r] (.bool (aE r 48||aE 57 r)):=by
  have rr0 b' (h:(aE r 48||aE 57 r)=b':=by(simp only[aS,ak,bS, *])):=h;exact bH Tryz.func270<|Kb 3 (aE r 48) (λa=>Mt a<|MV a<|Ky 0<|rr0 true) λa=>Kh 0 a<|Kw 0 a<|Kf 0<|cq<|rr0<|aE 57 r
theorem Vx(r:Int):kP 231 [.int .i32 r] (.bool (aE r 65||aE 90 r)):=by
  have rr0 b' (h:(aE r 65||aE 90 r)=b':=by(simp only[aS,ak,bS, *])):=h;exact bH Tryz.func231<|Kb 3 (aE r 65) (λa=>Mt a<|MV a<|Ky 0<|rr0 true) λa=>Kh 0 a<|Kw 0 a<|Kf 0<|cq<|rr0<|aE 90 r
theorem Jz(s:PStep):kP 167 [aq s] (.bool (ae s.kind 0&&ei s.label [])):=by
  have rr0 b' (h:(ae s.kind 0&&ei s.label [])=b':=by(simp only[aS,ak,bS, *];first|done|rfl)):=h;exact bH Tryz.func167<|Kb 5 (ae s.kind 0) (λa=>Kt 0 a<|Kt 0 a<|Ku 0 a<|Kf 0<|cq<|rr0<|ei s.label (ByteArray.mk #[]).data.toList) λa=>Mh a<|Mh a<|My a<|Ky 0<|rr0 false
theorem wZ(n a b:Int):kP 163 [iV n,iV a,iV b] (.bool (ak (aE n a)&&ak (aE b n))):=by
  have rr0 b' (h:(ak (aE n a)&&ak (aE b n))=b':=by(simp only[aS,ak,bS, *])):=h;exact bH Tryz.func163<|Kn 4 (aE n a) (λc=>Kt 0 (cM c)<|Kt 0 (cM c)<|Ku 0 (cM c)<|Kf 0<|cq<|rr0<|ak<|aE b n) λc=>Mh (cp c)<|Mh (cp c)<|My (cp c)<|Ky 0<|rr0 false
theorem Sk(s:bZ):kP 269 [.str s,.func (.func 270) [] []] (iV (bif Nat.beq (eH kL s) s.length then -1 else Int.ofNat (eH kL s))):=
  A9 gM (Go.Proofs.enters_of Go.Proofs.Tryz.lidxf.f15 (by kernel_rfl) rfl) (Go.Proofs.enters_of Tryz.func270 (by kernel_rfl) rfl)
    (λs w hp=>Go.Proofs.Any.strings_IndexFunc_grows Go.Proofs.Tryz.lidxf 270 #[] (Go.Proofs.enters_of Tryz.func270 (by kernel_rfl) rfl) _ s w hp) RV (λ_=>rfl) (II (lo:=48) (hi:=57) (by omega)) s
theorem Sw(s:bZ)(h:By (Nat.beq (eH kL s) s.length) true):kP 269 [.str s,.func (.func 270) [] []] (iV (-1)):=by
  have:=Sk s
  simp_all
theorem VT(s:bZ)(h:By (Nat.beq (eH kL s) s.length) false):kP 269 [.str s,.func (.func 270) [] []] (nV (eH kL s)):=by
  have:=Sk s
  grind
theorem acG(s:bZ):kP 232 [.str s,.func (.func 231) [] []] (.bool (ak (s.all Zm))):=
  vA gM (Go.Proofs.enters_of Go.Proofs.Tryz.lconf.f17 (by kernel_rfl) rfl) (Go.Proofs.enters_of Tryz.func231 (by kernel_rfl) rfl)
    (λs w hp=>Go.Proofs.Any.strings_ContainsFunc_grows Go.Proofs.Tryz.lconf 231 #[] (Go.Proofs.enters_of Tryz.func231 (by kernel_rfl) rfl) _ s w hp) Vx (λ_=>rfl) (II (lo:=65) (hi:=90) (by omega)) s
theorem ON(s:bZ)(hs:s.length<=2^39):kP 230 [.str s] (.tuple [.str (s.take (eH kL s)),.str (s.drop (eH kL s))]):=by
  have hl:=Mm (p:=kL) (s:=s)
  have rr0 b' (h:(s.take (eH kL s))=b':=by(rw[qW h0];simp)):=h;have rr1 b' (h:(s.drop (eH kL s))=b':=by(rw[qW h0];simp)):=h;let q:=AHeap.mk 1000000 Tr.nil;exact bH Tryz.func230<|Ks 2 ((eH kL s).beq<|List.length s) (λh0=>Mp (Sw s h0)<|Kf 6<|dJ<|.cons (Le.str<|rr0 s)<|.cons (Le.str<|rr1 []) .nil) λh0=>Mp (VT s h0)<|Kv 5 (YU (s:=s) (n:=eH kL s) (k:=IntKind.i64) (H:=q) oA)<|Kv 1 (YY (s:=s) (l:=eH kL s) (k:=IntKind.i64) (H:=q) oA)<|Kf 1<|bA<|cX [aj<|s.take<|eH kL s,aj<|s.drop<|eH kL s]
theorem vJ(s:bZ)(hs:s.length<=2^39):kP 158 [.str s] (.bool (kB s)):=by
  have hd:(s.drop (eH kL s)).length<=2^39:=by grind
  have rr0 b' (h:(kB s)=b':=by first|(simp only[kB,aS,ak,bS,mq, *];done)|(simp only[kB,aS,ak,bS,mq, *];rfl)|(unfold kB;simp only[h0,h1,h2];rfl)):=h;exact bH Tryz.func158<|Kp 1 (ON s hs)<|Kd 9 (Int.ofNat (s.take<|eH kL s).length) 1 (λh0 _=>Kt 0 (cM h0)<|Kt 0 (cM h0)<|Ku 0 (cM h0)<|Kd 0 4 (Int.ofNat (s.take<|eH kL s).length) (λh1 _=>Kt 0 (cM h1)<|M1 (.chr<|gD (s.take<|eH kL s) 0) (Ai (gR:0<(s.take (eH kL s)).length))<|Mt (cM h1)<|Ku 0 (cM h1)<|Kc 0 (Int.ofNat (gD (s.take<|eH kL s) 0).toNat) 48 (λh2 _=>Kt 0 (cM h2)<|Kt 0 (cM h2)<|Ku 0 (cM h2)<|Kd 0 3 (Int.ofNat (s.drop<|eH kL s).length) (λa _=>Kt 0 (cM a)<|Kt 0 (cM a)<|Mp (acG<|s.drop<|eH kL s)<|Mt (cM a)<|Ku 0 (cM a)<|Kf 0<|cq<|rr0<|ak<|ak<|(s.drop<|eH kL s).all Zm) λa _=>Mh (cp a)<|Mh (cp a)<|Mh (cp a)<|My (cp a)<|Ky 0<|rr0 false) λh2 _=>Mh (cp h2)<|Mh (cp h2)<|My (cp h2)<|Ky 2<|rr0 false) λh1 _=>Mh (cp h1)<|Mh (cp h1)<|My (cp h1)<|Ky 4<|rr0 false) λh0 _=>Mh (cp h0)<|Mh (cp h0)<|My (cp h0)<|Ky 6<|rr0 false
theorem vS(p:lap)(hl:p.length<2^40)(hs:∀s,s∈p->s.label.length<=2^39):kP 101 [.ls (p.map aq)] (.bool (lK p)):=by
  have rr0 b' (h:(lK p)=b':=by first|(rw[lK,hj0,Xq];rfl)|(rw[lK,FR zd0 hr0 hj0];simp only[nN,uf,‹ae (Int.ofNat zi0) 0=_›,cond_true,cond_false];simp only[FZ,aS,ak,bS, *];first|done|rfl)):=h;exact bH Tryz.func101<|Kl 2 6 (ln aq p)<|Mg 0<|sn aq p [0,5,6,7] (λa _=>([aW<|p.map aq,aW<|p.map aq,nV p.length,nV a],[])) (λa=>P6 p=JU p a) (by(exact P5)) (λzi0 _ zd0 _ hr0 a hj0=>Kh 0 a<|Kl 1 34 (ln aq p)<|Kf 1<|cq<|rr0<|ak<|aE 9<|Int.ofNat p.length) λzi0 _ zd0 _ a b c hr0 d _ e hj0=>Kt 0 d<|Kx 0 e<|Kj 6 (Int.ofNat zi0) 0 (λd _=>Kt 0 d<|Mp (Jz a)<|MV d<|Mb (ae a.kind 0&&ei a.label []) (λ_=>Kl 0 32 (dQ zi0)<|K1 0 (.frz 0 [0,5,6,7]) ti<|Mf<|c<|by(rw[FR zd0 hr0 hj0];simp only[nN,uf,‹ae (Int.ofNat zi0) 0=_›,cond_true,cond_false];simp only[FZ,aS,ak,bS, *];first|done|rfl)) λ_=>Kd 3 0 a.kind (λa _=>Mt (cM a)<|Mt (cM a)<|MV (cM a)<|Ky 3<|rr0 false) λd _=>Kh 0 (cp d)<|Kh 0 (cp d)<|Kw 0 (cp d)<|Ka 0 7 a.kind (λa _=>Mt a<|Mt a<|Mt a<|MV a<|Ky 1<|rr0 false) λd _=>Kh 0 d<|Kh 0 d<|Mp (vJ a.label<|by exact hs _ (aG zd0 hr0))<|Mh d<|Kw 0 d<|Mn (kB a.label) (λ_=>Kf 0<|cq<|rr0 false) λ_=>Kl 0 32 (dQ zi0)<|K1 0 (.frz 0 [0,5,6,7]) ti<|Mf<|c<|by(rw[FR zd0 hr0 hj0];simp only[nN,uf,‹ae (Int.ofNat zi0) 0=_›,cond_true,cond_false];simp only[FZ,aS,ak,bS, *];first|done|rfl)) λd _=>Mh d<|My d<|Kd 4 0 a.kind (λa _=>Mt (cM a)<|Mt (cM a)<|MV (cM a)<|Ky 3<|rr0 false) λd _=>Kh 0 (cp d)<|Kh 0 (cp d)<|Kw 0 (cp d)<|Ka 0 7 a.kind (λa _=>Mt a<|Mt a<|Mt a<|MV a<|Ky 1<|rr0 false) λd _=>Kh 0 d<|Kh 0 d<|Mp (vJ a.label<|by exact hs _ (aG zd0 hr0))<|Mh d<|Kw 0 d<|Mn (kB a.label) (λ_=>Kf 0<|cq<|rr0 false) λ_=>Kl 0 32 (dQ zi0)<|K1 0 (.frz 0 [0,5,6,7]) ti<|Mf<|c<|by(rw[FR zd0 hr0 hj0];simp only[nN,uf,‹ae (Int.ofNat zi0) 0=_›,cond_true,cond_false];simp only[FZ,aS,ak,bS, *];first|done|rfl)
theorem VS(l:lak)(v:Int)(hl:l.length<2^40):kP 287 [.ls (l.map af),iV v] (iV (cN (ae v) l 0)):=by
  have rr0 b' (h:(cN (ae v) l 0)=b':=by first|exact jM zd0 hr0 hj0 ‹_› |exact hj0):=h;exact bH Tryz.func287<|Kl 2 7 (ln af l)<|Mg 0<|sn af l [0,1,7,8] (λa _=>([aW<|l.map af,iV v,nV l.length,nV a],[])) (λa=>cN (ae v) l (0:Nat)=cN (ae v) a (l.length-a.length)) sA (λ_ _ zd0 _ hr0 a hj0=>Kh 0 a<|Kf 0<|li<|rr0 (-1)) λa _ zd0 _ b c d hr0 e _ f hj0=>Kt 0 e<|Kx 4 f<|Kj 1 v b (λ_ _=>Kf 1<|li<|rr0<|Int.ofNat a) λ_ _=>Kl 0 18 (dQ a)<|Kf 0<|d<|by exact ii zd0 hr0 hj0 (by omega)
theorem sx(l:lak)(v:Int)(hl:l.length<2^40):kP 257 [.ls (l.map af),iV v] (.bool (l.any (ae v))):=by
  have h:=VS l v hl
  have rr0 b' (h:(l.any (ae v))=b':=by(rw[jD];simp only[aS,ak,bS,mq])):=h;exact bH Tryz.func257<|Kp 2 h<|Kf 1<|cq<|rr0<|ak<|aE (cN (ae v) l 0) 0
theorem Sj(v:Int):kP 287 [.nils,iV v] (iV (-1)):=by
  let q:=[ah,iV v,iV 0,iV 0];exact bH Tryz.func287<|Mg 3<|Z2 [0,1,7,8] (q,[]) True 0 ti λ_ _=>Kf 2<|bA<|iV (-1)
theorem IE(v:Int):kP 257 [.nils,iV v] (.bool false):=by
  have h:=Sj v
  exact bH Tryz.func257<|Kp 2 h<|Kf 1<|bA<|fZ false
theorem kn0:kP 307 [iV 0] (.str (dc 0)):=by
  exact wk Tryz.func307 (.go 11 .fin)<|bA<|aj [98,111,111,107]
theorem kn1:kP 307 [iV 1] (.str (dc 1)):=by
  exact wk Tryz.func307 (.go 11 .fin)<|bA<|aj [112,97,114,116]
theorem kn2:kP 307 [iV 2] (.str (dc 2)):=by
  exact wk Tryz.func307 (.go 11 .fin)<|bA<|aj [115,101,99,116,105,111,110]
theorem kn3:kP 307 [iV 3] (.str (dc 3)):=by
  exact wk Tryz.func307 (.go 11 .fin)<|bA<|aj [112,97,114,97,103,114,97,112,104]
theorem kn4:kP 307 [iV 4] (.str (dc 4)):=by
  exact wk Tryz.func307 (.go 11 .fin)<|bA<|aj [116,97,98,108,101]
theorem kn5:kP 307 [iV 5] (.str (dc 5)):=by
  exact wk Tryz.func307 (.go 11 .fin)<|bA<|aj [114,111,119]
theorem kn6:kP 307 [iV 6] (.str (dc 6)):=by
  exact wk Tryz.func307 (.go 11 .fin)<|bA<|aj [99,101,108,108]
theorem kn7:kP 307 [iV 7] (.str (dc 7)):=by
  exact wk Tryz.func307 (.go 11 .fin)<|bA<|aj [110,111,116,101]
theorem knX(k:Int)(h:k<0\/7<k):kP 307 [iV k] (.str (dc k)):=by
  rw[Ki h]
  have c:aE k 0=true\/(aE k 0=false/\aE k 8=false):=by
    grind[mh,jC]
  rcases c with c|⟨c,d⟩
  · exact bH Tryz.func307<|Kt 3 c<|Mt c<|MV c<|Kf 1<|bA<|aj []
  · exact bH Tryz.func307<|Kh 3 c<|Kh 0 c<|Kw 0 c<|Mt (cM d)<|Kf 0<|bA<|aj []
theorem xF(k:Int):kP 307 [iV k] (.str (dc k)):=by
  by_cases h:k<0\/7<k
  · grind[knX]
  · grind[kn0,kn1,kn2,kn3,kn4,kn5,kn6,kn7]
theorem ccX(p k:Int)(h:p<0\/7<p):kP 209 [iV p,iV k] (.bool (jd p k)):=by
  unfold jd
  rw[Js h]
  have c:aE p 0=true\/(aE p 0=false/\aE p 8=false):=by
    grind[mh,jC]
  rcases c with c|⟨c,d⟩
  · exact bH Tryz.func209<|Kh 3 (cp c)<|Mh (cp c)<|My (cp c)<|Kf 2<|bA<|fZ false
  · exact bH Tryz.func209<|Kt 3 (cM c)<|Kt 0 (cM c)<|Ku 0 (cM c)<|Kh 0 d<|Mh d<|Mh d<|Mh d<|Mh d<|My d<|Kf 0<|bA<|fZ false
theorem cc0(k:Int):kP 209 [iV 0,iV k] (.bool (jd 0 k)):=by
  have h:=sx [1,2] k (by grind)
  let q:=[iV 1,iV 2];exact bH Tryz.func209<|Kp 11 (aP.onArgs (.cons (fe q _<|by rfl)<|lc .nil) h:kP 257 [jV q false,iV k] _)<|Kf 1<|bA<|fZ<|[1,2].any<|ae k
theorem cc1(k:Int):kP 209 [iV 1,iV k] (.bool (jd 1 k)):=by
  have h:=sx [2] k (by grind)
  let q:=[iV 2];exact bH Tryz.func209<|Kp 11 (aP.onArgs (.cons (fe q _<|by rfl)<|lc .nil) h:kP 257 [jV q false,iV k] _)<|Kf 1<|bA<|fZ<|[2].any<|ae k
theorem cc2(k:Int):kP 209 [iV 2,iV k] (.bool (jd 2 k)):=by
  have h:=sx [3,4,7] k (by grind)
  let q:=[iV 3,iV 4,iV 7];exact bH Tryz.func209<|Kp 11 (aP.onArgs (.cons (fe q _<|by rfl)<|lc .nil) h:kP 257 [jV q false,iV k] _)<|Kf 1<|bA<|fZ<|[3,4,7].any<|ae k
theorem cc3(k:Int):kP 209 [iV 3,iV k] (.bool (jd 3 k)):=by
  have h:=sx [3,4,7] k (by grind)
  let q:=[iV 3,iV 4,iV 7];exact bH Tryz.func209<|Kp 11 (aP.onArgs (.cons (fe q _<|by rfl)<|lc .nil) h:kP 257 [jV q false,iV k] _)<|Kf 1<|bA<|fZ<|[3,4,7].any<|ae k
theorem cc4(k:Int):kP 209 [iV 4,iV k] (.bool (jd 4 k)):=by
  have h:=sx [5] k (by grind)
  let q:=[iV 5];exact bH Tryz.func209<|Kp 11 (aP.onArgs (.cons (fe q _<|by rfl)<|lc .nil) h:kP 257 [jV q false,iV k] _)<|Kf 1<|bA<|fZ<|[5].any<|ae k
theorem cc5(k:Int):kP 209 [iV 5,iV k] (.bool (jd 5 k)):=by
  have h:=sx [6] k (by grind)
  let q:=[iV 6];exact bH Tryz.func209<|Kp 11 (aP.onArgs (.cons (fe q _<|by rfl)<|lc .nil) h:kP 257 [jV q false,iV k] _)<|Kf 1<|bA<|fZ<|[6].any<|ae k
theorem cc6(k:Int):kP 209 [iV 6,iV k] (.bool (jd 6 k)):=by
  have h:=IE k
  exact bH Tryz.func209<|Kp 11 h<|Kf 1<|bA<|fZ false
theorem cc7(k:Int):kP 209 [iV 7,iV k] (.bool (jd 7 k)):=by
  have h:=IE k
  exact bH Tryz.func209<|Kp 11 h<|Kf 1<|bA<|fZ false
theorem Ap(p k:Int):kP 209 [iV p,iV k] (.bool (jd p k)):=by
  by_cases h:p<0\/7<p
  · grind[ccX]
  · grind[cc0,cc1,cc2,cc3,cc4,cc5,cc6,cc7]
theorem aN{n b m:Nat}(h1:n<=m)(h2:m<=2^40)(h3:m*b<=2^40):small n b=true:=by
  unfold small
  have h4:n*b<=m*b:=e9 b h1
  grind[Nat.ble_eq_true_of_le]
noncomputable abbrev xe(u:TUnit):AObj:=.row 8 false 0 [eU u]
def Jm(p:PId)(u:TUnit)(x0:Nat×lad×Unit):Prop:=(u.kids).drop x0.1=x0.2.1/\ca p u.kids=ca p x0.2.1
noncomputable def zo(p:PId)(u:TUnit)(x0:Nat×lad×Unit):laa×lai:=([AV.ptr 0 0 0 0,AV.ptr 1 0 0 0,AV.ls (u.kids.map aU),nV u.kids.length,nV x0.1],[AObj.row 8 false 0 [AV.agg (uLx u)],AObj.row 3 false 0 [AV.agg [iV p.a,iV p.i,iV p.n]]])
theorem Gy(p:PId):∀(u:TUnit),nU u<=2^20->(bG p u=false->kP 69 [eU u,aK p] .nils)/\(bG p u=true->kP 69 [eU u,aK p] (.ps ((aL p u).map aU) false)):=by
  refine TUnit.ind λu ih hn=>?_
  have ihn:∀k,k∈u.kids->By (bG p k) false->kP 69 [eU k,aK p] .nils:=λk hk h=>(ih k hk (b0 (oK (iI hk)) hn)).1 h
  have ihy:∀k,k∈u.kids->By (bG p k) true->kP 69 [eU k,aK p] (.ps ((aL p k).map aU) false):=λk hk h=>(ih k hk (b0 (oK (iI hk)) hn)).2 h
  have hkl:=bB u
  refine⟨λhs=>?_,λhs=>?_⟩
  · let q:=[av (uLx u)];let q3:=[iV p.a,iV p.i,iV p.n];exact bH Tryz.func69<|Kv 5 (kT ((Tryz.prog).underlying 28) u.act u.item u.n p.a p.i p.n<|aw [aZ 8 false 0 q,aZ 3 false 0 [av q3]])<|Mb (ae u.act p.a&&(ae u.item p.i&&ae u.n p.n)) (λ_=>Kf 2<|fL (by exact absurd (hs.symm.trans (Fx ‹_›)) (by grind):(AV.nils)=(AV.ps q true))) λ_=>Kl 2 16 (ln aU u.kids)<|Mg 0<|UY (0:Nat) u.kids () [2,3,15,16,17] (λa _ _=>([bY 0 0 0 0,bY 1 0 0 0,aW<|u.kids.map aU,nV u.kids.length,nV a],[aZ 8 false 0 [av (uLx u)],aZ 3 false 0 [av [iV p.a,iV p.i,iV p.n]]])) (λa b _=>(u.kids).drop a=b/\ca p u.kids=ca p b) (λ_ a _=>a.length) (et rfl<|by rfl) λa b c d e=>Mc b (λa=>have b:=dm d.1 a;have:=eM (J:=λa _=>ca p u.kids=ca p a) (a:=c) a d.2;Kh 0 b<|Kf 0<|bA ah) λb f g=>let i:=List.map aU<|[u]++aL p b;have j:=dI d.1 g;have:=ap j;have l:=(dl (enc:=aU) d.1 g).trans<|congrArg some<|bQ b;have c:=bT (J:=λa _=>ca p u.kids=ca p a) (a:=c) g d.2;have:nU b<nU u:=iI<|aG d.1 g;have:(aL p b).length<=nU b:=mn b;Kt 0 j<|Mx l<|Ks 4 (bG p b) (λa=>Mp (ihy b (by exact aG d.1 g) a)<|Mg 6<|M2 .apl (et (by simp_all[jN]:List.map aU (aL p b)≠[])<|gN (sz:=8) (f:=aU) (λ_=>by(rw[bQ];rfl))<|aL p b) (et (by(refine aN (m:=2^21) ?_ ?_ ?_<;>(try simp only[lM,lC,lN])<;>(have:=mn (p:=p) b;omega)):small (([AV.agg (uLx u)]).length+((aL p b).map aU).length) 120=true) rt)<|M1 (.obj 3<|aZ 8 true 0 i) (congrArg (aZ 8 true 0) (by(simp only[mT,eT,xK,bQ,eG]<;>rfl):[AV.agg (uLx u)]++List.map aU (aL p b)=List.map aU ([u]++aL p b)))<|Mg 0<|M2 (.fsl 0 [] 4 i) ti (cL (aY 0) (tA aU ([u]++aL p b) (q++List.map aU (aL p b)).length (sA:([u]++aL p b).length=([AV.agg (uLx u)]++List.map aU (aL p b)).length))<|aX gO<|[u]++aL p b)<|Ml 4 (fe i false<|aX gO<|[u]++aL p b)<|Mf<|fL (by exact absurd (hs.symm.trans (V5 (by assumption) c (by omega))) (by grind):(AV.nils)=(AV.ls i))) λc=>Mp (ihn b (by exact aG d.1 g) c)<|Kl 4 30 (dQ a)<|K1 0 (.frz 2 [2,3,15,16,17]) (cL rt rt ti)<|Mf<|e (a+1) f () (et (aH d.1 g)<|by grind[gF])<|cC g
  · have rr0:∀b',(h:((aL p u).map aU)=b':=by first|rfl|exact absurd (hs.symm.trans (HN (by assumption) hj0)) (by decide)|(rw[uy (by assumption),eT,bQ];rfl)|(rw[LO (by assumption) hj0 (by assumption)];rfl))->((aL p u).map aU)=b':=(λ_ h=>h);let q:=[av (uLx u)];let q3:=[iV p.a,iV p.i,iV p.n];exact bH (hv:=(aX gO (aL p u))) Tryz.func69 (Kv 5 (FO (d:=(Tryz.prog).underlying 28) (n:=3) (l:=(0,1)::(1,1)::(2,1)::[]) (xs:=[iV u.act,iV u.item,iV u.n]) (ys:=q3) (H:=aw [aZ 8 false 0 q,aZ 3 false 0 [av q3]]) rfl (qU (e:=ae u.act p.a) rfl rfl rfl (qU (e:=ae u.item p.i) rfl rfl rfl (DO (e:=ae u.n p.n) rfl rfl rfl rfl)))) (Mb (ae u.act p.a&&(ae u.item p.i&&ae u.n p.n)) (λh0=>Kf 2 ((UU (rr0 q)):Le _ (jV q true))) (λh0=>Kl 2 16 (Le.len (f:=aU) (l:=u.kids)) (Mg 0 (ML (Nat×lad×Unit) [2,3,15,16,17] (zo p u) (Jm p u) (λx=>x.2.1.length) (0,u.kids,()) (aY ((zo p u) (0,u.kids,()))) (et (rfl:List.drop 0 (u.kids)=u.kids) (by rfl:(ca p u.kids=ca p u.kids))) (λx0 hx0 nx0=>Mc x0.2.1 (λhr0=>have lt0:=dm hx0.1 hr0;have hj0:=eM (J:=λr x=>ca p u.kids=ca p r) (a:=x0.2.2) hr0 hx0.2;(Kh 0 lt0 (Kf 0 (fL (by exact absurd (hs.symm.trans (HN (by assumption) hj0)) (by grind):(AV.ps ((aL p u).map aU) false)=(AV.nils)))))) (λw0 r0 hr0=>let q2:=List.map aU ([u]++aL p w0);have lt0:=dI hx0.1 hr0;have glt0:=ap lt0;have nt0:=(dl (enc:=aU) hx0.1 hr0).trans (congrArg some (bQ w0));have hj0:=bT (J:=λr x=>ca p u.kids=ca p r) (a:=x0.2.2) hr0 hx0.2;have q0:nU w0<nU u:=iI (aG hx0.1 hr0);have q1:(aL p w0).length<=nU w0:=mn w0;(Kt 0 lt0 (Mx nt0 (Ks 4 (bG p w0) (λh2=>Mp (ihy w0 (by exact aG hx0.1 hr0) h2) (Mg 6 (M2 .apl (et (by simp_all[jN]:List.map aU (aL p w0)≠[]) (gN (sz:=8) (f:=aU) (λ_=>by(rw[bQ];rfl)) (aL p w0))) (et (by(refine aN (m:=2^21) ?_ ?_ ?_<;>(try simp only[lM,lC,lN])<;>(have:=mn (p:=p) w0;omega)):small (([AV.agg (uLx u)]).length+((aL p w0).map aU).length) 120=true) rt) (M1 (.obj 3 (aZ 8 true 0 q2)) (congrArg (aZ 8 true 0) (by(simp only[mT,eT,xK,bQ,eG]<;>rfl):[AV.agg (uLx u)]++List.map aU (aL p w0)=List.map aU ([u]++aL p w0))) (Mg 0 (M2 (.fsl 0 [] 4 q2) ti (cL (aY (0)) (L5 (f:=aU) (l:=[u]++aL p w0) (n:=(q++List.map aU (aL p w0)).length) (by simp_all:([u]++aL p w0).length=([AV.agg (uLx u)]++List.map aU (aL p w0)).length)) (aX gO ([u]++aL p w0))) (Mf ((UU (rr0 q2)):Le _ (jV q2 false))))))))) (λh2=>Mp (ihn w0 (by exact aG hx0.1 hr0) h2) (Kl 4 30 (Le.wr (x:=Int.ofNat x0.1+1) fu) (K1 0 (.frz 2 [2,3,15,16,17]) (cL rt rt ti) (Mf (nx0 (x0.1+1,r0,()) (et (aH hx0.1 hr0) (by grind[gF]:(ca p u.kids=ca p r0))) (cC hr0))))))))))))))))
theorem LP(p:PId)(u:TUnit)(h:By (bG p u) false)(hn:nU u<=2^20):kP 69 [eU u,aK p] .nils:=(Gy p u hn).1 h
theorem Gv(p:PId)(u:TUnit)(h:By (bG p u) true)(hn:nU u<=2^20):kP 69 [eU u,aK p] (.ps ((aL p u).map aU) false):=(Gy p u hn).2 h
theorem Tg:kP 107 [.nils] .nils:=by
  exact wk Tryz.func107 (.go 4 .fin)<|bA ah
theorem Tf:kP 107 [.ps [] false] (.ps [] true):=by
  exact wk Tryz.func107 (.go 7 .fin)<|bA<|jV [] true
theorem Th(w:PWord)(r:lag)(hl:r.length<2^30):kP 107 [.ls ((w::r).map aQ)] (.ls ((w::r).map aQ)):=by
  let q:=List.map aQ (w::r);exact bH Tryz.func107<|Mg 1<|Mz 3 (λ(a:((w::r).map aQ:laa)=[])=>Mw .abs<|jO _ _ a)<|Mg 3<|M2 .apl (et (sA:List.map aQ (w::r)≠[])<|fM 4 aQ (w::r) λ_=>rfl) (by(refine aN (m:=2^31) ?_ ?_ ?_<;>first|omega|grind):small ((w::r).map aQ).length 40=true)<|Mg 0<|M2 (.fsl 0 [] 2 q) ti (cL (aY 0) (tA aQ (w::r) q.length (sA:(w::r).length=((w::r).map aQ).length))<|aX i9<|w::r)<|Ml 2 (fe q false<|aX i9<|w::r)<|Mf<|bA<|aW q
theorem OS(p:PId)(u:TUnit)(h:By (bG p u) false)(hn:nU u<=2^20):kP 226 [eU u,.pptr [aK p] 0 0] (.bool false):=by
  have h':bG p u=false:=h
  exact bH Tryz.func226<|Kp 3 (LP p u h hn)<|Kf 1<|bA<|fZ false
theorem OR(p:PId)(u:TUnit)(h:By (bG p u) true)(hn:nU u<=2^20):kP 226 [eU u,.pptr [aK p] 0 0] (.bool true):=by
  have h':bG p u=true:=h
  exact bH Tryz.func226<|Kp 3 (Gv p u h hn)<|Kf 1<|bA<|fZ true
theorem adg(l:lad)(g:Nat)(q:TUnit->Bool)(hp:∀k,k∈l->kP g [eU k] (.bool (q k)))(hl:l.length<2^40):kP 225 [.ls (l.map aU),.func (.func g) [] []] (iV (cN q l 0)):=by
  have rr0 b' (h:(cN q l 0)=b':=by first|exact jM zd0 hr0 hj0 ‹_› |exact hj0):=h;exact bH Tryz.func225<|Kl 2 7 (ln aU l)<|Mg 0<|sn aU l [0,1,7,8] (λa _=>([aW<|l.map aU,bc (bb g) [] [],nV l.length,nV a],[])) (λa=>cN q l (0:Nat)=cN q a (l.length-a.length)) sA (λ_ _ zd0 _ hr0 a hj0=>Kh 0 a<|Kf 0<|li<|rr0 (-1)) λa _ zd0 _ b c d hr0 e _ f hj0=>have f:=f.trans<|congrArg some<|bQ b;Kt 0 e<|Kx 4 f<|Kp 0 (hp b<|by exact aG zd0 hr0)<|Mb (q b) (λ_=>Kf 1<|li<|rr0<|Int.ofNat a) λ_=>Kl 0 18 (dQ a)<|Kf 0<|d<|by exact ii zd0 hr0 hj0 (by omega)
theorem acu(l:lad)(g:Nat)(p:PId)(q:TUnit->Bool)(hp:∀k,k∈l->kP g [eU k,.pptr [aK p] 0 0] (.bool (q k)))(hl:l.length<2^40):kP 225 [.ls (l.map aU),.func (.func g) [] [.pptr [aK p] 0 0]] (iV (cN q l 0)):=by
  have rr0 b' (h:(cN q l 0)=b':=by first|exact jM zd0 hr0 hj0 ‹_› |exact hj0):=h;exact bH Tryz.func225<|Kl 2 7 (ln aU l)<|Mg 0<|sn aU l [0,1,7,8] (λa _=>([aW<|l.map aU,bc (bb g) [] [AV.pptr [av [iV p.a,iV p.i,iV p.n]] 0 0],nV l.length,nV a],[])) (λa=>cN q l (0:Nat)=cN q a (l.length-a.length)) sA (λ_ _ zd0 _ hr0 a hj0=>Kh 0 a<|Kf 0<|li<|rr0 (-1)) λa _ zd0 _ b c d hr0 e _ f hj0=>have f:=f.trans<|congrArg some<|bQ b;Kt 0 e<|Kx 4 f<|Kp 0 (hp b<|by exact aG zd0 hr0)<|Mb (q b) (λ_=>Kf 1<|li<|rr0<|Int.ofNat a) λ_=>Kl 0 18 (dQ a)<|Kf 0<|d<|by exact ii zd0 hr0 hj0 (by omega)
theorem TV{D a:Nat}{w:TUnit}{r:lad}{u:TUnit}(h:D=Nat.max a (lW (w::r))/\a<=2^20)(q0:nU w<nU u)(q1:nF w<nU w)(hn:nU u<=2^20):D=Nat.max (Nat.max a (1+nF w)) (lW r)/\Nat.max a (1+nF w)<=2^20:=by
  grind[lW]
theorem Wi{D a:Nat}(h:D=Nat.max a (lW [])/\a<=2^20):D=a:=by
  simp_all[D9]
theorem Is:∀(u:TUnit),nU u<=2^20->kP 213 [eU u] (nV (nF u)):=by
  refine TUnit.ind λu ih hn=>?_
  have hkl:=bB u
  have ihk:∀k,k∈u.kids->kP 213 [eU k] (nV (nF k)):=λk hk=>ih k hk (b0 (oK (iI hk)) hn)
  have rr0 b' (h:(Int.ofNat (nF u))=b':=by(rw[NM,Wi hj0])):=h;exact bH Tryz.func213<|Kl 5 8 (ln aU u.kids)<|Mg 0<|OV aU u.kids (0:Nat) [3,7,8,9] (λa _ b=>([nV b,aW<|u.kids.map aU,nV u.kids.length,nV a],[aZ 8 false 0 [av (uLx u)]])) (λa b=>lW u.kids=b.max (lW a)/\b<=2^20) sA (λ_ _ a _ _ _ b hj0=>Kh 0 b<|Kf 1<|li<|rr0<|Int.ofNat a) λa _ b c d e f g i j _ l _=>have l:=(l).trans<|congrArg some<|bQ e;have hj0:=bT (J:=λa b=>lW u.kids=b.max (lW a)/\b<=2^20) (a:=b) i d;have d:=iI<|aG c i;have m:=Fh e;Kt 0 j<|Mx l<|Kp 4 (ihk e<|by exact aG c i)<|Kl 0 16 (cY (x:=(1:Int)+Int.ofNat (nF e)) (n:=(1:Nat)+nF e) fu)<|Kl 0 17 (qZ (k:=IntKind.i64)<|Yl b<|1+nF e)<|Kl 1 18 (jo a)<|K1 0 (.frz 1 [3,7,8,9]) (et rt ti)<|Mf<|g (b.max<|1+nF e)<|by exact TV hj0 d m hn
theorem NC(g:Nat)(q:TUnit->Bool):∀(u:TUnit),(∀x,x∈bV u->kP g [eU x] (.bool (q x)))->u.kids.length<2^40->(∀x,x∈bV u->x.kids.length<2^40)->kP 66 [eU u,.func (.func g) [] []] (.bool (xX q u)):=by
  refine TUnit.ind λu ih hp hl hk=>?_
  have ihk:∀k,k∈u.kids->kP 66 [eU k,.func (.func g) [] []] (.bool (xX q k)):=λk hm=>ih k hm (λx hx=>hp x (bi hm hx)) (hk k (Nc hm)) (λx hx=>hk x (bi hm hx))
  have hs:=hp u (dU u)
  have rr0 b' (h:(xX q u)=b':=by first|(rw[zz];simp only[aS,ak,bS, *];done)|(rw[zz,hj0,P4])|(rw[zz,hj0,CQ];simp only[aS,ak,bS, *];done)):=h;exact bH Tryz.func66<|Kp 3 hs<|Kn 0 (q u) (λ_=>Ky 0<|rr0 false) λ_=>Kl 2 13 (ln aU u.kids)<|K1 0 (.frz 0 [1,12,13,14]) ti<|sn aU u.kids [1,12,13,14] (λa _=>([bc (bb g) [] [],aW<|u.kids.map aU,nV u.kids.length,nV a],[])) (λa=>(q u&&(bx u.kids).all q)=(bx a).all q) (by(simp only[aS,ak,bS, *];done)) (λ_ _ _ _ _ a hj0=>Kh 0 a<|Ky 0<|rr0 true) λa _ b _ c d e f i _ j hj0=>have j:=j.trans<|congrArg some<|bQ c;Kt 0 i<|Mx j<|Kp 4 (ihk c<|by exact aG b f)<|Kn 0 (xX q c) (λ_=>Kf 0<|cq<|rr0 false) λ_=>Kl 0 22 (dQ a)<|K1 0 (.frz 0 [1,12,13,14]) ti<|Mf<|e<|by simp_all[CQ]
theorem PE(u:TUnit)(n:Nat)(hn:n<2^40):kD 214 [eU u,.ptr 0 0 0 0] (aw [.row 1 false 0 [nV n]]) (.bool true) (aw [.row 1 false 0 [nV (n+1)]]):=by
  exact eg Tryz.func214 λa=>Kl 3 5 (jo n)<|K1 1 (.frz 1 [3]) (et rt ti)<|Mf a
theorem Iz:∀(u:TUnit),∀(n:Nat),n+nU u<2^40->kD 66 [eU u,.func (.func 214) [] [.ptr 0 0 0 0]] (aw [.row 1 false 0 [nV n]]) (.bool true) (aw [.row 1 false 0 [nV (n+nU u)]]):=by
  refine TUnit.ind λu ih n hn=>?_
  have hq:=jv u
  have hl:=bB u
  exact Jl Tryz.func66<|K1 3 (.frz 1 [1,2,7,8]) (et rt ti)<|Me (PE u n oA)<|Kl 4 13 (ln aU u.kids)<|Mg 0<|OV aU u.kids (n+1) [1,12,13,14] (λa _ b=>([bc (bb 214) [] [bY 0 0 0 0],aW<|u.kids.map aU,nV u.kids.length,nV a],[aZ 1 false 0 [nV b]])) (λa b=>n+nU u=b+eB a/\b+eB a<2^40) oA (λ_ _ a _ _ _ b _=>Kh 0 b<|Kf 0<|et (aY<|fZ true) (by simp_all[mr]:(aw [AObj.row 1 false 0 [nV a]])=(aw [AObj.row 1 false 0 [nV (n+nU u)]]))) λa _ b c _ d e f g h _ i _=>have i:=i.trans<|congrArg some<|bQ d;have c:=aG c g;have g:b+nU d<2^40:=(by grind[bD]);Kt 0 h<|Mx i<|K1 4 (.frz 1 [1,12,13,14,18,19]) (et rt ti)<|Me (ih d c b g)<|Kl 2 22 (jo a)<|Kf 0<|f (b+nU d)<|by grind[bD]
theorem Fm(u:TUnit)(hn:nU u<2^39):kP 125 [eU u] (nV (nU u)):=by
  have rr0 b' (h:(Int.ofNat (nU u))=b':=by(rw[fx])):=h;exact bH Tryz.func125<|Mg 5<|M0 (.ren [1,0] [] [3,4,5])<|M1 (.frz 1 [3,4,5]) (et rt ti)<|Me (Iz u 0 oA)<|Kf 1<|li<|rr0<|Int.ofNat<|0+nU u
noncomputable abbrev sm(ep n:Nat):AObj:=.row 1 false 0 [.slice 1 ep 0 n none]
noncomputable abbrev OM(ep:Nat)(l:lam):AObj:=.row 3 true ep (l.map aK)
theorem Y0(u:TUnit):kD 67 [eU u,.ptr 0 0 0 0] (aw [.row 1 false 0 [.nils]]) (.bool true) (aw [sm 0 1,OM 0 [aF u]]):=by
  exact wcq Tryz.func67 (.go 8<|.ren [0,2,1] [] [3]<|.frz 2 [3] .fin) λa=>et (cL rt rt ti) a
theorem Y1(u:TUnit)(ep n:Nat)(l:lam)(hn:n=l.length)(hl:l.length<2^30):kD 67 [eU u,.ptr 0 0 0 0] (aw [sm ep n,OM ep l]) (.bool true) (aw [sm (ep+1) (n+1),OM (ep+1) (l++[aF u])]):=by
  exact eg Tryz.func67 λa=>K1 5 .app (cL (aY ep) (sA:n=(l.map aK).length) (by(refine aN (m:=2^31) ?_ ?_ ?_<;>omega):small (n+1) 24=true))<|M1 (.obj 1<|aZ 3 true (ep+1)<|(l++[PId.mk u.act u.item u.n]).map aK) (congrArg (aZ 3 true<|ep+1)<|cO (f:=aK) (l:=l) (ws:=[PId.mk u.act u.item u.n]))<|K1 1 (.frz 2 [3]) (cL (tR 3 true (ep+1) 2<|aX LQ<|l++[PId.mk u.act u.item u.n]) rt ti)<|Mf a
theorem Pp:∀(u:TUnit),∀(ep n:Nat)(l:lam),n=l.length->l.length+nU u<2^30->kC 66 [eU u,.func (.func 67) [] [.ptr 0 0 0 0]] (aw [sm ep n,OM ep l])
    (λv h=>∃y:Nat×Nat×lam,(y.2.1=y.2.2.length/\y.2.2=l++cG u)/\v=.bool true/\h=aw [sm y.1 y.2.1,OM y.1 y.2.2]):=by
  refine TUnit.ind λu ih ep n l hn hl=>?_
  have hq:=jv u
  have hkl:=bB u
  exact qH Tryz.func66 λa=>K1 3 (.frz 2 [1,2,7,8]) (cL (tR 3 true ep 2<|aX LQ l) rt ti)<|Me (Y1 u ep n l hn oA)<|Kl 4 13 (ln aU u.kids)<|Mg 0<|Xb aU u.kids (ep+1) (n+1) (l++[aF u]) [1,12,13,14] (λa _ b c d=>([bc (bb 67) [] [bY 0 0 0 0],aW<|u.kids.map aU,nV u.kids.length,nV a],[aZ 1 false 0 [aM 1 b 0 c none],aZ 3 true b<|d.map aK])) (λa _ b c=>b=c.length/\c++io a=l++[aF u]++io u.kids/\c.length+eB a<2^30) gR (λ_ _ b c d _ _ _ e _=>Kh 0 e<|Kf 0<|a (b,c,d)<|by grind[sJ,mC]) λa _ b c d e f g i j k m _ o _=>have o:=(o).trans<|congrArg some<|bQ g;have:=bT (J:=λa b=>b.2.1=b.2.2.length/\b.2.2++io a=l++[aF u]++io u.kids/\b.2.2.length+eB a<2^30) (a:=(b,c,d)) k f;have e:=aG e k;have f:d.length+nU g<2^30:=(by grind[bD]);Kt 0 m<|Mx o<|K1 4 (.frz 2 [1,12,13,14,18,19]) (cL (tR 3 true b 2<|aX LQ d) rt ti)<|Mq (ih g e b c d oA f) λb _=>Kl 2 22 (dQ a)<|Kf 0<|j b.1 b.2.1 b.2.2<|by grind[bD,fT,vw]
theorem Xs(l:lag)(hl:l.length<=300)(hs:∀w,w∈l->w.text.length<=2^39):kP 311 [.ls (l.map aQ)] (.bool (pq l)):=by
  have hv:=MB (l.map PWord.text) (by grind) (λs hm=>by grind)
  have rr0 b' (h:(pq l)=b':=by(simp only[pq,aS,ak,bS, *])):=h;exact bH Tryz.func311<|Kl 3 7 (ln aQ l)<|Mg 0<|ky Nat Nat laj aQ l [0,3,6,7,8] (λa _=>([aW<|l.map aQ,ah,aW<|l.map aQ,nV l.length,nV a],[])) (λa _ b c d=>([aW<|l.map aQ,aM 0 b 0 c none,aW<|l.map aQ,nV l.length,nV a],[aZ 1 true b<|d.map nD])) (λa=>a=l) (λa _ b c=>b=c.length/\(0:Nat)<c.length/\c++List.map PWord.text a=List.map PWord.text l/\c.length+a.length=l.length) (by rfl) (λ_ _ _ _ _ a _=>Kh 0 a<|Kl 1 19 (ln aQ l)<|Kd 1 256 (Int.ofNat l.length) (λa _=>Kt 0 (cM a)<|Mp (aP.onArgs (.cons (Le.lsn (sA:((l.map PWord.text).map nD)=[])) .nil) hv:kP 229 [ah] _)<|MV (cM a)<|Kf 0<|cq<|rr0<|rZ<|l.map PWord.text) λa _=>Mh (cp a)<|My (cp a)<|Kf 0<|cq<|rr0 false) (λa _ _ _ b c _ d _ e _ f g=>Kt 0 e<|Mx f<|Kl 9 17 (jo a)<|Mg 0<|M0 (.ren [1,0] [] [0,3,6,7,8])<|M1 (.frz 1 [0,3,6,7,8]) (et rt ti)<|Mf<|d 0 1 [b.text]<|by(refine⟨rfl,by simp,?_,?_⟩<;>(rw[<-g])<;>(first|rfl|grind))) (λ_ _ a b c _ _ _ d _=>Kh 0 d<|Kl 1 19 (ln aQ l)<|Kd 1 256 (Int.ofNat l.length) (λd _=>Mg 0<|M2 (.fsl 0 [21] 22<|c.map nD) ti (cL (aY a) (tA nD c b (oA:(c).length=b))<|aX K9 c)<|Ml 22 (fe (c.map nD) false<|aX K9 c)<|Mt (cM d)<|Mp (aP.onArgs (.cons (ch (sA:((l.map PWord.text).map nD)=(c.map nD))) .nil) hv:kP 229 [aW (c.map nD)] _)<|MV (cM d)<|Kf 0<|cq<|rr0<|rZ<|l.map PWord.text) λa _=>Mh (cp a)<|My (cp a)<|Kf 0<|cq<|rr0 false) λa _ b c d _ _ e f _ g _ i _ j k=>Kt 0 i<|Mx j<|K1 6 .app (cL (aY b) (sA:c=(d.map nD).length) (by(refine aN (m:=2^20) ?_ ?_ ?_<;>omega):small (c+1) 16=true))<|M1 (.obj 0<|aZ 1 true (b+1)<|(d++[e.text]).map nD) (congrArg (aZ 1 true<|b+1)<|cO (f:=nD) (l:=d) (ws:=[e.text]))<|Kl 1 17 (jo a)<|K1 0 (.frz 1 [0,3,6,7,8]) (et (tR 1 true (b+1) 1<|aX K9<|d++[e.text]) ti)<|Mf<|g (b+1) (c+1) (d++[e.text])<|by(refine⟨by simp_all,by simp,?_,?_⟩<;>first|(rw[<-k.2.2.1];simp;done)|grind)
theorem pi(a b:Nat):Int.ofNat (a+b)=Int.ofNat a+Int.ofNat b:=rfl
theorem T6(u:TUnit)(h1:u.head.length<=300)(h2:u.words.length<=300)(h3:u.kids.length<2^30)(h4:u.label.length<=2^39)(h5:∀w,w∈u.head->w.text.length<=2^39)(h6:∀w,w∈u.words->w.text.length<=2^39):kP 295 [eU u] (.bool (md u)):=by
  have hlk:∀(m:List ((Int×bZ)×Bool))(a:Int)(s:bZ),fW (some (.bool false)) false (bf true 2 [(0,1),(1,2)] (.agg [iV a,.str s]) (bq qq dC m 0) 0)=some (.bool (qp np (a,s) m)):=λm a s=>AF Nf m (a,s)
  have hup:∀(m:List ((Int×bZ)×Bool))(a:Int)(s:bZ),qL (bq qq dC m 0) m.length (.agg [iV a,.str s]) (.bool true) (bf true 2 [(0,1),(1,2)] (.agg [iV a,.str s]) (bq qq dC m 0) 0)=some (bq qq dC (cQ np (a,s) true m) 0,(cQ np (a,s) true m).length):=λm a s=>Eo Nf m (a,s)
  have r1:=Xs u.head h1 h5
  have r2:=Xs u.words h2 h6
  have r3:=vJ u.label h4
  have rr0 b' (h:(md u)=b':=by first|(rw[md,hj0,nh];simp only[FZ,be,pi,cond_true,cond_false,aS,ak,bS,qD,zy,Bool.not_true,CG,xY, *];first|done|rfl)|(simp only[md,FZ,be,pi,cond_true,cond_false,aS,ak,bS, *];done)|(simp only[md,nh,FZ,be,pi,cond_true,cond_false,aS,ak,bS, *];done)|(simp only[md,nh,FZ,be,pi,cond_true,cond_false,aS,ak,bS,qD,zy,Bool.not_true,CG,xY, *];first|done|rfl)):=h;exact bH Tryz.func295<|Kj 4 u.kind 0 (λ_ b=>Kn 3 (ei u.label (ByteArray.mk #[]).data.toList) (λb=>Mt (cM b)<|Mt (cM b)<|Mt (cM b)<|Mt (cM b)<|Mt (cM b)<|Mt (cM b)<|Mt (cM b)<|MV (cM b)<|Ky 1<|rr0 false) λc=>Kh 0 (cp c)<|Kh 0 (cp c)<|Kl 0 16 (ln aQ u.head)<|Mh (cp c)<|Kh 0 (cp c)<|Kh 0 (cp c)<|Kl 0 19 (ln aQ u.words)<|Mh (cp c)<|Kl 0 20 (Le.wr (x:=Int.ofNat u.head.length+Int.ofNat u.words.length) fu)<|Mh (cp c)<|Kw 0 (cp c)<|Mb (aE 0<|Int.ofNat u.head.length+Int.ofNat u.words.length) (λb=>have:=ap b;Ky 0<|rr0 false) λc=>have:=aI c;Kl 4 48 (ln aU u.kids)<|Mg 0<|OV aU u.kids ([]:List ((Int×bZ)×Bool)) [1,3,47,48,49] (λb _ c=>([bY 0 0 0 0,AV.map 1,aW<|u.kids.map aU,nV u.kids.length,nV b],[aZ 8 false 0 [av (uLx u)],AObj.map (bq qq dC c 0) c.length])) (λb c=>nh u.kind u.kids []=nh u.kind b c) (by rfl) (λ_ _ _ _ _ _ b hj0=>Kh 0 b<|Kl 2 74 (ln aU u.kids)<|Kf 1<|cq<|rr0<|ak<|aE 64<|Int.ofNat u.kids.length) λc _ d _ _ e f g _ i _ j hj0=>have j:=j.trans<|congrArg some<|bQ e;Kt 0 i<|Mx j<|Kl 11 59 (qZ (k:=IntKind.i64) b)<|Kp 1 (Ap 0 e.kind)<|Kn 1 (jd 0 e.kind) (λb=>Mt (cM b)<|Mt (cM b)<|MV (cM b)<|Ky 1<|rr0 false) λb=>Kh 0 (cp b)<|Kh 0 (cp b)<|M1 (.look<|fZ<|qp np (e.kind,e.label) d) (hlk d e.kind e.label)<|My (cp b)<|Mb (qp np (e.kind,e.label) d) (λ_=>Kf 0<|cq<|rr0 false) λ_=>K1 1 (.upd (bq qq dC (cQ np (e.kind,e.label) true d) 0) (cQ np (e.kind,e.label) true d).length) (hup d e.kind e.label)<|Kl 0 71 (dQ c)<|K1 0 (.frz 2 [1,3,47,48,49]) (cL (tM (cQ np (e.kind,e.label) true d).length 2 (by exact cj Nf Bi _ _:ce (bq qq dC (cQ np (e.kind,e.label) true d) 0)=0)) rt ti)<|Mf<|g (cQ np (e.kind,e.label) true d)<|by(rw[hj0,nh];simp only[aS,ak,bS, *];done)) λ_ _=>Kp 1 (xF u.kind)<|Kb 1 (ei (dc u.kind) (ByteArray.mk #[]).data.toList) (λb=>Mt b<|Mt b<|Mt b<|MV b<|Ky 5<|rr0 false) λb=>Kh 0 b<|Kh 0 b<|Mp r3<|Mh b<|Kw 0 b<|Kn 0 (kB u.label) (λb=>Mt (cM b)<|Mt (cM b)<|Mt (cM b)<|MV (cM b)<|Ky 3<|rr0 false) λb=>Kh 0 (cp b)<|Kh 0 (cp b)<|Mp r1<|Mh (cp b)<|Kw 0 (cp b)<|Kn 0 (pq u.head) (λb=>Mt (cM b)<|Mt (cM b)<|Mt (cM b)<|MV (cM b)<|Ky 1<|rr0 false) λb=>Kh 0 (cp b)<|Kh 0 (cp b)<|Mp r2<|Mh (cp b)<|Kw 0 (cp b)<|Mn (pq u.words) (λ_=>Ky 0<|rr0 false) λ_=>Kl 4 48 (ln aU u.kids)<|Mg 0<|OV aU u.kids ([]:List ((Int×bZ)×Bool)) [1,3,47,48,49] (λb _ c=>([bY 0 0 0 0,AV.map 1,aW<|u.kids.map aU,nV u.kids.length,nV b],[aZ 8 false 0 [av (uLx u)],AObj.map (bq qq dC c 0) c.length])) (λb c=>nh u.kind u.kids []=nh u.kind b c) (by rfl) (λ_ _ _ _ _ _ b hj0=>Kh 0 b<|Kl 2 74 (ln aU u.kids)<|Kf 1<|cq<|rr0<|ak<|aE 64<|Int.ofNat u.kids.length) λb _ c _ _ d e f _ g _ i hj0=>have i:=i.trans<|congrArg some<|bQ d;Kt 0 g<|Mx i<|Kp 13 (Ap u.kind d.kind)<|Kn 1 (jd u.kind d.kind) (λb=>Mt (cM b)<|Mt (cM b)<|MV (cM b)<|Ky 1<|rr0 false) λg=>Kh 0 (cp g)<|Kh 0 (cp g)<|M1 (.look<|fZ<|qp np (d.kind,d.label) c) (hlk c d.kind d.label)<|My (cp g)<|Mb (qp np (d.kind,d.label) c) (λ_=>Kf 0<|cq<|rr0 false) λ_=>K1 1 (.upd (bq qq dC (cQ np (d.kind,d.label) true c) 0) (cQ np (d.kind,d.label) true c).length) (hup c d.kind d.label)<|Kl 0 71 (dQ b)<|K1 0 (.frz 2 [1,3,47,48,49]) (cL (tM (cQ np (d.kind,d.label) true c).length 2 (by exact cj Nf Bi _ _:ce (bq qq dC (cQ np (d.kind,d.label) true c) 0)=0)) rt ti)<|Mf<|f (cQ np (d.kind,d.label) true c)<|by(rw[hj0,nh];simp only[aS,ak,bS, *];done)
theorem KS(u:TUnit)(hl:nU u<2^29):kC 66 [eU u,.func (.func 67) [] [.ptr 0 0 0 0]] (aw [.row 1 false 0 [.nils]])
    (λv h=>∃y:Nat×Nat×lam,(y.2.1=y.2.2.length/\y.2.2=cG u)/\v=.bool true/\h=aw [sm y.1 y.2.1,OM y.1 y.2.2]):=by
  have hq:=jv u
  have hkl:=bB u
  exact qH Tryz.func66 λa=>K1 3 (.frz 1 [1,2,7,8]) (et rt ti)<|Me (Y0 u)<|Kl 4 13 (ln aU u.kids)<|Mg 0<|Xb aU u.kids (0:Nat) (1:Nat) ([aF u]:lam) [1,12,13,14] (λa _ b c d=>([bc (bb 67) [] [bY 0 0 0 0],aW<|u.kids.map aU,nV u.kids.length,nV a],[aZ 1 false 0 [aM 1 b 0 c none],aZ 3 true b<|d.map aK])) (λa _ b c=>b=c.length/\c++io a=[aF u]++io u.kids/\c.length+eB a<2^30) gR (λ_ _ b c d _ _ _ e f=>Kh 0 e<|Kf 0<|a (b,c,d)<|by(refine⟨f.1,?_⟩;have:=f.2.1;rw[sJ,eu]at this;rw[this,mC];rfl)) λa _ b c d e f g i j k l _ m _=>have m:=(m).trans<|congrArg some<|bQ g;have:=bT (J:=λa b=>b.2.1=b.2.2.length/\b.2.2++io a=[aF u]++io u.kids/\b.2.2.length+eB a<2^30) (a:=(b,c,d)) k f;have:=aG e k;have e:d.length+nU g<2^30:=(by grind[bD]);Kt 0 l<|Mx m<|K1 4 (.frz 2 [1,12,13,14,18,19]) (cL (tR 3 true b 2<|aX LQ d) rt ti)<|Mq (Pp g b c d oA e) λb _=>Kl 2 22 (dQ a)<|Kf 0<|j b.1 b.2.1 b.2.2<|by grind[bD,fT,vw]
theorem HG(u:TUnit)(hl:nU u<2^29):kP 44 [eU u] (.ls ((cG u).map aK)):=by
  have rr0 b' (h:((cG u).map aK)=b':=by(rw[hy0.2])):=h;exact bH Tryz.func44<|Mg 4<|M0 (.ren [1,0] [] [3,4,5])<|M1 (.frz 1 [3,4,5]) (et rt ti)<|Mq (KS u hl) λa hy0=>Mg 1<|M2 (.fsl 0 [] 2<|a.2.2.map aK) ti (cL (aY a.1) (tA aK a.2.2 a.2.1 (oA:(a.2.2).length=a.2.1))<|aX LQ a.2.2)<|Ml 2 (fe (a.2.2.map aK) false<|aX LQ a.2.2)<|Mf<|ch<|rr0<|a.2.2.map aK
theorem YT(u:TUnit)(hl:nU u<2^20):kP 296 [eU u] (.bool (Sv u)):=by
  have hb:(cG u).length<2^20:=by grind[vw]
  have hi:=HG u (by omega)
  have hlk:∀(m:List (PId×Bool))(a b c:Int),fW (some (.bool false)) false (bf true 3 [(0,1),(1,1),(2,1)] (.agg [iV a,iV b,iV c]) (bq aK dC m 0) 0)=some (.bool (qp ao ⟨a,b,c⟩ m)):=λm a b c=>AF wE m ⟨a,b,c⟩
  have hup:∀(m:List (PId×Bool))(a b c:Int),qL (bq aK dC m 0) m.length (.agg [iV a,iV b,iV c]) (.bool true) (bf true 3 [(0,1),(1,1),(2,1)] (.agg [iV a,iV b,iV c]) (bq aK dC m 0) 0)=some (bq aK dC (cQ ao ⟨a,b,c⟩ true m) 0,(cQ ao ⟨a,b,c⟩ true m).length):=λm a b c=>Eo wE m ⟨a,b,c⟩
  have rr0 b' (h:(Sv u)=b':=by((try clear gh1);(try clear gh2);(try clear gh3);(try clear gh4);(try clear gh5);(try clear gh6);(try clear gh7);have e:=DT (kenc:=aK) (f:=dC) za0 0;simp only[e,lM]at *;simp only[Sv,gQ,ao,aF,cZ,hj0,Om,aS,ak,bS, *];first|done|rfl)):=h;exact bH Tryz.func296<|Kp 2 hi<|Kl 4 12 (ln aK<|cG u)<|Mg 0<|OV aK (cG u) ([]:List (PId×Bool)) [1,3,4,11,12,13] (λd _ g=>([bY 0 0 0 0,aW<|(cG u).map aK,AV.map 1,aW<|(cG u).map aK,nV (cG u).length,nV d],[aZ 8 false 0 [av (uLx u)],AObj.map (bq aK dC g 0) g.length])) (λd g=>DQ (cG u) []=DQ d g) (by rfl) (λ_ _ za0 _ _ _ d hj0=>Kh 0 d<|K1 1 (.look<|fZ<|qp ao (PId.mk 0 0 0) za0) (hlk za0 0 0 0)<|Kb 2 (qp ao (PId.mk 0 0 0) za0) (λd=>Kt 0 d<|Kt 0 d<|Ku 0 d<|Kj 0 (Int.ofNat (bq aK dC za0 0).length) 1 (λd gh2=>Mt d<|Mt d<|Mt d<|Mt d<|Mt d<|Mt d<|MV d<|Ky 0<|rr0 true) λd gh2=>Kh 0 d<|Kh 0 d<|Kh 0 d<|Kh 0 d<|Kh 0 d<|Kj 0 (Int.ofNat (bq aK dC za0 0).length) (Int.ofNat ((cG u).map aK).length) (λg gh3=>Kt 0 g<|Kt 0 g<|Kt 0 g<|Kt 0 g<|Kt 0 g<|Kt 0 g<|Mv (kT ((Tryz.prog).underlying 28) u.act u.item u.n 0 0 0 h0)<|Mt g<|Kh 0 d<|MV g<|My d<|Kf 0<|cq<|rr0<|ae u.kind 0==(ae u.act 0&&(ae u.item 0&&ae u.n 0))) λg gh3=>Mh g<|Mh g<|Mh g<|Mh g<|Mh g<|Mh g<|Mh g<|Mh d<|My g<|My d<|Ky 0<|rr0 false) λd=>Mh d<|Mh d<|My d<|Kj 6 (Int.ofNat (bq aK dC za0 0).length) (Int.ofNat ((cG u).map aK).length) (λd gh4=>Kt 0 d<|Kt 0 d<|Kt 0 d<|Kt 0 d<|Kt 0 d<|Kt 0 d<|Mv (kT ((Tryz.prog).underlying 28) u.act u.item u.n 0 0 0 h0)<|Mt d<|Ku 0 d<|Kf 1<|cq<|rr0<|ae u.kind 0==(ae u.act 0&&(ae u.item 0&&ae u.n 0))) λd gh4=>Mh d<|Mh d<|Mh d<|Mh d<|Mh d<|Mh d<|Mh d<|My d<|Ky 1<|rr0 false) λd _ za0 _ _ g i j _ k _ l hj0=>Kt 0 k<|Mx l<|K1 4 (.upd (bq aK dC (cQ ao (PId.mk g.a g.i g.n) true za0) 0) (cQ ao (PId.mk g.a g.i g.n) true za0).length) (hup za0 g.a g.i g.n)<|Kl 0 19 (jo d)<|K1 0 (.frz 2 [1,3,4,11,12,13]) (cL (tM (cQ ao (PId.mk g.a g.i g.n) true za0).length 2 (by exact cj wE Bi _ _:ce (bq aK dC (cQ ao (PId.mk g.a g.i g.n) true za0) 0)=0)) rt ti)<|Mf<|j (cQ ao (PId.mk g.a g.i g.n) true za0)<|by(rw[hj0];rfl)
def sI(x:TUnit):Prop:=x.head.length<=300/\x.words.length<=300/\x.label.length<=2^39/\(∀w,w∈x.head->w.text.length<=2^39)/\∀w,w∈x.words->w.text.length<=2^39
def m9(u:TUnit):Prop:=nU u<=2^19/\∀x,x∈bV u->sI x
theorem Ix(u:TUnit)(h:m9 u):kP 66 [eU u,.func (.func 295) [] []] (.bool (xX md u)):=
  NC 295 md u
    (λx hx=>by
      obtain⟨a,b,c,d,e⟩:=h.2 x hx
      have h1:=bB x
      have h2:=dT hx
      have h3:=h.1
      grind[T6])
    (by have h1:=bB u;have h3:=h.1;omega)
    (λx hx=>by
      have h1:=bB x
      have h2:=dT hx
      have h3:=h.1
      omega)
theorem yD(u:TUnit)(h:m9 u):kP 262 [eU u] (.bool (lY u)):=by
  have h1:=h.1
  have e1:=Ix u h
  have e2:=Is u (by omega)
  have e3:=Fm u (by omega)
  have e4:=YT u (by omega)
  have hd:=Fh u
  have rr0 b' (h:(lY u)=b':=by(simp only[lY,aS,ak,bS, *];done)):=h;exact bH Tryz.func262<|Kp 2 e1<|Kb 0 (xX md u) (λa=>Kt 0 a<|Mp e2<|Mt a<|Ku 0 a<|Kn 0 (aE 8<|Int.ofNat<|nF u) (λa=>Kt 0 (cM a)<|Mp e3<|Mt (cM a)<|Ku 0 (cM a)<|Kn 0 (aE 1024<|Int.ofNat<|nU u) (λa=>Kt 0 (cM a)<|Mp e4<|MV (cM a)<|Kf 0<|cq<|rr0<|Sv u) λa=>Mh (cp a)<|My (cp a)<|Ky 0<|rr0 false) λa=>Mh (cp a)<|Mh (cp a)<|My (cp a)<|Ky 2<|rr0 false) λa=>Mh a<|Mh a<|My a<|Ky 4<|rr0 false
theorem sj(l:lag)(hl:l.length<2^30):kP 107 [.ls (l.map aQ)] (.ls (l.map aQ)):=by
  cases l with
  |nil=>exact aP.ls0 (Tg.less Le.nils) (Tf.lessB (u:=.ls []) (by kernel_rfl))
  |cons w r=>grind[Th]
noncomputable abbrev xw:AObj:=.row 8 false 0 [.agg [iV 0,iV 0,iV 0,iV 0,.str [],.nils,.nils,.nils]]
theorem IC:∀(u:TUnit),nU u<=2^20->(∀x,x∈bV u->x.head.length<2^30/\x.words.length<2^30)->kP 70 [eU u] (eU u):=by
  refine TUnit.ind λu ih hn ht=>?_
  have hkl:=bB u
  have c1:=sj u.head (ht u (dU u)).1
  have c2:=sj u.words (ht u (dU u)).2
  have ihk:∀k,k∈u.kids->kP 70 [eU k] (eU k):=λk hk=>ih k hk (b0 (oK (iI hk)) hn) (λx hx=>ht x (bi hk hx))
  have rr0 b' (h:(u.kids.map aU)=b':=by first|rfl|(rw[<-hj0];rfl)|(rw[<-hj0.2.2.1,eu])):=h;let q1:=List.map aQ u.words;let q2:=List.map aQ u.head;exact bH Tryz.func70<|Kp 3 c1<|Kp 1 c2<|Kl 7 16 (ln aU u.kids)<|Mg 0<|ky Nat Nat lad aU u.kids [1,2,3,15,16,17] (λa _=>([bY 0 0 0 0,bY 1 0 0 0,ah,aW<|u.kids.map aU,nV u.kids.length,nV a],[aZ 8 false 0 [av (uLx u)],aZ 8 false 0 [av [iV 0,iV 0,iV 0,iV 0,aj [],ah,ah,ah]]])) (λa _ b c d=>([bY 0 0 0 0,bY 1 0 0 0,aM 2 b 0 c none,aW<|u.kids.map aU,nV u.kids.length,nV a],[aZ 8 false 0 [av (uLx u)],aZ 8 false 0 [av [iV 0,iV 0,iV 0,iV 0,aj [],ah,ah,ah]],aZ 8 true b<|d.map aU])) (λa=>a=u.kids) (λa _ b c=>b=c.length/\(0:Nat)<c.length/\c++a=u.kids/\c.length+a.length=u.kids.length) (by rfl) (λ_ _ _ _ _ a hj0=>Kh 0 a<|Kl 0 27 bI<|Kf 3 (bJ (lc<|lc<|lc<|lc<|lc<|lc<|lc<|.cons (ch<|rr0 []) .nil)<|by kernel_rfl:Le _ (AV.agg [iV u.act,iV u.item,iV u.n,iV u.kind,AV.str u.label,AV.ls q2,AV.ls q1,AV.ls []]))) (λa _ _ b c d _ e f g _ i _=>have i:=(i).trans<|congrArg some<|bQ c;have hj0:=bT (J:=λa _=>a=u.kids) (a:=()) f b;Kt 0 g<|Mx i<|Kp 4 (ihk c gR)<|K1 1 (.obj 3<|aZ 8 true 0<|List.map aU [c]) (congrArg (aZ 8 true 0)<|PX (f:=aU) (g:=Go.Ev.eU) (ws:=[c]) bQ)<|Kl 1 26 (dQ a)<|K1 0 (.ren [0,1,3,2] [3] [1,2,3,15,16,17]) (tS 8 true 0<|aX gO [c])<|M1 (.frz 3 [1,2,3,15,16,17]) (jp (tR 8 true 0 3<|aX gO [c]) rt rt ti)<|Mf<|e 0 1 [c]<|by(refine⟨rfl,by simp,?_,?_⟩<;>(rw[<-hj0])<;>(first|rfl|grind))) (λ_ _ a b c _ _ _ d hj0=>let e:=List.map aU c;Kh 0 d<|Mg 0<|M2 (.fsl 2 [1,2] 27 e) (cL rt rt ti) (cL (aY a) (tA aU c b (oA:(c).length=b))<|aX gO c)<|Ml 27 (fe e false<|aX gO c)<|Kf 3 (bJ (lc<|lc<|lc<|lc<|lc<|lc<|lc<|.cons (ch<|rr0 e) .nil)<|by kernel_rfl:Le _ (AV.agg [iV u.act,iV u.item,iV u.n,iV u.kind,AV.str u.label,AV.ls q2,AV.ls q1,AV.ls e]))) λa _ b c d _ e f g _ i j l _ n _=>have n:=(n).trans<|congrArg some<|bQ f;have hj0:=bT (J:=λa b=>b.2.1=b.2.2.length/\(0:Nat)<b.2.2.length/\b.2.2++a=u.kids/\b.2.2.length+a.length=u.kids.length) (a:=(b,c,d)) j e;Kt 0 l<|Mx n<|Kp 4 (ihk f gR)<|K1 0 .app (cL (aY b) (sA:c=(d.map aU).length) (by(refine aN (m:=2^21) ?_ ?_ ?_<;>omega):small (c+1) 120=true))<|M1 (.obj 2<|aZ 8 true (b+1)<|(d++[f]).map aU) (congrArg (aZ 8 true<|b+1)<|y8 (f:=aU) (g:=Go.Ev.eU) (l:=d) (ws:=[f]) bQ)<|Kl 1 26 (dQ a)<|K1 0 (.frz 3 [1,2,3,15,16,17]) (jp (tR 8 true (b+1) 3<|aX gO<|d++[f]) rt rt ti)<|Mf<|i (b+1) (c+1) (d++[f])<|by(refine⟨by simp_all,by simp,?_,?_⟩<;>first|(rw[<-hj0.2.2.1];simp;done)|grind)
theorem ZW(p:PId)(u:TUnit)(h:By (bG p u) true)(hn:nU u<=2^20)(ht:∀x,x∈bV u->x.head.length<2^30/\x.words.length<2^30):kP 46 [eU u,aK p] (.tuple [eU (cH p u),.bool true]):=by
  have hw:=Gv p u h hn
  have hlen:=mn (p:=p) u
  have hpos:0<(aL p u).length:=qB.2 (jN h)
  have hm:cH p u∈bV u:=LR u _ (SL h)
  have hf:cH p u=gD (aL p u) ((aL p u).length -1):=by unfold cH;simp_all
  have hc:=IC (cH p u) (b0 (dT hm) hn) (λx hx=>ht x (by
    grind[dD]))
  rw[hf]at hc ⊢
  have hz:=S8 hpos
  exact bH Tryz.func46<|Kp 5 hw<|Kl 2 11 (ln aU<|aL p u)<|Kh 0 hz<|Kl 2 16 (ln aU<|aL p u)<|Kl 0 17 (El (aL p u).length)<|Mx ((bw aU (oA:(aL p u).length -1<(aL p u).length)).trans<|congrArg some<|bQ _)<|Kp 0 hc<|Kf 1<|bA<|cX [av [iV (gD (aL p u)<|(aL p u).length -1).act,iV (gD (aL p u)<|(aL p u).length -1).item,iV (gD (aL p u)<|(aL p u).length -1).n,iV (gD (aL p u)<|(aL p u).length -1).kind,aj (gD (aL p u)<|(aL p u).length -1).label,aW<|List.map aQ (gD (aL p u)<|(aL p u).length -1).head,aW<|List.map aQ (gD (aL p u)<|(aL p u).length -1).words,aW<|List.map aU (gD (aL p u)<|(aL p u).length -1).kids],fZ true]
theorem ZK(p:PId)(u:TUnit)(h:By (bG p u) false)(hn:nU u<=2^20):kP 46 [eU u,aK p] (.tuple [eU bo,.bool false]):=by
  have hw:=LP p u h hn
  exact bH Tryz.func46<|Kp 5 hw<|Kf 7 (dJ<|.cons (bJ (lc<|lc<|lc<|lc<|lc<|.cons bI<|.cons bI<|.cons bI .nil)<|by kernel_rfl)<|lc .nil:Le _ (cX [av [iV 0,iV 0,iV 0,iV 0,aj [],ah,ah,ah],fZ false]))
theorem SI(p:PId)(u:TUnit)(hn:nU u<=2^20)(ht:∀x,x∈bV u->x.head.length<2^30/\x.words.length<2^30):kP 46 [eU u,aK p] (.tuple [eU (cH p u),.bool (bG p u)]):=by
  cases h:bG p u with
  |true=>grind[ZW]
  | false=>
    have:=ZK p u h hn
    rwa[show bo=cH p u by unfold cH;simp_all]at this
theorem ifW(l:lag)(g:Nat)(q:PWord->Bool)(hp:∀k,k∈l->kP g [aQ k] (.bool (q k)))(hl:l.length<2^40):kP 297 [.ls (l.map aQ),.func (.func g) [] []] (iV (cN q l 0)):=by
  have rr0 b' (h:(cN q l 0)=b':=by first|exact jM zd0 hr0 hj0 ‹_› |exact hj0):=h;exact bH Tryz.func297<|Kl 2 7 (ln aQ l)<|Mg 0<|sn aQ l [0,1,7,8] (λa _=>([aW<|l.map aQ,bc (bb g) [] [],nV l.length,nV a],[])) (λa=>cN q l (0:Nat)=cN q a (l.length-a.length)) sA (λ_ _ zd0 _ hr0 a hj0=>Kh 0 a<|Kf 0<|li<|rr0 (-1)) λa _ zd0 _ b c d hr0 e _ f hj0=>Kt 0 e<|Kx 4 f<|Kp 0 (hp b<|by exact aG zd0 hr0)<|Mb (q b) (λ_=>Kf 1<|li<|rr0<|Int.ofNat a) λ_=>Kl 0 18 (dQ a)<|Kf 0<|d<|by exact ii zd0 hr0 hj0 (by omega)
theorem cfW(l:lag)(g:Nat)(q:PWord->Bool)(hp:∀k,k∈l->kP g [aQ k] (.bool (q k)))(hl:l.length<2^40):kP 265 [.ls (l.map aQ),.func (.func g) [] []] (.bool (l.any q)):=by
  have h:=ifW l g q hp hl
  have rr0 b' (h:(l.any q)=b':=by(rw[jD];simp only[aS,ak,bS,mq])):=h;exact bH Tryz.func265<|Kp 2 h<|Kf 1<|cq<|rr0<|ak<|aE (cN q l 0) 0
theorem Dl(w:PWord):kP 264 [aQ w] (.bool (pp w)):=by
  exact bH Tryz.func264<|Kv 4 (Hj ((Tryz.prog).underlying 173) w.act w.item w.at_ 0 0 0<|aw [aZ 4 false 0 [av [aj w.text,iV w.act,iV w.item,iV w.at_]]])<|Kf 0<|bA<|fZ<|ak<|ae w.act 0&&(ae w.item 0&&ae w.at_ 0)
theorem TL(u:TUnit)(h1:u.head.length<2^40)(h2:u.words.length<2^40):kP 263 [eU u] (.bool (Ea u)):=by
  have c1:=cfW u.head 264 pp (λk _=>Dl k) h1
  have c2:=cfW u.words 264 pp (λk _=>Dl k) h2
  have rr0 b' (h:(Ea u)=b':=by(simp only[Ea,gQ,ao,aF,cZ,aS,ak,bS, *];first|done|rfl)):=h;exact bH Tryz.func263<|Kv 5 (kT ((Tryz.prog).underlying 28) u.act u.item u.n 0 0 0<|aw [aZ 8 false 0 [av (uLx u)]])<|Kb 0 (ae u.act 0&&(ae u.item 0&&ae u.n 0)) (λa=>Kt 0 a<|Kt 0 a<|Kt 0 a<|Mp c1<|Mt a<|Ku 0 a<|Kn 0 (u.head.any pp) (λa=>Kt 0 (cM a)<|Kt 0 (cM a)<|Kt 0 (cM a)<|Mp c2<|Mt (cM a)<|Ku 0 (cM a)<|Kf 0<|cq<|rr0<|ak<|u.words.any pp) λa=>Mh (cp a)<|Mh (cp a)<|Mh (cp a)<|Mh (cp a)<|My (cp a)<|Ky 0<|rr0 false) λa=>Mh a<|Mh a<|Mh a<|Mh a<|My a<|Ky 2<|rr0 false
theorem ZF(u:TUnit)(h:m9 u):kP 228 [eU u] (.bool (I9 u)):=by
  have e1:=yD u h
  have e2:=NC 263 Ea u (λx hx=>by
      obtain⟨a,b,_⟩:=h.2 x hx
      grind[TL]) (by have h1:=bB u;have h3:=h.1;omega) (λx hx=>by
      have h1:=bB x
      have h2:=dT hx
      have h3:=h.1
      omega)
  have rr0 b' (h:(I9 u)=b':=by(simp only[I9,aS,ak,bS, *];first|done|rfl)):=h;exact bH Tryz.func228<|Kp 2 e1<|Kb 0 (lY u) (λc=>Kt 0 c<|Mp e2<|MV c<|Kf 0<|cq<|rr0<|xX Ea u) λc=>Mh c<|My c<|Ky 0<|rr0 false
theorem OP(p:PId)(u:TUnit)(hh:bG p u=false)(hn:nU u<=2^20):kP 139 [eU u,aK p] (.tuple [aK cZ,iV (-1),.bool false]):=by
  have hw:=LP p u hh hn
  exact bH Tryz.func139<|Kp 6 hw<|Kf 8<|bA<|cX [av [iV 0,iV 0,iV 0],iV (-1),fZ false]
theorem OO(p:PId)(u:TUnit)(hh:bG p u=true)(hl:aE (Int.ofNat (aL p u).length) 2=true)(hn:nU u<=2^20):kP 139 [eU u,aK p] (.tuple [aK cZ,iV (-1),.bool false]):=by
  have hw:=Gv p u hh hn
  exact bH Tryz.func139<|Kp 6 hw<|Kl 2 14 (ln aU<|aL p u)<|Kt 0 hl<|Kf 3<|bA<|cX [av [iV 0,iV 0,iV 0],iV (-1),fZ false]
theorem Rq(p:PId)(u:TUnit)(h:jg p u=false)(hn:nU u<=2^20):kP 139 [eU u,aK p] (.tuple [aK cZ,iV (-1),.bool false]):=by
  grind[OP,OO,jg]
theorem RY(p:PId)(u:TUnit)(h:jg p u=true)(hn:nU u<=2^20):kP 139 [eU u,aK p] (.tuple [aK (si p u),iV (rJ p u),.bool true]):=by
  have hl:aE (Int.ofNat (aL p u).length) 2=false:=by grind[jg]
  have hl2:2<=(aL p u).length:=by have:=aI hl;grind
  have hh:bG p u=true:=by
    cases e:bG p u with
    |true=>rfl
    |false=>grind[Sb]
  have hw:=Gv p u hh hn
  have hlen:=mn (p:=p) u
  have hm:Jr p u∈bV u:=LR u _ (eP (by omega))
  have hkn:∀k,k∈(Jr p u).kids->nU k<=2^20:=λk hk=>b0 (dT (dD hm (Nc hk))) hn
  have hkl:(Jr p u).kids.length<2^40:=by have:=bB (Jr p u);have:=dT hm;omega
  have hi:=acu (Jr p u).kids 226 p (bG p) (λk hk=>by
    grind[bG,OR,OS]) hkl
  rw[J6 h,J7 h]
  generalize hG:Jr p u=y at *
  have hG2:gD (aL p u) ((aL p u).length -2)=y:=hG
  have rr0 b' (h:((aF y).a)=b':=by(rw[hG2];rfl)):=h;have rr1 b' (h:((aF y).i)=b':=by(rw[hG2];rfl)):=h;have rr2 b' (h:((aF y).n)=b':=by(rw[hG2];rfl)):=h;exact bH Tryz.func139<|Kp 6 hw<|Kl 2 14 (ln aU<|aL p u)<|Kh 0 hl<|Kl 2 19 (ln aU<|aL p u)<|Kl 0 20 (cY (x:=Int.ofNat (aL p u).length -(2:Int)) (n:=(aL p u).length -2) fu)<|Mx ((bw aU (oA:(aL p u).length -2<(aL p u).length)).trans<|congrArg some<|bQ _)<|Mg 5<|M0 (.ren [2,3,0,1] [] [4,8,24,25])<|M1 (.frz 2 [4,8,24,25]) (cL rt rt ti)<|Mp (aP.onArgs (.cons (ch (by(rw[hG2];done):(y.kids.map aU)=(List.map aU (gD (aL p u) ((aL p u).length -2)).kids)))<|lc .nil) hi:kP 225 [aW (List.map aU (gD (aL p u) ((aL p u).length -2)).kids),bc (bb 226) [] [AV.pptr [av [iV p.a,iV p.i,iV p.n]] 0 0]] _)<|Kf 6 (dJ<|.cons (bJ (.cons (li<|rr0 (gD (aL p u)<|(aL p u).length -2).act)<|.cons (li<|rr1 (gD (aL p u)<|(aL p u).length -2).item)<|.cons (li<|rr2 (gD (aL p u)<|(aL p u).length -2).n) .nil)<|by kernel_rfl)<|lc<|lc .nil:Le _ (cX [av [iV (gD (aL p u) ((aL p u).length -2)).act,iV (gD (aL p u) ((aL p u).length -2)).item,iV (gD (aL p u) ((aL p u).length -2)).n],iV (cN (bG p) y.kids 0),fZ true]))
theorem RU(p:PId)(u:TUnit)(hn:nU u<=2^20):kP 139 [eU u,aK p] (.tuple [aK (si p u),iV (rJ p u),.bool (jg p u)]):=by
  grind[jg,RY,Yv,Rx,Rq]
theorem abE(p:PId)(u:TUnit)(h:bG p u=false)(hn:nU u<=2^20):kP 212 [eU u,aK p] (.ls ((mH p u).map aK)):=by
  have hw:=LP p u h hn
  have e:mH p u=[]:=by unfold mH;rw[BW h];rfl
  rw[e]
  let q:=[aZ 8 false 0 [av (uLx u)],aZ 3 false 0 [av [iV p.a,iV p.i,iV p.n]]];let q1:=[ah,ah,iV (IntKind.i64.wrap (0-2))];exact bH Tryz.func212<|Kp 5 hw<|Mg 4<|Z2 [5,6,7] (q1,q) True 0 ti λ_ _=>Kf 4 bI
theorem abD(p:PId)(u:TUnit)(h:bG p u=true)(hn:nU u<=2^20):kP 212 [eU u,aK p] (.ls ((mH p u).map aK)):=by
  have hw:=Gv p u h hn
  have hlen:=mn (p:=p) u
  have hpos:0<(aL p u).length:=qB.2 (jN h)
  have hac:=Ec p u
  have rr0 b' (h:((mH p u).map aK)=b':=by first|rfl|(rw[T3 hx0 ‹_›];rfl)|(rw[T4 hx0.2.1 oA ‹_›])):=h;exact bH Tryz.func212<|Kp 5 hw<|Kl 0 6 (fe ((aL p u).map aU) false<|aX gO<|aL p u)<|Kl 1 12 (ln aU<|aL p u)<|Kl 0 13 (Le.wr (x:=Int.ofNat (aL p u).length -2) fu)<|K1 0 (.frz 0 [5,6,7]) ti<|UK Int Nat Nat lam (Int.ofNat (aL p u).length -2) [5,6,7] (λa=>([ah,aW<|(aL p u).map aU,iV a],[])) (λa b c d=>([aM 0 b 0 c none,aW<|(aL p u).map aU,iV a],[aZ 3 true b<|d.map aK])) (λa=>a=Int.ofNat (aL p u).length -(2:Int)) (λa _ b c=>b=c.length/\c=pZ p u (a+(1:Int)).toNat/\((-1):Int)<=a/\a+(2:Int)<=↑(aL p u).length/\c.length<=(aL p u).length) (λa=>(a+1).toNat) (λa _ _ _=>(a+1).toNat) (by rfl) (λa hx0 _ b=>have hx0:=hx0;Kd 1 a 0 (λ_ _=>Kl 2 20 (CY (x:=a) oA)<|Mx ((bw aU (gR:a.toNat<(aL p u).length)).trans<|congrArg some<|bQ _)<|Kl 6 17 (Le.wr (x:=a-1) fu)<|Kf 0<|b (a-1) 0 1 [PId.mk (gD (aL p u) a.toNat).act (gD (aL p u) a.toNat).item (gD (aL p u) a.toNat).n] (by exact⟨rfl,P2 hx0 (by omega),by omega,by grind,by grind⟩) oA) λ_ _=>Kf 1 (Le.lsn<|rr0 []:Le _ (ah))) λa b c d hx0 _ e=>have hx0:=hx0;Kd 1 a 0 (λ_ _=>Kl 2 20 (CY (x:=a) oA)<|Mx ((bw aU (oA:a.toNat<(aL p u).length)).trans<|congrArg some<|bQ _)<|K1 2 .app (cL (aY b) (sA:c=(d.map aK).length) (by(refine aN (m:=2^21) ?_ ?_ ?_<;>omega):small (c+1) 24=true))<|M1 (.obj 0<|aZ 3 true (b+1)<|(d++[PId.mk (gD (aL p u) a.toNat).act (gD (aL p u) a.toNat).item (gD (aL p u) a.toNat).n]).map aK) (congrArg (aZ 3 true<|b+1)<|cO (f:=aK) (l:=d) (ws:=[PId.mk (gD (aL p u) a.toNat).act (gD (aL p u) a.toNat).item (gD (aL p u) a.toNat).n]))<|Kl 2 17 (Le.wr (x:=a-1) fu)<|Kf 0<|e (a-1) (b+1) (c+1) (d++[PId.mk (gD (aL p u) a.toNat).act (gD (aL p u) a.toNat).item (gD (aL p u) a.toNat).n]) (by exact⟨by simp_all,JK hx0.2.1 hx0.2.2.2.1 (by omega),by omega,by omega,by(have z:=JK hx0.2.1 hx0.2.2.2.1 (by omega);grind)⟩) oA) λ_ _=>Mg 1<|M2 (.fsl 0 [] 4<|d.map aK) ti (cL (aY b) (tA aK d c (oA:(d).length=c))<|aX LQ d)<|Ml 4 (fe (d.map aK) false<|aX LQ d)<|Mf<|ch<|rr0<|d.map aK
theorem JJ(p:PId)(u:TUnit)(hn:nU u<=2^20):kP 212 [eU u,aK p] (.ls ((mH p u).map aK)):=by
  grind[abD,abE]
theorem ld(u:TUnit)(s:PStep):kP 175 [eU u,aq s] (.bool (bO s u)):=by
  have rr0 b' (h:(bO s u)=b':=by(simp only[bO,be,aS,ak,bS, *];first|done|rfl)):=h;exact bH Tryz.func175<|Kb 8 (ae u.kind s.kind) (λa=>Kt 0 a<|Kt 0 a<|Kt 0 a<|Kt 0 a<|Ku 0 a<|Kf 0<|cq<|rr0<|ei u.label s.label) λa=>Mh a<|Mh a<|Mh a<|Mh a<|My a<|Ky 0<|rr0 false
noncomputable abbrev jP(p:lap):AObj:=.row 1 false 0 [.ls (p.map aq)]
noncomputable abbrev FC(ep n:Nat):AObj:=.row 1 false 0 [.slice 2 ep 0 n none]
noncomputable abbrev Cf(ep:Nat)(l:lad):AObj:=.row 8 true ep (l.map aU)
noncomputable abbrev O7:AObj:=.row 1 false 0 [.nils]
theorem DE(s:PStep)(rs:lap)(u:TUnit)(h:By (bO s u) false):kD 174 [eU u,.ptr 0 0 0 0,.ptr 1 0 0 0] (aw [jP (s::rs),O7]) (.tuple []) (aw [jP (s::rs),O7]):=by
  have h':bO s u=false:=h
  exact eg Tryz.func174 λa=>Kp 4 (ld u s)<|Mh h'<|M1 (.frz 2 []) (cL rt rt ti)<|Mf a
theorem KM(s:PStep)(rs:lap)(u:TUnit)(h:By (bO s u) true):kD 174 [eU u,.ptr 0 0 0 0,.ptr 1 0 0 0] (aw [jP (s::rs),O7]) (.tuple []) (aw [jP (s::rs),FC 0 1,Cf 0 [u]]):=by
  have h':bO s u=true:=h
  exact Jl Tryz.func174<|Kp 4 (ld u s)<|Mt h'<|Mg 7<|M0 (.ren [0,1,3,2] [] [])<|M1 (.frz 3 []) (jp rt rt rt ti)<|Mf<|et (aY<|cX []) (by(simp only[Cf,eT,xK,bQ];rfl):(aw [AObj.row 1 false 0 [AV.ls ((s::rs).map aq)],AObj.row 1 false 0 [AV.slice 2 0 0 1 none],AObj.row 8 true 0 [AV.agg (uLx u)]])=(aw [jP (s::rs),FC 0 1,Cf 0 [u]]))
theorem Pb(s:PStep)(rs:lap)(u:TUnit)(ep n:Nat)(l:lad)(h:By (bO s u) false):kD 174 [eU u,.ptr 0 0 0 0,.ptr 1 0 0 0] (aw [jP (s::rs),FC ep n,Cf ep l]) (.tuple []) (aw [jP (s::rs),FC ep n,Cf ep l]):=by
  have h':bO s u=false:=h
  exact eg Tryz.func174 λa=>Kp 4 (ld u s)<|Mh h'<|M1 (.frz 3 []) (jp (tR 8 true ep 3<|aX gO l) rt rt ti)<|Mf a
theorem Pc(s:PStep)(rs:lap)(u:TUnit)(ep n:Nat)(l:lad)(h:By (bO s u) true)(hn:n=l.length)(hl:l.length<2^30):kD 174 [eU u,.ptr 0 0 0 0,.ptr 1 0 0 0] (aw [jP (s::rs),FC ep n,Cf ep l]) (.tuple []) (aw [jP (s::rs),FC (ep+1) (n+1),Cf (ep+1) (l++[u])]):=by
  have h':bO s u=true:=h
  let q:=[iV 0,iV 0,iV 0,iV 0,aj [],ah,ah,ah];let q1:=List.map aU l++[av q];exact eg Tryz.func174 λa=>Kp 4 (ld u s)<|Mt h'<|Mg 3<|Mw (.apx q1<|.rix<|.rst (av q) ((l++[u]).map aU)<|.go 0<|.frz 3 [] .fin)<|Iw rt (ic (tR 8 true ep 4<|aX gO l) rt) (et (jO _ _:([av q]:laa)≠[]) rt) (et (cL (aY ep) (sA:n=(l.map aU).length) (by(refine aN (m:=2^31) ?_ ?_ ?_<;>(try simp only[lC,lN])<;>omega):small (n+([AV.agg [iV 0,iV 0,iV 0,iV 0,AV.str [],AV.nils,AV.nils,AV.nils]]).length) 120=true))<|aY q1) (et (aY<|ep+1) (oA:n<n+1)) rt (ic (tR 8 true (ep+1) 4 (by exact YZ _ rfl:az q1=0)) rt) (cL (aY<|ep+1) (Rn (f:=aU) (l:=l) (z:=av q) (oA:n=(l).length))<|QS (f:=aU) (g:=Go.Ev.eU) bQ (l:=l) (z:=av q) (w:=u) (oA:n=(l).length)) (jp (tR 8 true (ep+1) 3<|aX gO<|l++[u]) rt rt ti) a
theorem Im(s:PStep)(rs:lap):∀(u:TUnit),∀(ep n:Nat)(l:lad),n=l.length->l.length+nU u<2^30->kC 173 [eU u,.func (.func 174) [] [.ptr 0 0 0 0,.ptr 1 0 0 0]] (aw [jP (s::rs),FC ep n,Cf ep l])
    (λv h=>∃y:Nat×Nat×lad,(y.2.1=y.2.2.length/\y.2.2=l++lH s u)/\v=.tuple []/\h=aw [jP (s::rs),FC y.1 y.2.1,Cf y.1 y.2.2]):=by
  refine TUnit.ind λu ih ep n l hn hl=>?_
  have hq:=jv u
  have hkl:=bB u
  have hp:=Aa s u
  rcases Bool.eq_false_or_eq_true (bO s u)with hc|hc
  · rw[hc]at hp
    exact qH Tryz.func173 λa=>K1 2 (.frz 3 [1,2,6,7]) (jp (tR 8 true ep 3<|aX gO l) rt rt ti)<|Me (Pc s rs u ep n l hc hn oA)<|Kl 2 11 (ln aU u.kids)<|Mg 0<|Xb aU u.kids (ep+1) (n+1) (l++[u]) [1,10,11,12] (λa _ b c d=>([bc (bb 174) [] [bY 0 0 0 0,bY 1 0 0 0],aW<|u.kids.map aU,nV u.kids.length,nV a],[aZ 1 false 0 [aW<|(s::rs).map aq],aZ 1 false 0 [aM 2 b 0 c none],aZ 8 true b<|d.map aU])) (λa _ b c=>b=c.length/\c++dA s a=l++[u]++dA s u.kids/\c.length+eB a<2^30) gR (λ_ _ b c d _ _ _ e _=>Kh 0 e<|Mf<|a (b,c,d)<|by grind[nw]) λa _ b c d e f g i j k m _ o _=>have o:=(o).trans<|congrArg some<|bQ g;have:=bT (J:=λa b=>b.2.1=b.2.2.length/\b.2.2++dA s a=l++[u]++dA s u.kids/\b.2.2.length+eB a<2^30) (a:=(b,c,d)) k f;have e:=aG e k;have f:d.length+nU g<2^30:=(by grind[bD]);Kt 0 m<|Mx o<|K1 4 (.frz 3 [1,10,11,12,16,17]) (jp (tR 8 true b 3<|aX gO d) rt rt ti)<|Mq (ih g e b c d oA f) λb _=>Kl 0 19 (dQ a)<|Kf 0<|j b.1 b.2.1 b.2.2<|by grind[bD,iW,mM]
  · rw[hc]at hp
    exact qH Tryz.func173 λa=>K1 2 (.frz 3 [1,2,6,7]) (jp (tR 8 true ep 3<|aX gO l) rt rt ti)<|Me (Pb s rs u ep n l hc)<|Kl 2 11 (ln aU u.kids)<|Mg 0<|Xb aU u.kids ep n l [1,10,11,12] (λa _ b c d=>([bc (bb 174) [] [bY 0 0 0 0,bY 1 0 0 0],aW<|u.kids.map aU,nV u.kids.length,nV a],[aZ 1 false 0 [aW<|(s::rs).map aq],aZ 1 false 0 [aM 2 b 0 c none],aZ 8 true b<|d.map aU])) (λa _ b c=>b=c.length/\c++dA s a=l++dA s u.kids/\c.length+eB a<2^30) gR (λ_ _ b c d _ _ _ e _=>Kh 0 e<|Mf<|a (b,c,d)<|by grind[nw]) λa _ b c d e f g i j k m _ o _=>have o:=(o).trans<|congrArg some<|bQ g;have:=bT (J:=λa b=>b.2.1=b.2.2.length/\b.2.2++dA s a=l++dA s u.kids/\b.2.2.length+eB a<2^30) (a:=(b,c,d)) k f;have e:=aG e k;have f:d.length+nU g<2^30:=(by grind[bD]);Kt 0 m<|Mx o<|K1 4 (.frz 3 [1,10,11,12,16,17]) (jp (tR 8 true b 3<|aX gO d) rt rt ti)<|Mq (ih g e b c d oA f) λb _=>Kl 0 19 (dQ a)<|Kf 0<|j b.1 b.2.1 b.2.2<|by grind[bD,iW,mM]
theorem Io(s:PStep)(rs:lap):∀(u:TUnit),nU u<=2^20->By (lH s u).isEmpty true->kD 173 [eU u,.func (.func 174) [] [.ptr 0 0 0 0,.ptr 1 0 0 0]] (aw [jP (s::rs),O7]) (.tuple []) (aw [jP (s::rs),O7]):=by
  refine TUnit.ind λu ih hn he=>?_
  have hkl:=bB u
  have hp:=Aa s u
  have he':=tQ.1 (show(lH s u).isEmpty=true from he)
  rw[he']at hp
  rcases Bool.eq_false_or_eq_true (bO s u)with hc|hc
  · grind
  · rw[hc]at hp
    have hp:dA s u.kids=[]:=hp.symm
    exact eg Tryz.func173 λa=>K1 2 (.frz 2 [1,2,6,7]) (cL rt rt ti)<|Me (DE s rs u hc)<|Kl 2 11 (ln aU u.kids)<|Mg 0<|sn aU u.kids [1,10,11,12] (λa _=>([bc (bb 174) [] [bY 0 0 0 0,bY 1 0 0 0],aW<|u.kids.map aU,nV u.kids.length,nV a],[aZ 1 false 0 [aW<|(s::rs).map aq],aZ 1 false 0 [ah]])) (λa=>dA s a=[]) oA (λ_ _ _ _ _ b _=>Kh 0 b<|Mf a) λa _ b _ c d e f g _ h i=>have h:=h.trans<|congrArg some<|bQ c;have j:=aG b f;have b:=b0 (oK<|iI<|aG b f) hn;have f:(lH s c).isEmpty=true:=(by rw[iW]at i;rw[(List.append_eq_nil_iff.1 i).1];rfl);Kt 0 g<|Mx h<|K1 4 (.frz 2 [1,10,11,12,16,17]) (cL rt rt ti)<|Me (ih c j b f)<|Kl 0 19 (dQ a)<|Kf 0<|e<|by grind[iW]
theorem TW(s:PStep)(rs:lap):∀(u:TUnit),nU u<=2^20->By (lH s u).isEmpty false->kC 173 [eU u,.func (.func 174) [] [.ptr 0 0 0 0,.ptr 1 0 0 0]] (aw [jP (s::rs),O7])
    (λv h=>∃y:Nat×Nat×lad,(y.2.1=y.2.2.length/\y.2.2=lH s u)/\v=.tuple []/\h=aw [jP (s::rs),FC y.1 y.2.1,Cf y.1 y.2.2]):=by
  refine TUnit.ind λu ih hn he=>?_
  have hq:=jv u
  have hkl:=bB u
  have hp:=Aa s u
  rcases Bool.eq_false_or_eq_true (bO s u)with hc|hc
  · rw[hc]at hp
    exact qH Tryz.func173 λa=>K1 2 (.frz 2 [1,2,6,7]) (cL rt rt ti)<|Me (KM s rs u hc)<|Kl 2 11 (ln aU u.kids)<|Mg 0<|Xb aU u.kids (0:Nat) (1:Nat) ([u]:lad) [1,10,11,12] (λa _ b c d=>([bc (bb 174) [] [bY 0 0 0 0,bY 1 0 0 0],aW<|u.kids.map aU,nV u.kids.length,nV a],[aZ 1 false 0 [aW<|(s::rs).map aq],aZ 1 false 0 [aM 2 b 0 c none],aZ 8 true b<|d.map aU])) (λa _ b c=>b=c.length/\c++dA s a=[u]++dA s u.kids/\c.length+eB a<2^30) gR (λ_ _ b c d _ _ _ e _=>Kh 0 e<|Mf<|a (b,c,d)<|by grind[nw]) λa _ b c d e f g i j k l _ m _=>have m:=(m).trans<|congrArg some<|bQ g;have:=bT (J:=λa b=>b.2.1=b.2.2.length/\b.2.2++dA s a=[u]++dA s u.kids/\b.2.2.length+eB a<2^30) (a:=(b,c,d)) k f;have:=aG e k;have e:d.length+nU g<2^30:=(by grind[bD]);Kt 0 l<|Mx m<|K1 4 (.frz 3 [1,10,11,12,16,17]) (jp (tR 8 true b 3<|aX gO d) rt rt ti)<|Mq (Im s rs g b c d oA e) λb _=>Kl 0 19 (dQ a)<|Kf 0<|j b.1 b.2.1 b.2.2<|by grind[bD,iW,mM]
  · rw[hc]at hp
    have hne:dA s u.kids≠[]:=λe=>by
      simp_all
    exact qH Tryz.func173 λa=>K1 2 (.frz 2 [1,2,6,7]) (cL rt rt ti)<|Me (DE s rs u hc)<|Kl 2 11 (ln aU u.kids)<|Mg 0<|ky Nat Nat lad aU u.kids [1,10,11,12] (λa _=>([bc (bb 174) [] [bY 0 0 0 0,bY 1 0 0 0],aW<|u.kids.map aU,nV u.kids.length,nV a],[aZ 1 false 0 [aW<|(s::rs).map aq],aZ 1 false 0 [ah]])) (λa _ b c d=>([bc (bb 174) [] [bY 0 0 0 0,bY 1 0 0 0],aW<|u.kids.map aU,nV u.kids.length,nV a],[aZ 1 false 0 [aW<|(s::rs).map aq],aZ 1 false 0 [aM 2 b 0 c none],aZ 8 true b<|d.map aU])) (λa=>a≠[]/\dA s a=dA s u.kids) (λa _ b c=>b=c.length/\c++dA s a=dA s u.kids/\c.length+eB a<2^30) (by(exact⟨MH rfl hne,rfl⟩)) (λ_ _ _ _ _ _ _=>Mw .abs (sA:False)) (λa _ b c d f g i j k _ l _=>have l:=(l).trans<|congrArg some<|bQ d;have:=bT (J:=λa _=>a≠[]/\dA s a=dA s u.kids) (a:=()) j c;have c:=aG b j;have m:=b0 (oK<|iI<|aG b j) hn;have:nU d+eB f<=2^20:=(by have z:=pc b j;omega);Kt 0 k<|Mx l<|K1 4 (.frz 2 [1,10,11,12,16,17]) (cL rt rt ti)<|Ms (lH s d).isEmpty (λb=>Me (Io s rs d m b)<|Kl 0 19 (dQ a)<|Kf 0<|g<|by(have e:dA s f=dA s u.kids:=(by grind[iW]);exact⟨MH e hne,e⟩)) λb=>Mq (ih d c m b) λb _=>Kl 0 19 (dQ a)<|Kf 0<|i b.1 b.2.1 b.2.2<|by grind[iW,mM]) (λ_ _ b c d _ _ _ f g=>Kh 0 f<|Mf<|a (b,c,d)<|by(refine⟨g.1,?_⟩;have:=g.2.1;rw[nw,eu]at this;simp_all)) λa _ b c d f g i j _ k l m _ n _=>have n:=(n).trans<|congrArg some<|bQ i;have:=bT (J:=λa b=>b.2.1=b.2.2.length/\b.2.2++dA s a=dA s u.kids/\b.2.2.length+eB a<2^30) (a:=(b,c,d)) l g;have:=aG f l;have:=b0 (oK<|iI<|aG f l) hn;have:nU i+eB j<=2^20:=(by have z:=pc f l;omega);Kt 0 m<|Mx n<|K1 4 (.frz 3 [1,10,11,12,16,17]) (jp (tR 8 true b 3<|aX gO d) rt rt ti)<|Mq (Im s rs i b c d oA<|by grind[bD]) λb _=>Kl 0 19 (dQ a)<|Kf 0<|k b.1 b.2.1 b.2.2<|by grind[iW,mM]
end Go.Proofs.YtiflidpifinbjaaGreatDoor
