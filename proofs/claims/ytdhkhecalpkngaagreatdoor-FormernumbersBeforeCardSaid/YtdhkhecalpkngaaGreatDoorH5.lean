/- Functions walked: what each of them answers, for If an address denotes exactly one unit on the book before an item reference, LastHolder returns that unit, and every unit that LastHolder returns is among the Holders: part 5. Conditions: those that each theorem names. -/
import Derived.Test.YtdhkhecalpkngaaGreatDoorH4
namespace Go.Proofs.YtdhkhecalpkngaaGreatDoor
open Go Go.Ev
noncomputable def tU:List AEnt:=[⟨iV 0,.func (.func 126) [] [],0⟩,⟨iV 1,.func (.func 127) [] [],1⟩,⟨iV 2,.func (.func 128) [] [],2⟩,⟨iV 3,.func (.func 129) [] [],3⟩,⟨iV 4,.func (.func 130) [] [],4⟩,⟨iV 5,.func (.func 131) [] [],5⟩,⟨iV 6,.func (.func 132) [] [],6⟩]
noncomputable abbrev VR(d:PDeed):AObj:=.row 28 false 0 [aK d]
noncomputable abbrev Vm(u:TUnit):AObj:=.row 8 false 0 [eU u]
theorem uL(u:TUnit)(d:PDeed):kD 92 [] (av [Vm u,VR d,zO]) (.map 3) (av [Vm u,VR d,zO,.map tU 7]):=by
  exact dE Tryz.func92 fun a=>Kf 10 a
def VP:Int->Nat
  |0=>126
  |1=>127
  |2=>128
  |3=>129
  |4=>130
  |5=>131
  |_=>132
abbrev BV(d:PDeed)(g:Nat):Prop:=eD (some .nilf) true (bx false 1 [(0,1)] (iV d.it.kind) tU 0)=some (.tuple [.func (.func g) [] [],.bool true])
theorem WD(d:PDeed)(h1:0<=d.it.kind)(h2:d.it.kind<=6):BV d (VP d.it.kind):=by
  unfold BV
  generalize d.it.kind=k at *
  have:k=0\/k=1\/k=2\/k=3\/k=4\/k=5\/k=6:=by omega
  rcases this with rfl|rfl|rfl|rfl|rfl|rfl|rfl<;>rfl
theorem VJ(u:TUnit)(d:PDeed)(g:Nat)(hl:BV d g)(hV:kP 93 [eI d.it] (.bool false)):kP 54 [eU u,aK d] (eN (u,1)):=by
  have hr:=uL u d
  have hl:eD (some .nilf) true (bx false 1 [(0,1)] (iV d.it.kind) tU 0)=some (.tuple [.func (.func g) [] [],.bool true]):=hl
  let q:=[az [iV d.act,iV d.item,iV d.day,iV d.it.kind,aW (d.it.at_.map aY),aW (d.it.to.map aY),iV d.it.where_,iV d.it.nth_,iV d.it.unit.act,iV d.it.unit.item,iV d.it.unit.n,iV d.it.unit.kind,aV d.it.unit.label,aW (d.it.unit.head.map aQ),aW (d.it.unit.words.map aQ),aW (d.it.unit.kids.map aq),aW (d.it.old.map nK),aW (d.it.new.map nK),aV d.it.label,aV d.it.for_,iV d.it.start.kind,iV d.it.start.day,aV d.it.start.event,iV d.it.act,iV d.it.item,iV d.it.day,aV d.it.event,aW (d.it.by_.map NO)]];let q1:=[iV u.act,iV u.item,iV u.n,iV u.kind,aV u.label,aW (u.head.map aQ),aW (u.words.map aQ),aW (u.kids.map aq)];let q2:=[az [iV 0,iV 0,iV 0,iV 0,aV [],ak,ak,ak]];exact bo Tryz.func54<|Mg 3<|M3 (.efx true (AV.map 3)<|av [aZ 8 false 0 [az q1],aZ 28 false 0 q,aZ 8 false 0 q2,AObj.map [AEnt.mk (iV 0) (bQ (aT 126) [] []) 0,AEnt.mk (iV 1) (bQ (aT 127) [] []) 1,AEnt.mk (iV 2) (bQ (aT 128) [] []) 2,AEnt.mk (iV 3) (bQ (aT 129) [] []) 3,AEnt.mk (iV 4) (bQ (aT 130) [] []) 4,AEnt.mk (iV 5) (bQ (aT 131) [] []) 5,AEnt.mk (iV 6) (bQ (aT 132) [] []) 6] 7]) (kF rt rt rt ti) (kF (ax<|some<|aZ 8 false 0 q2) (ax<|some<|aZ 28 false 0 q) (ax<|some<|aZ 8 false 0 [az q1]) ti) hr<|K1 2 (.look<|dg [bQ (aT g) [] [],dQ true]) hl<|Kp 9 hV<|Kf 5<|bY<|dg [az q1,iV 1]
theorem VV(u:TUnit)(d:PDeed)(g:Nat)(id:PId)(e:Int)(hl:BV d g)(hV:kP 93 [eI d.it] (.bool true))(he:ae e 0=false)(hF:kP 14 [eU u,.ls (d.it.at_.map aY)] (.tuple [aJ id,iV e])):kP 54 [eU u,aK d] (eN (u,e)):=by
  have hr:=uL u d
  have hl:eD (some .nilf) true (bx false 1 [(0,1)] (iV d.it.kind) tU 0)=some (.tuple [.func (.func g) [] [],.bool true]):=hl
  let q:=[az [iV d.act,iV d.item,iV d.day,iV d.it.kind,aW (d.it.at_.map aY),aW (d.it.to.map aY),iV d.it.where_,iV d.it.nth_,iV d.it.unit.act,iV d.it.unit.item,iV d.it.unit.n,iV d.it.unit.kind,aV d.it.unit.label,aW (d.it.unit.head.map aQ),aW (d.it.unit.words.map aQ),aW (d.it.unit.kids.map aq),aW (d.it.old.map nK),aW (d.it.new.map nK),aV d.it.label,aV d.it.for_,iV d.it.start.kind,iV d.it.start.day,aV d.it.start.event,iV d.it.act,iV d.it.item,iV d.it.day,aV d.it.event,aW (d.it.by_.map NO)]];let q1:=[iV u.act,iV u.item,iV u.n,iV u.kind,aV u.label,aW (u.head.map aQ),aW (u.words.map aQ),aW (u.kids.map aq)];let q2:=[az [iV 0,iV 0,iV 0,iV 0,aV [],ak,ak,ak]];exact bo Tryz.func54<|Mg 3<|M3 (.efx true (AV.map 3)<|av [aZ 8 false 0 [az q1],aZ 28 false 0 q,aZ 8 false 0 q2,AObj.map [AEnt.mk (iV 0) (bQ (aT 126) [] []) 0,AEnt.mk (iV 1) (bQ (aT 127) [] []) 1,AEnt.mk (iV 2) (bQ (aT 128) [] []) 2,AEnt.mk (iV 3) (bQ (aT 129) [] []) 3,AEnt.mk (iV 4) (bQ (aT 130) [] []) 4,AEnt.mk (iV 5) (bQ (aT 131) [] []) 5,AEnt.mk (iV 6) (bQ (aT 132) [] []) 6] 7]) (kF rt rt rt ti) (kF (ax<|some<|aZ 8 false 0 q2) (ax<|some<|aZ 28 false 0 q) (ax<|some<|aZ 8 false 0 [az q1]) ti) hr<|K1 2 (.look<|dg [bQ (aT g) [] [],dQ true]) hl<|Kp 9 hV<|Kp 6 hF<|Kt 7 (cS he)<|Kf 3<|bY<|dg [az q1,iV e]
theorem VK(u x:TUnit)(d:PDeed)(g:Nat)(id q:PId)(e2:Int)(b:Bool)(hl:BV d g)(hV:kP 93 [eI d.it] (.bool true))(hF:kP 14 [eU u,.ls (d.it.at_.map aY)] (.tuple [aJ id,iV 0]))
    (hX:kP 21 [eU u,aJ id] (.tuple [eU x,.bool b]))(hi:(ae id.a u.act&&(ae id.i u.item&&ae id.n u.n))=true)(hk:ae d.it.kind 0=false)(hF2:kP 14 [eU u,.ls (d.it.to.map aY)] (.tuple [aJ q,iV e2])):
    kP 54 [eU u,aK d] (eN (u,bif ae d.it.kind 6&&aw (ae e2 0)then e2 else 9)):=by
  have hr:=uL u d
  have hl:eD (some .nilf) true (bx false 1 [(0,1)] (iV d.it.kind) tU 0)=some (.tuple [.func (.func g) [] [],.bool true]):=hl
  have rr0 b' (h:((u,bif ae d.it.kind 6&&aw (ae e2 0)then e2 else 9))=b':=by(simp only[bg,aS,aw,bS, *];first|done|rfl)):=h;let q1:=[az [iV d.act,iV d.item,iV d.day,iV d.it.kind,aW (d.it.at_.map aY),aW (d.it.to.map aY),iV d.it.where_,iV d.it.nth_,iV d.it.unit.act,iV d.it.unit.item,iV d.it.unit.n,iV d.it.unit.kind,aV d.it.unit.label,aW (d.it.unit.head.map aQ),aW (d.it.unit.words.map aQ),aW (d.it.unit.kids.map aq),aW (d.it.old.map nK),aW (d.it.new.map nK),aV d.it.label,aV d.it.for_,iV d.it.start.kind,iV d.it.start.day,aV d.it.start.event,iV d.it.act,iV d.it.item,iV d.it.day,aV d.it.event,aW (d.it.by_.map NO)]];let q2:=[az [iV u.act,iV u.item,iV u.n,iV u.kind,aV u.label,aW (u.head.map aQ),aW (u.words.map aQ),aW (u.kids.map aq)]];let q3:=[az [iV 0,iV 0,iV 0,iV 0,aV [],ak,ak,ak]];let q4:=[iV id.a,iV id.i,iV id.n];let q5:=bQ (aT 126) [] [];let q6:=bQ (aT 127) [] [];let q7:=bQ (aT 128) [] [];let q8:=bQ (aT 129) [] [];let q9:=bQ (aT 130) [] [];let q10:=bQ (aT 131) [] [];let q11:=bQ (aT 132) [] [];let q12:=iV 0;let q13:=iV 1;let q14:=iV 2;let q15:=iV 3;let q16:=iV 4;let q17:=iV 5;let q18:=iV 6;exact bo Tryz.func54<|Mg 3<|M3 (.efx true (AV.map 3)<|av [aZ 8 false 0 q2,aZ 28 false 0 q1,aZ 8 false 0 q3,AObj.map [AEnt.mk q12 q5 0,AEnt.mk q13 q6 1,AEnt.mk q14 q7 2,AEnt.mk q15 q8 3,AEnt.mk q16 q9 4,AEnt.mk q17 q10 5,AEnt.mk q18 q11 6] 7]) (kF rt rt rt ti) (kF (ax<|some<|aZ 8 false 0 q3) (ax<|some<|aZ 28 false 0 q1) (ax<|some<|aZ 8 false 0 q2) ti) hr<|K1 2 (.look<|dg [bQ (aT g) [] [],dQ true]) hl<|Kp 9 hV<|Kp 6 hF<|Kp 10 hX<|Kv 8 (Gk ((Tryz.prog).underlying 26) id.a id.i id.n u.act u.item u.n<|av [aZ 8 false 0 q2,aZ 28 false 0 q1,aZ 8 false 0 q3,AObj.map [AEnt.mk q12 q5 0,AEnt.mk q13 q6 1,AEnt.mk q14 q7 2,AEnt.mk q15 q8 3,AEnt.mk q16 q9 4,AEnt.mk q17 q10 5,AEnt.mk q18 q11 6] 7,aZ 3 false 0 [az q4],aZ 8 false 0 [az [iV x.act,iV x.item,iV x.n,iV x.kind,aV x.label,aW<|x.head.map aQ,aW<|x.words.map aQ,aW<|x.kids.map aq]]])<|Kh 0 (cF hi)<|Kh 0 (cF hi)<|Kh 0 (cF hi)<|Kh 0 (cF hi)<|Kw 0 (cF hi)<|Mh hk<|Kb 3 (ae d.it.kind 6) (fun _=>Kp 3 hF2<|Kn 7 (ae e2 0) (fun _=>Kf 3<|fm<|congrArg eN<|rr0 (u,e2)) fun _=>Kf 2<|fm<|congrArg eN<|rr0 (u,9)) fun _=>Kf 2<|fm<|congrArg eN<|rr0 (u,9)
theorem VY(u x:TUnit)(d:PDeed)(g:Nat)(id:PId)(b:Bool)(r:pR)(hl:BV d g)(hV:kP 93 [eI d.it] (.bool true))(hF:kP 14 [eU u,.ls (d.it.at_.map aY)] (.tuple [aJ id,iV 0]))
    (hX:kP 21 [eU u,aJ id] (.tuple [eU x,.bool b]))(hi:(ae id.a u.act&&(ae id.i u.item&&ae id.n u.n))=false)(hD:kP g [eU u,eU x,aK d] (eN r)):kP 54 [eU u,aK d] (eN r):=by
  have hr:=uL u d
  have hl:eD (some .nilf) true (bx false 1 [(0,1)] (iV d.it.kind) tU 0)=some (.tuple [.func (.func g) [] [],.bool true]):=hl
  let q:=[az [iV d.act,iV d.item,iV d.day,iV d.it.kind,aW (d.it.at_.map aY),aW (d.it.to.map aY),iV d.it.where_,iV d.it.nth_,iV d.it.unit.act,iV d.it.unit.item,iV d.it.unit.n,iV d.it.unit.kind,aV d.it.unit.label,aW (d.it.unit.head.map aQ),aW (d.it.unit.words.map aQ),aW (d.it.unit.kids.map aq),aW (d.it.old.map nK),aW (d.it.new.map nK),aV d.it.label,aV d.it.for_,iV d.it.start.kind,iV d.it.start.day,aV d.it.start.event,iV d.it.act,iV d.it.item,iV d.it.day,aV d.it.event,aW (d.it.by_.map NO)]];let q1:=[az [iV u.act,iV u.item,iV u.n,iV u.kind,aV u.label,aW (u.head.map aQ),aW (u.words.map aQ),aW (u.kids.map aq)]];let q2:=[az [iV 0,iV 0,iV 0,iV 0,aV [],ak,ak,ak]];let q3:=[iV id.a,iV id.i,iV id.n];let q4:=bQ (aT 126) [] [];let q5:=bQ (aT 127) [] [];let q6:=bQ (aT 128) [] [];let q7:=bQ (aT 129) [] [];let q8:=bQ (aT 130) [] [];let q9:=bQ (aT 131) [] [];let q10:=bQ (aT 132) [] [];let q11:=iV 0;let q12:=iV 1;let q13:=iV 2;let q14:=iV 3;let q15:=iV 4;let q16:=iV 5;let q17:=iV 6;exact bo Tryz.func54<|Mg 3<|M3 (.efx true (AV.map 3)<|av [aZ 8 false 0 q1,aZ 28 false 0 q,aZ 8 false 0 q2,AObj.map [AEnt.mk q11 q4 0,AEnt.mk q12 q5 1,AEnt.mk q13 q6 2,AEnt.mk q14 q7 3,AEnt.mk q15 q8 4,AEnt.mk q16 q9 5,AEnt.mk q17 q10 6] 7]) (kF rt rt rt ti) (kF (ax<|some<|aZ 8 false 0 q2) (ax<|some<|aZ 28 false 0 q) (ax<|some<|aZ 8 false 0 q1) ti) hr<|K1 2 (.look<|dg [bQ (aT g) [] [],dQ true]) hl<|Kp 9 hV<|Kp 6 hF<|Kp 10 hX<|Kv 8 (Gk ((Tryz.prog).underlying 26) id.a id.i id.n u.act u.item u.n<|av [aZ 8 false 0 q1,aZ 28 false 0 q,aZ 8 false 0 q2,AObj.map [AEnt.mk q11 q4 0,AEnt.mk q12 q5 1,AEnt.mk q13 q6 2,AEnt.mk q14 q7 3,AEnt.mk q15 q8 4,AEnt.mk q16 q9 5,AEnt.mk q17 q10 6] 7,aZ 3 false 0 [az q3],aZ 8 false 0 [az [iV x.act,iV x.item,iV x.n,iV x.kind,aV x.label,aW<|x.head.map aQ,aW<|x.words.map aQ,aW<|x.kids.map aq]]])<|Kt 0 (cS hi)<|Mt (cS hi)<|Mt (cS hi)<|Mt (cS hi)<|MV (cS hi)<|Kp 4 hD<|Kf 3<|bY<|dg [az [iV r.1.act,iV r.1.item,iV r.1.n,iV r.1.kind,aV r.1.label,aW<|r.1.head.map aQ,aW<|r.1.words.map aQ,aW<|r.1.kids.map aq],iV r.2]
theorem Sk(u x:TUnit)(d:PDeed)(g:Nat)(id:PId)(b:Bool)(r:pR)(hl:BV d g)(hV:kP 93 [eI d.it] (.bool true))(hF:kP 14 [eU u,.ls (d.it.at_.map aY)] (.tuple [aJ id,iV 0]))
    (hX:kP 21 [eU u,aJ id] (.tuple [eU x,.bool b]))(hi:(ae id.a u.act&&(ae id.i u.item&&ae id.n u.n))=true)(hk:ae d.it.kind 0=true)(hD:kP g [eU u,eU x,aK d] (eN r)):kP 54 [eU u,aK d] (eN r):=by
  have hr:=uL u d
  have hl:eD (some .nilf) true (bx false 1 [(0,1)] (iV d.it.kind) tU 0)=some (.tuple [.func (.func g) [] [],.bool true]):=hl
  let q:=[az [iV d.act,iV d.item,iV d.day,iV d.it.kind,aW (d.it.at_.map aY),aW (d.it.to.map aY),iV d.it.where_,iV d.it.nth_,iV d.it.unit.act,iV d.it.unit.item,iV d.it.unit.n,iV d.it.unit.kind,aV d.it.unit.label,aW (d.it.unit.head.map aQ),aW (d.it.unit.words.map aQ),aW (d.it.unit.kids.map aq),aW (d.it.old.map nK),aW (d.it.new.map nK),aV d.it.label,aV d.it.for_,iV d.it.start.kind,iV d.it.start.day,aV d.it.start.event,iV d.it.act,iV d.it.item,iV d.it.day,aV d.it.event,aW (d.it.by_.map NO)]];let q1:=[az [iV u.act,iV u.item,iV u.n,iV u.kind,aV u.label,aW (u.head.map aQ),aW (u.words.map aQ),aW (u.kids.map aq)]];let q2:=[az [iV 0,iV 0,iV 0,iV 0,aV [],ak,ak,ak]];let q3:=[iV id.a,iV id.i,iV id.n];let q4:=bQ (aT 126) [] [];let q5:=bQ (aT 127) [] [];let q6:=bQ (aT 128) [] [];let q7:=bQ (aT 129) [] [];let q8:=bQ (aT 130) [] [];let q9:=bQ (aT 131) [] [];let q10:=bQ (aT 132) [] [];let q11:=iV 0;let q12:=iV 1;let q13:=iV 2;let q14:=iV 3;let q15:=iV 4;let q16:=iV 5;let q17:=iV 6;exact bo Tryz.func54<|Mg 3<|M3 (.efx true (AV.map 3)<|av [aZ 8 false 0 q1,aZ 28 false 0 q,aZ 8 false 0 q2,AObj.map [AEnt.mk q11 q4 0,AEnt.mk q12 q5 1,AEnt.mk q13 q6 2,AEnt.mk q14 q7 3,AEnt.mk q15 q8 4,AEnt.mk q16 q9 5,AEnt.mk q17 q10 6] 7]) (kF rt rt rt ti) (kF (ax<|some<|aZ 8 false 0 q2) (ax<|some<|aZ 28 false 0 q) (ax<|some<|aZ 8 false 0 q1) ti) hr<|K1 2 (.look<|dg [bQ (aT g) [] [],dQ true]) hl<|Kp 9 hV<|Kp 6 hF<|Kp 10 hX<|Kv 8 (Gk ((Tryz.prog).underlying 26) id.a id.i id.n u.act u.item u.n<|av [aZ 8 false 0 q1,aZ 28 false 0 q,aZ 8 false 0 q2,AObj.map [AEnt.mk q11 q4 0,AEnt.mk q12 q5 1,AEnt.mk q13 q6 2,AEnt.mk q14 q7 3,AEnt.mk q15 q8 4,AEnt.mk q16 q9 5,AEnt.mk q17 q10 6] 7,aZ 3 false 0 [az q3],aZ 8 false 0 [az [iV x.act,iV x.item,iV x.n,iV x.kind,aV x.label,aW<|x.head.map aQ,aW<|x.words.map aQ,aW<|x.kids.map aq]]])<|Kh 0 (cF hi)<|Kh 0 (cF hi)<|Kh 0 (cF hi)<|Kh 0 (cF hi)<|Kw 0 (cF hi)<|Mt hk<|Kp 3 hD<|Kf 3<|bY<|dg [az [iV r.1.act,iV r.1.item,iV r.1.n,iV r.1.kind,aV r.1.label,aW<|r.1.head.map aQ,aW<|r.1.words.map aQ,aW<|r.1.kids.map aq],iV r.2]
theorem LW(u:TUnit)(d:Nat)(hd:d<=2^20)(h:sY u):kP 320 [eU u,nV d] (.str (gj u d)):=by
  grind[WH,WG]
noncomputable abbrev HO(ep n:Nat):AObj:=.row 1 false 0 [.slice 2 ep 0 n none]
noncomputable abbrev ED:AObj:=.row 1 false 0 [.func (.func 319) [] [.ptr 0 0 0 0,.ptr 1 0 0 0]]
noncomputable abbrev Fl(ep:Nat)(l:List bZ):AObj:=.row 1 true ep (l.map nK)
def s9(u:TUnit)(d:Nat)(l:List bZ)(x0:Nat×List TUnit×Nat×Nat×List bZ):Prop:=(u.kids).drop x0.1=x0.2.1/\x0.2.2.2.1=x0.2.2.2.2.length/\x0.2.2.2.2++c9 (d+(1:Nat)) x0.2.1=l++[gj u d]++c9 (d+(1:Nat)) u.kids/\x0.2.2.2.2.length+eJ x0.2.1<=2^20
noncomputable def s8(u:TUnit)(d:Nat)(l:List bZ)(x0:Nat×List TUnit×Nat×Nat×List bZ):List AV×List AObj:=([nV d,AV.ptr 1 0 0 0,AV.ls (u.kids.map aq),nV u.kids.length,nV x0.1],[AObj.row 1 false 0 [AV.slice 2 x0.2.2.1 0 x0.2.2.2.1 none],AObj.row 1 false 0 [AV.func (Fn.func 319) [] [AV.ptr 0 0 0 0,AV.ptr 1 0 0 0]],AObj.row 1 true x0.2.2.1 (x0.2.2.2.2.map nK)])
theorem YD:∀(u:TUnit)(d ep n:Nat)(l:List bZ),n=l.length->l.length+nU u<=2^20->d+nU u<=2^20->(∀x,x∈bB u->sY x)->kC 319 [eU u,nV d,.ptr 0 0 0 0,.ptr 1 0 0 0] (av [HO ep n,ED,Fl ep l])
    (fun v h=>∃y:Nat×Nat×List bZ,(y.2.1=y.2.2.length/\y.2.2=l++eY d u)/\v=.tuple []/\h=av [HO y.1 y.2.1,ED,Fl y.1 y.2.2]):=by
  refine TUnit.ind fun u ih d ep n l hn hl hd ht=>?_
  have hq:=jk u
  have hkl:=bf u
  have hf:=LW u d (by omega) (ht u (dh u))
  have ihk:∀k,k∈u.kids->∀(d ep n:Nat)(l:List bZ),n=l.length->l.length+nU k<=2^20->d+nU k<=2^20->kC 319 [eU k,nV d,.ptr 0 0 0 0,.ptr 1 0 0 0] (av [HO ep n,ED,Fl ep l])
    (fun v h=>∃y:Nat×Nat×List bZ,(y.2.1=y.2.2.length/\y.2.2=l++eY d k)/\v=.tuple []/\h=av [HO y.1 y.2.1,ED,Fl y.1 y.2.2]):=fun k hk d ep n l a b c=>ih k hk d ep n l a b c (fun x hx=>ht x (bM hk hx))
  exact qx Tryz.func319 fun e=>Kp 3 hf<|Mg 0<|Mw (.apx ((l++[gj u d]).map nK)<|.go 3<|.le 16 (nV u.kids.length)<|.go 0<|.frz 3 [1,3,15,16,17]<|.loop (Nat×List TUnit×Nat×Nat×List bZ) [1,3,15,16,17] (s8 u d l) (s9 u d l) (fun e=>e.2.1.length) (0,u.kids,(ep+1,n+1,l++[gj u d])) fun e=>.cs TUnit e.2.1 (.go 0<|.ff .fin) fun f _=>.go 0<|.tt<|.elem (eU f)<|.go 6<|.le 24 (nV<|d+1)<|.frz 3 [1,3,15,16,17,21,22,24]<|.eff (Nat×Nat×List bZ) (fun _=>dg []) (fun e=>av [HO e.1 e.2.1,ED,Fl e.1 e.2.2]) (fun g=>g.2.1=g.2.2.length/\g.2.2=e.2.2.2.2++eY (d+1) f) fun _=>.go 0<|.le 26 (nV<|e.1+1)<|.go 0 .fin)<|X5 rt (ip (tR 1 true ep 4<|aX Ji l) rt) (et (ja _ _:([aV (gj u d)]:List AV)≠[]) rt) (et (ch (ax ep) (by first|assumption|omega|simp_all|(refine aM (m:=2^31) ?_ ?_ ?_<;>(try simp only[lM,lC,lN])<;>omega):n=(l.map nK).length) (by first|assumption|omega|(simp only[lM];omega)|(refine aM (m:=2^31) ?_ ?_ ?_<;>(try simp only[lM,lC,lN])<;>omega):small (n+([AV.str (gj u d)]).length) 16=true))<|dJ (f:=nK) (l:=l) (ws:=[gj u d])) (ln aq u.kids) (kF (tR 1 true (ep+1) 3<|aX Ji<|l++[gj u d]) rt rt ti) (ax<|s8 u d l (0,u.kids,(ep+1,n+1,l++[gj u d]))) (et (rfl:List.drop 0 (u.kids)=u.kids) (by first|rfl|(first|grind|(have h1:=hj0.2.1;have h2:=hj0.2.2;rw[be]at h2;rw[mh]at h1;exact⟨hy1.1,(by rw[hy1.2,<-h1];simp),(by rw[hy1.2,lA,lY];omega)⟩)):(n+1=(l++[gj u d]).length/\l++[gj u d]++c9 (d+1) u.kids=l++[gj u d]++c9 (d+1) u.kids/\(l++[gj u d]).length+eJ u.kids<=2^20))) fun(f:Nat×List TUnit×Nat×Nat×List bZ)(g:(s9 u d l) f)=>et (fun(i:f.2.1=[])=>have j:=fN g.1 i;have:=ie (J:=fun e f=>f.2.1=f.2.2.length/\f.2.2++c9 (d+1) e=l++[gj u d]++c9 (d+1) u.kids/\f.2.2.length+eJ e<=2^20) (a:=f.2.2) i g.2;et j<|e (f.2.2.1,f.2.2.2.1,f.2.2.2.2)<|by first|grind[wT,CE]|rfl) fun(e:TUnit)(i:List TUnit)(j:f.2.1=e::i)=>have o:=fT g.1 j;have:=aA o;have p:=(fL (enc:=aq) g.1 j).trans<|congrArg some<|aR e;have:=cb (J:=fun e f=>f.2.1=f.2.2.length/\f.2.2++c9 (d+1) e=l++[gj u d]++c9 (d+1) u.kids/\f.2.2.length+eJ e<=2^20) (a:=f.2.2) j g.2;have q:=aI g.1 j;have r:f.2.2.2.2.length+nU e<=2^20:=(by grind[be]);have s:d+1+nU e<=2^20:=(by have:=iL q;omega);wK o p (iF d) (kF (tR 1 true f.2.2.1 3<|aX Ji f.2.2.2.2) rt rt ti) (ihk e q (d+1) f.2.2.1 f.2.2.2.1 f.2.2.2.2 (by first|assumption|omega|(simp only[lM];omega)|(refine aM (m:=2^31) ?_ ?_ ?_<;>(try simp only[lM,lC,lN])<;>omega)) r s) fun(o:Nat×Nat×List bZ)(_:o.2.1=o.2.2.length/\o.2.2=f.2.2.2.2++eY (d+1) e)=>et (iF f.1)<|Nx.mk (I:=s9 u d l) (m:=fun e=>e.2.1.length) (S:=s8 u d l) (x:=f) (f.1+1,i,(o.1,o.2.1,o.2.2)) (et (bH g.1 j) (by first|exact⟨by simp[hn],rfl,by simp;omega⟩|grind[be,mh,lY]:(o.2.1=o.2.2.length/\o.2.2++c9 (d+1) i=l++[gj u d]++c9 (d+1) u.kids/\o.2.2.length+eJ i<=2^20)))<|fZ j
theorem YE(u:TUnit)(d:Nat)(hl:nU u<=2^19)(hd:d+nU u<=2^20)(ht:∀x,x∈bB u->sY x):kC 319 [eU u,nV d,.ptr 0 0 0 0,.ptr 1 0 0 0] (av [.row 1 false 0 [.nils],ED])
    (fun v h=>∃y:Nat×Nat×List bZ,(y.2.1=y.2.2.length/\y.2.2=eY d u)/\v=.tuple []/\h=av [HO y.1 y.2.1,ED,Fl y.1 y.2.2]):=by
  have hq:=jk u
  have hkl:=bf u
  have hf:=LW u d (by omega) (ht u (dh u))
  have ihk:∀k,k∈u.kids->∀(d ep n:Nat)(l:List bZ),n=l.length->l.length+nU k<=2^20->d+nU k<=2^20->kC 319 [eU k,nV d,.ptr 0 0 0 0,.ptr 1 0 0 0] (av [HO ep n,ED,Fl ep l])
    (fun v h=>∃y:Nat×Nat×List bZ,(y.2.1=y.2.2.length/\y.2.2=l++eY d k)/\v=.tuple []/\h=av [HO y.1 y.2.1,ED,Fl y.1 y.2.2]):=fun k hk d ep n l a b c=>YD k d ep n l a b c (fun x hx=>ht x (bM hk hx))
  exact qx Tryz.func319 fun e=>Kp 3 hf<|Kl 5 16 (ln aq u.kids)<|Mg 0<|M0 (.ren [0,1,3,2] [] [1,3,15,16,17])<|M1 (.frz 3 [1,3,15,16,17]) (kF rt rt rt ti)<|Su aq u.kids (0:Nat) (1:Nat) ([gj u d]:List bZ) [1,3,15,16,17] (fun e _ f g i=>([nV d,au 1 0 0 0,aW<|u.kids.map aq,nV u.kids.length,nV e],[aZ 1 false 0 [aD 2 f 0 g none],aZ 1 false 0 [bQ (aT 319) [] [au 0 0 0 0,au 1 0 0 0]],aZ 1 true f<|i.map nK])) (fun e _ f g=>f=g.length/\g++c9 (d+1) e=[gj u d]++c9 (d+1) u.kids/\g.length+eJ e<=2^20) (by first|rfl|(first|grind|(have h1:=hj0.2.1;have h2:=hj0.2.2;rw[be]at h2;rw[mh]at h1;exact⟨hy1.1,(by rw[hy1.2,<-h1];simp),(by rw[hy1.2,lA,lY];omega)⟩))) (fun _ _ f g i _ _ _ j _=>Kh 0 j<|Mf<|e (f,g,i)<|by first|grind[wT,CE]|rfl) fun e _ f g i j m o p q r s _ t _=>have t:=(t).trans<|congrArg some<|aR o;have:=cb (J:=fun e f=>f.2.1=f.2.2.length/\f.2.2++c9 (d+1) e=[gj u d]++c9 (d+1) u.kids/\f.2.2.length+eJ e<=2^20) (a:=(f,g,i)) r m;have j:=aI j r;have m:i.length+nU o<=2^20:=(by grind[be]);have r:d+1+nU o<=2^20:=(by have:=iL j;omega);Kt 0 s<|Mx t<|Kl 6 24 (iF d)<|M1 (.frz 3 [1,3,15,16,17,21,22,24]) (kF (tR 1 true f 3<|aX Ji i) rt rt ti)<|Mq (ihk o j (d+1) f g i (by first|assumption|omega) m r) fun f _=>Kl 0 26 (iF e)<|Kf 0<|q f.1 f.2.1 f.2.2<|by first|exact⟨by simp[hl],rfl,by simp;omega⟩|grind[be,mh,lY]
theorem WF(u:TUnit)(h:mI u)(hv:lZ (cL u)=false):kP 287 [eU u] (.ls (([]:List bZ).map nK)):=by
  have h1:=Ds u h
  have h2:=xT (cL u) (sr h)
  exact bo Tryz.func287<|Kp 2 h1<|Mp h2<|Kt 0 (cS hv)<|Kf 0 bA
theorem WE(u:TUnit)(h:mI u)(hv:lZ (cL u)=true):kP 287 [eU u] (.ls ((eY 0 u).map nK)):=by
  have h1:=Ds u h
  have h2:=xT (cL u) (sr h)
  have h3:=YE u 0 h.1 (by have:=h.1;omega) h.2
  have rr0 b' (h:((eY 0 u).map nK)=b':=by first|rfl|(rw[hy0.2])):=h;exact bo Tryz.func287<|Kp 2 h1<|Mp h2<|Kh 0 (cF hv)<|Mg 5<|M0 (.ren [1,2,0] [] [3,10,11])<|M1 (.frz 2 [3,10,11]) (ch rt rt ti)<|Mq h3 fun a hy0=>Mg 1<|M2 (.fsl 0 [] 2<|a.2.2.map nK) ti (ch (ax a.1) (tA nK a.2.2 a.2.1 (by first|assumption|omega:(a.2.2).length=a.2.1))<|aX Ji a.2.2)<|Ml 2 (fY (a.2.2.map nK) false<|aX Ji a.2.2)<|Mf<|cn<|rr0<|a.2.2.map nK
theorem Y1(u:TUnit)(h:mI u)(hv:lZ (cL u)=false):kP 254 [eU u] (.tuple [.str (xI u).1,iV (xI u).2]):=by
  have h1:=WF u h hv
  have e:xI u=([],1):=by unfold xI;simp_all
  rw[e]
  exact bo Tryz.func254<|Kp 3 h1<|Kf 6<|bY<|dg [aV [],iV 1]
theorem Y0(u:TUnit)(h:mI u)(hv:lZ (cL u)=true):kP 254 [eU u] (.tuple [.str (xI u).1,iV (xI u).2]):=by
  have h1:=WE u h hv
  have hlen:=lY 0 u
  have hq:=jk u
  have hm:=h.1
  have hjl:=Qw (sep:=[10]) (B:=2^14) (l:=eY 0 u) (fun s hs=>zT 0 u s hs)
  rw[hlen]at hjl
  have hj2:(Lib.join (eY 0 u) [10]).length<=140737488355328:=bO hjl (bO (eB _ hm) (by grind))
  have hj3:(Lib.join (eY 0 u) [10]).length<=2^40:=bO hjl (bO (eB _ hm) (by grind))
  have hj:=Lk (eY 0 u) [10] (by omega) hj2
  have hz:ae (.ofNat (eY 0 u).length) 0=false:=by grind[Rc]
  have e:xI u=(bif aB 16384 (.ofNat (Lib.join (eY 0 u) [10]++[10]).length)then([],6)else(Lib.join (eY 0 u) [10]++[10],0)):=by unfold xI;simp_all
  rw[e]
  clear e
  generalize Lib.join (eY 0 u) [10]=J at *
  cases hb:aB 16384 (.ofNat (J++[10]).length)
  · have hb2:aB 16384 (.ofNat (J++[10]).length)=false:=hb
    exact bo Tryz.func254<|Kp 3 h1<|Kl 2 9 (ln nK<|eY 0 u)<|Kh 0 hz<|Kp 0 hj<|Mv (jq (s:=J) (u:=[10]) (H:=av [aZ 8 false 0 [az [iV u.act,iV u.item,iV u.n,iV u.kind,aV u.label,aW<|u.head.map aQ,aW<|u.words.map aQ,aW<|u.kids.map aq]]]) (by(first|first|assumption|grind|omega|(simp only[lA,lC,lN]at *;omega)):(J).length+([10]).length<=2^62))<|Kh 3 hb<|Kf 2<|bY<|dg [aV<|J++[10],iV 0]
  · have hb2:aB 16384 (.ofNat (J++[10]).length)=true:=hb
    exact bo Tryz.func254<|Kp 3 h1<|Kl 2 9 (ln nK<|eY 0 u)<|Kh 0 hz<|Kp 0 hj<|Mv (jq (s:=J) (u:=[10]) (H:=av [aZ 8 false 0 [az [iV u.act,iV u.item,iV u.n,iV u.kind,aV u.label,aW<|u.head.map aQ,aW<|u.words.map aQ,aW<|u.kids.map aq]]]) (by(first|first|assumption|grind|omega|(simp only[lA,lC,lN]at *;omega)):(J).length+([10]).length<=2^62))<|Kt 3 hb<|Kf 1<|bY<|dg [aV [],iV 6]
theorem Xz(u:TUnit)(h:mI u):kP 254 [eU u] (.tuple [.str (xI u).1,iV (xI u).2]):=by
  grind[Y1,Y0]
def WS(u:TUnit):Bool:=HS u&&(aw (ae u.kind 0)&&ae (xI u).2 0)
theorem WR(u:TUnit)(h:mI u):kP 190 [eU u] (.bool (WS u)):=by
  have q1:=Xz u h
  have q2:=XL u h
  have rr0 b' (h:(WS u)=b':=by first|rfl|(unfold WS;rw[h0];rfl)|(unfold WS;rw[h0,h1];rfl)|(unfold WS;rw[h0,h1,h2];rfl)):=h;exact bo Tryz.func190<|Kp 2 q1<|Kp 5 q2<|Kb 0 (HS u) (fun h0=>Kt 0 h0<|Kt 0 h0<|Ku 0 h0<|Kn 0 (ae u.kind 0) (fun h1=>Kt 0 (cS h1)<|Ku 0 (cS h1)<|Kf 0<|ct<|rr0<|ae (xI u).2 0) fun h1=>Mh (cF h1)<|My (cF h1)<|Ky 0<|rr0 false) fun h0=>Mh h0<|Mh h0<|My h0<|Ky 2<|rr0 false
def ta(x:PItem):Prop:=nc x/\(x.at_.length<2^40/\∀s,s∈x.at_->s.label.length<=2^39)/\(x.to.length<2^40/\∀s,s∈x.to->s.label.length<=2^39)/\(x.old.length<2^40/\∀s,s∈x.old->s.length<=2^39)/\(x.new.length<2^40/\∀s,s∈x.new->s.length<=2^39)/\x.label.length<=2^39/\x.for_.length<=2^39/\x.start.event.length<=2^39/\mI x.unit
def Ak(x:PItem):Prop:=(x.kind=0\/x.kind=6->iG x.where_=true)/\(x.kind=0->WS x.unit=true)/\(x.kind=2\/x.kind=3->qi x.old=true/\Br x.nth_=true)/\(x.kind=2\/x.kind=3\/x.kind=4->qi x.new=true)
theorem qg{l:List bZ}{n:Int}(h:qh l n=true):qi l=true:=by
  simp_all[qh]
theorem V5(x:PItem)(hx:ta x)(h0:0<=x.kind)(h6:x.kind<=6):∃b,kP 93 [eI x] (.bool b)/\(b=true->Ak x):=by
  obtain⟨k,a,t,w,n,u,o,ne,l,f,s,ac,im,d,e,bs⟩:=x
  obtain⟨hf,⟨ha,has⟩,⟨ht,hts⟩,⟨ho,hos⟩,⟨hn,hns⟩,hl,hfo,hse,hu⟩:=hx
  have hz:tK bd:=⟨by grind,by grind,by grind,trivial⟩
  have n0:(0:Nat)<2^60:=by omega
  obtain⟨f1,f2,f3,f4,f5,f6,f7⟩:=hf
  have hff:∀k w n,nc ⟨k,a,t,w,n,u,o,ne,l,f,s,ac,im,d,e,bs⟩:=fun _ _ _=>⟨f1,f2,f3,f4,f5,f6,f7⟩
  have h0:0<=k:=h0
  have h6:k<=6:=h6
  have hk:k=0\/k=1\/k=2\/k=3\/k=4\/k=5\/k=6:=by omega
  rcases hk with rfl|rfl|rfl|rfl|rfl|rfl|rfl
  · refine⟨_,o4 ⟨0,a,t,w,n,u,o,ne,l,f,s,ac,im,d,e,bs⟩ (oQ ⟨0,a,t,w,n,u,o,ne,l,f,s,ac,im,d,e,bs⟩ 0) 187 188 _ _ rfl rfl (U5 _) (tX _ (hff _ _ _) (xU ⟨0,a,t,w,n,u,o,ne,l,f,s,ac,im,d,e,bs⟩ (oQ ⟨0,a,t,w,n,u,o,ne,l,f,s,ac,im,d,e,bs⟩ 0)) ⟨f1,n0,n0,n0,n0,f6,trivial⟩) (T4 a t w n u o ne l f s ac im d e bs (WS u) (WR u hu)) ha has hfo hse,fun h=>?_⟩
    simp only[bj]at h
    exact⟨fun _=>h.2.2.2.2.1,fun _=>h.2.2.2.2.2,fun q=>(by rcases q with q|q<;>cases q),fun q=>(by rcases q with q|q|q<;>cases q)⟩
  · refine⟨_,o4 ⟨1,a,t,w,n,u,o,ne,l,f,s,ac,im,d,e,bs⟩ (oQ ⟨1,a,t,w,n,u,o,ne,l,f,s,ac,im,d,e,bs⟩ 1) 191 192 _ _ rfl rfl (U4 _) (tX _ (hff _ _ _) (xU ⟨1,a,t,w,n,u,o,ne,l,f,s,ac,im,d,e,bs⟩ (oQ ⟨1,a,t,w,n,u,o,ne,l,f,s,ac,im,d,e,bs⟩ 1)) ⟨f1,n0,n0,n0,n0,hz,trivial⟩) (T3 a t w n u o ne l f s ac im d e bs) ha has hfo hse,fun h=>?_⟩
    exact⟨fun q=>(by rcases q with q|q<;>cases q),fun q=>(by cases q),fun q=>(by rcases q with q|q<;>cases q),fun q=>(by rcases q with q|q|q<;>cases q)⟩
  · refine⟨_,o4 ⟨2,a,t,w,n,u,o,ne,l,f,s,ac,im,d,e,bs⟩ (oQ ⟨2,a,t,w,n,u,o,ne,l,f,s,ac,im,d,e,bs⟩ 2) 193 194 _ _ rfl rfl (U3 _) (tX _ (hff _ _ _) (xU ⟨2,a,t,w,n,u,o,ne,l,f,s,ac,im,d,e,bs⟩ (oQ ⟨2,a,t,w,n,u,o,ne,l,f,s,ac,im,d,e,bs⟩ 2)) ⟨f1,n0,f3,f4,n0,hz,trivial⟩) (T2 a t w n u o ne l f s ac im d e bs ho hn hos hns) ha has hfo hse,fun h=>?_⟩
    simp only[bj]at h
    exact⟨fun q=>(by rcases q with q|q<;>cases q),fun q=>(by cases q),fun _=>⟨qg h.2.2.2.2.1,h.2.2.2.2.2.2⟩,fun _=>qg h.2.2.2.2.2.1⟩
  · refine⟨_,o4 ⟨3,a,t,w,n,u,o,ne,l,f,s,ac,im,d,e,bs⟩ (oQ ⟨3,a,t,w,n,u,o,ne,l,f,s,ac,im,d,e,bs⟩ 3) 197 198 _ _ rfl rfl (U2 _) (tX _ (hff _ _ _) (xU ⟨3,a,t,w,n,u,o,ne,l,f,s,ac,im,d,e,bs⟩ (oQ ⟨3,a,t,w,n,u,o,ne,l,f,s,ac,im,d,e,bs⟩ 3)) ⟨f1,n0,f3,f4,n0,hz,trivial⟩) (T1 a t w n u o ne l f s ac im d e bs ho hn hos hns) ha has hfo hse,fun h=>?_⟩
    simp only[bj]at h
    exact⟨fun q=>(by rcases q with q|q<;>cases q),fun q=>(by cases q),fun _=>⟨qg h.2.2.2.2.1,h.2.2.2.2.2.2.1⟩,fun _=>qg h.2.2.2.2.2.1⟩
  · refine⟨_,o4 ⟨4,a,t,w,n,u,o,ne,l,f,s,ac,im,d,e,bs⟩ (oQ ⟨4,a,t,w,n,u,o,ne,l,f,s,ac,im,d,e,bs⟩ 4) 199 200 _ _ rfl rfl (U1 _) (tX _ (hff _ _ _) (xU ⟨4,a,t,w,n,u,o,ne,l,f,s,ac,im,d,e,bs⟩ (oQ ⟨4,a,t,w,n,u,o,ne,l,f,s,ac,im,d,e,bs⟩ 4)) ⟨f1,n0,n0,f4,n0,hz,trivial⟩) (T0 a t w n u o ne l f s ac im d e bs hn hns) ha has hfo hse,fun h=>?_⟩
    simp only[bj]at h
    exact⟨fun q=>(by rcases q with q|q<;>cases q),fun q=>(by cases q),fun q=>(by rcases q with q|q<;>cases q),fun _=>qg h.2.2.2.2⟩
  · refine⟨_,o4 ⟨5,a,t,w,n,u,o,ne,l,f,s,ac,im,d,e,bs⟩ (oQ ⟨5,a,t,w,n,u,o,ne,l,f,s,ac,im,d,e,bs⟩ 5) 201 202 _ _ rfl rfl (U0 _) (tX _ (hff _ _ _) (xU ⟨5,a,t,w,n,u,o,ne,l,f,s,ac,im,d,e,bs⟩ (oQ ⟨5,a,t,w,n,u,o,ne,l,f,s,ac,im,d,e,bs⟩ 5)) ⟨f1,n0,n0,n0,n0,hz,trivial⟩) (TT a t w n u o ne l f s ac im d e bs hl) ha has hfo hse,fun h=>?_⟩
    exact⟨fun q=>(by rcases q with q|q<;>cases q),fun q=>(by cases q),fun q=>(by rcases q with q|q<;>cases q),fun q=>(by rcases q with q|q|q<;>cases q)⟩
  · refine⟨_,o4 ⟨6,a,t,w,n,u,o,ne,l,f,s,ac,im,d,e,bs⟩ (oQ ⟨6,a,t,w,n,u,o,ne,l,f,s,ac,im,d,e,bs⟩ 6) 203 204 _ _ rfl rfl (UT _) (tX _ (hff _ _ _) (xU ⟨6,a,t,w,n,u,o,ne,l,f,s,ac,im,d,e,bs⟩ (oQ ⟨6,a,t,w,n,u,o,ne,l,f,s,ac,im,d,e,bs⟩ 6)) ⟨f1,f2,n0,n0,n0,hz,trivial⟩) (TS a t w n u o ne l f s ac im d e bs ht hts) ha has hfo hse,fun h=>?_⟩
    simp only[bj]at h
    exact⟨fun _=>h.2.2.2.2.1,fun q=>(by cases q),fun q=>(by rcases q with q|q<;>cases q),fun q=>(by rcases q with q|q|q<;>cases q)⟩
theorem wP{u:TUnit}(h:OkB u):∀x,x∈bB u->x.head.length<2^30/\x.words.length<2^30:=fun x hx=>⟨nl (h.w x hx).1 (by omega),nl (h.w x hx).2 (by omega)⟩
theorem DP(p:PId)(u:TUnit)(hn:nU u<=1024): -1<=qp p u/\qp p u<=2^20:=by
  cases h:iY p u with
  |false=>rw[Pu h];omega
  | true=>
    obtain⟨q,i,h1,_,h3,h4,_⟩:=vG u h
    have:=dT h1
    grind[bf]
theorem yw(w:Int)(u:TUnit)(p:PId)(hn:nU u<=1024): -1<=(dc w u p).1.at_/\(dc w u p).1.at_<=2^41:=by
  have hb:=DP p u hn
  have key:∀n:Int,0<=n->n<=1-> -1<=(nO u p n).1.at_/\(nO u p n).1.at_<=2^41:=fun n h0 h1=>by
    unfold nO
    cases iY p u
    · exact⟨by show(-1:Int)<=0;omega,by show(0:Int)<=_;omega⟩
    grind
  unfold dc
  cases ae w 0
  · cases ae w 1
    · grind
    · show -1<=Int.ofNat _/\Int.ofNat _<=2^41
      have:(ee p u).kids.length<=1024:=by
        cases h:cK p u with
        | true=>
          have:=dT (vE h).1
          grind[bf]
        |false=>unfold ee;rw[h];exact bD _
      grind
  simp_all
theorem wJ{u:TUnit}(hu:OkB u)(p:PId):kP 21 [eU u,aJ p] (.tuple [eU (ee p u),.bool (cK p u)]):=RX p u (bO hu.n (by omega)) (wP hu)
theorem kz{u:TUnit}(hu:OkB u)(p:PId):kP 184 [eU u,aJ p] (.tuple [aJ (sM p u),iV (qp p u),.bool (iY p u)]):=Pr p u (bO hu.n (by omega))
theorem uz{u:TUnit}(hu:OkB u)(p:List PStep)(hp:p.length<2^40/\∀s,s∈p->s.label.length<=2^39):kP 14 [eU u,.ls (p.map aY)] (.tuple [aJ (ab u p).1,iV (ab u p).2]):=
  NB u p (Ll u p (bO hu.n (by omega)) hp.1 hp.2) (bO hu.n (by omega))
theorem LU{u:TUnit}(hu:OkB u)(p:PId):kP 308 [eU u,aJ p] (.tuple [fe (dc 0 u p).1,iV (dc 0 u p).2]):=Qx u _ p _ (wJ hu p)
theorem LY{u:TUnit}(hu:OkB u)(p:PId):kP 311 [eU u,aJ p] (.tuple [fe (dc 1 u p).1,iV (dc 1 u p).2]):=Qz u _ p _ (wJ hu p)
theorem LV{u:TUnit}(hu:OkB u)(p:PId):kP 313 [eU u,aJ p] (.tuple [fe (dc 2 u p).1,iV (dc 2 u p).2]):=Qq u p _ _ _ (kz hu p) (by have:=DP p u hu.n;omega)
theorem LK{u:TUnit}(hu:OkB u)(p:PId):kP 315 [eU u,aJ p] (.tuple [fe (dc 3 u p).1,iV (dc 3 u p).2]):=QU u p _ _ _ (kz hu p) (by have:=DP p u hu.n;omega)
theorem wo{w:Int}(h:iG w=true):w=0\/w=1\/w=2\/w=3:=by
  unfold iG at h
  rw[bj]at h
  have h1:=gE h.1
  have h2:=gE h.2
  omega
theorem Tl{u:TUnit}(hu:OkB u)(p:List PStep)(hp:p.length<2^40/\∀s,s∈p->s.label.length<=2^39)(w:Int)(hw:iG w=true):kP 234 [eU u,.ls (p.map aY),iV w]
    (.tuple [aJ (Ca (ab u p).2 (dc w u (ab u p).1).1 (dc w u (ab u p).1).2).1.id,iV (Ca (ab u p).2 (dc w u (ab u p).1).1 (dc w u (ab u p).1).2).1.at_,iV (Ca (ab u p).2 (dc w u (ab u p).1).1 (dc w u (ab u p).1).2).2]):=by
  rcases wo hw with rfl|rfl|rfl|rfl
  · exact rg 0 _ rfl rfl u p _ _ _ _ (uz hu p hp) (LU hu _)
  · exact rg 1 _ rfl rfl u p _ _ _ _ (uz hu p hp) (LY hu _)
  · exact rg 2 _ rfl rfl u p _ _ _ _ (uz hu p hp) (LV hu _)
  · exact rg 3 _ rfl rfl u p _ _ _ _ (uz hu p hp) (LK hu _)
theorem XK{u:TUnit}(hu:OkB u)(p q:PId)(w:Int)(hw:iG w=true):∃bs,kP 236 [eU u,aJ p,aJ q,iV w]
    (.tuple [fe (n9 p q (sM p u) (qp p u) (iY p u) ((pP q u).any (bK p)) bs (dc w u q).1 (dc w u q).2).1,iV (n9 p q (sM p u) (qp p u) (iY p u) ((pP q u).any (bK p)) bs (dc w u q).1 (dc w u q).2).2]):=by
  have hb:=DP p u hu.n
  have hb: -1<=qp p u/\qp p u<=2^40:=by omega
  have hn:nU u<=2^20:=bO hu.n (by omega)
  have hal:(pP q u).length<2^40:=by
    grind[me,pP]
  have hC:=LM (pP q u) p hal
  rcases wo hw with rfl|rfl|rfl|rfl
  · exact⟨_,G2 0 _ rfl rfl rfl u p q _ _ _ _ _ _ _ hb (yw 0 u q hu.n) (kz hu p) (H5 q u hn) hC (LU hu q)⟩
  · exact⟨_,G2 1 _ rfl rfl rfl u p q _ _ _ _ _ _ _ hb (yw 1 u q hu.n) (kz hu p) (H5 q u hn) hC (LY hu q)⟩
  · exact⟨_,QM u p q _ _ _ _ _ _ _ hb (yw 2 u q hu.n) (kz hu p) (H5 q u hn) hC (LV hu q)⟩
  · exact⟨_,QL u p q _ _ _ _ _ _ _ hb (yw 3 u q hu.n) (kz hu p) (H5 q u hn) hC (LK hu q)⟩
theorem HJ{B:Nat}:∀{l:List TUnit},(∀x,x∈l->(nr x).length<=B)->(l.flatMap nr).length<=B*l.length
  |[],_=>bD _
  | x::r,h=>by
    have h1:=h x e9
    have h2:=HJ (l:=r) fun y hy=>h y (fQ _ hy)
    rw[E9,lA,lC,Nat.mul_succ];omega
theorem O2{u:TUnit}(h:mI u):(ny u).length<=2^29:=by
  rw[Si]
  have h1:∀x,x∈bB u->(nr x).length<=600:=fun x hx=>by
    obtain⟨a,b,_⟩:=h.2 x hx
    unfold nr;rw[lA];omega
  have h2:=HJ h1
  have h3:(bB u).length=nU u:=by rw[mw];unfold dx;rw[lM]
  rw[h3]at h2
  have:=h.1
  omega
theorem Yd{e:Int}{sp:PSpot}{e2:Int}(h:(Ca e sp e2).2=0):e=0/\e2=0/\(Ca e sp e2).1=sp:=by
  unfold Ca at h ⊢
  cases h1:ae e 0 with
  |false=>rw[h1]at h;rw[show e=0 from h]at h1;cases h1
  | true=>
    rw[h1]at h
    cases h2:ae e2 0 with
    |false=>rw[h2]at h;rw[show e2=0 from h]at h2;cases h2
    |true=>exact⟨iR h1,iR h2,rfl⟩
theorem UY{u u2:TUnit}{te:Int}{full cf:Bool}:(Nl u te full cf u2).1=u\/(full=false/\cf=false/\(Nl u te full cf u2).1=u2):=by
  unfold Nl;cases ae te 0<;>cases full<;>cases cf<;>first|exact .inl rfl|exact .inr ⟨rfl,rfl,rfl⟩
def Bk(u:TUnit)(d:PDeed)(v:TUnit):Prop:=OkB v/\Rt u v
theorem Bk.refl{u:TUnit}(hu:OkB u){d:PDeed}:Bk u d u:=⟨hu,rfl⟩
theorem VH{u:TUnit}(hu:OkB u)(f:TUnit)(d:PDeed)(hd:ta d.it)(hg:Ak d.it)(hk:d.it.kind=0):∃r:pR,kP 126 [eU u,eU f,aK d] (eN r)/\Bk u d r.1:=by
  have hw:=hg.1 (.inl hk)
  have hD:=Rm u d.it _ _ _ (by rw[hk];rfl) (Tl hu d.it.at_ hd.2.1 d.it.where_ hw)
  cases he:ae (Ca (ab u d.it.at_).2 (dc d.it.where_ u (ab u d.it.at_).1).1 (dc d.it.where_ u (ab u d.it.at_).1).2).2 0 with
  |false=>exact⟨(u,_),Uq u f d _ _ _ he hD,.refl hu⟩
  | true=>
    have e0:=iR he
    obtain⟨e1,e2,e3⟩:=Yd e0
    obtain⟨n,n1,n2,n3⟩:=Gl hu (rQ e1) e2
    rw[e0,e3,n1]at hD
    have ht:=hd.2.2.2.2.2.2.2.2
    have hS:=O9 d.act d.item d.it.unit (bO ht.1 (by decide)) (O2 ht) (fun x hx=>⟨bO (ht.2 x hx).1 (by decide),bO (ht.2 x hx).2.1 (by decide)⟩)
    have hsn:=PQ d.act d.item d.it.unit 0 0
    have hsi:=vg d.act d.item d.it.unit 0 0
    have hsw:=KW d.act d.item 300 d.it.unit 0 0 (fun x hx=>⟨(ht.2 x hx).1,(ht.2 x hx).2.1⟩)
    generalize cP d.act d.item d.it.unit 0 0=X at *
    have hn:=hu.n
    have hm:=ht.1
    have hX:nU X<=2^19:=by omega
    have hkp:(ee (dc d.it.where_ u (ab u d.it.at_).1).1.id u).kids.length<2^40:=by
      cases h:cK (dc d.it.where_ u (ab u d.it.at_).1).1.id u with
      |true=>have:=dT (vE h).1;have:=bf (ee (dc d.it.where_ u (ab u d.it.at_).1).1.id u);omega
      |false=>unfold ee;rw[h];exact nl (bD 0) (by decide)
    have hiu:(dx u).length<2^40:=by rw[<-mw];omega
    have hix:(dx X).length<2^40:=by rw[<-mw];omega
    refine⟨_,UW u f _ X _ d _ n (nU u) (nU X) _ _ _ _ (dx u) (dx X) (by omega) (by omega) hD (wJ hu _) hS (yN _ X hkp) (LC u X _ (by omega) (by omega)) (Eo u (by omega)) (Eo X (by omega)) (QB u (by omega)) (QB X (by omega)) (cfX (dx X) (dx u) hiu hix) (OC _ n X u (by omega) (wP hu) n3),?_⟩
    rcases UY (u:=u) (u2:=dZ (dc d.it.where_ u (ab u d.it.at_).1).1.id (dD n X) u) (te:=yO (ee (dc d.it.where_ u (ab u d.it.at_).1).1.id u) X) (full:=aw (aB (Int.ofNat (ee (dc d.it.where_ u (ab u d.it.at_).1).1.id u).kids.length) 64)||(RC u (dc d.it.where_ u (ab u d.it.at_).1).1.id X||aB 1024 (Int.ofNat (nU u+nU X)))) (cf:=(dx X).any fun i=>(dx u).any (bK i))with q|⟨q1,q2,q3⟩
    · rw[q];exact .refl hu
    · rw[q3]
      rw[BO,BO]at q1
      have q4:=aE q1.2.2
      simp only[oN]at q4
      refine⟨hu.ins (by rw[hsi];exact PX _ _ _ _) (fun p hp hq=>?_) (by omega) hsw,KB (f:=dD n X) (fun _=>rfl) u⟩
      rw[List.any_eq_false]at q2
      have:=q2 p hp
      exact this (List.any_eq_true.2 ⟨p,hq,lz p⟩)
theorem Vs{u:TUnit}(hu:OkB u){p:PId}(hp:iY p u=true):∃q i,q∈bB u/\sM p u=bw q/\qp p u=Int.ofNat i/\i<q.kids.length/\bw (gD q.kids i)=p/\kP 177 [eU u,aJ p] (eU (dZ (bw q) (gI i) u)):=by
  obtain⟨q,i,h1,h2,h3,h4,h5⟩:=vG u hp
  have hP:=kz hu p
  rw[h2,h3,hp]at hP
  exact⟨q,i,h1,h2,h3,h4,h5,yE u _ p _ i hP (OE (bw q) i u (bO hu.n (by decide)) (wP hu) fun v hv hid=>by rw[hu.uni hv h1 ((gF _ v).1 hid)];exact h4)⟩
theorem Yw{u x:TUnit}(hu:OkB u)(d:PDeed)(hp:iY (bw x) u=true):∃r:pR,kP 127 [eU u,eU x,aK d] (eN r)/\Bk u d r.1:=by
  obtain⟨q,i,h1,h2,h3,h4,h5,h6⟩:=Vs hu hp
  exact⟨_,Ty u x _ d h6,(hu.del h1 h4).1,KB (f:=gI i) (fun _=>rfl) u⟩
theorem DL(l:List PWord):(vD l).length<=256:=by
  unfold vD
  cases h:aB 256 (Int.ofNat l.length)with
  |true=>exact bD _
  |false=>have:=aE h;simp only[oN]at this;show l.length<=256;omega
theorem Pw(a b:Int)(w:List PWord)(old new:List bZ)(n:Int):(F3 a b w old new n).1.length<=256:=by
  unfold F3
  cases ae (Int.ofNat old.length) 0
  · cases ae (Int.ofNat (n7 (uv (b8 w) old) n).length) 0
    · exact DL _
    · exact bD _
  · exact bD _
theorem UJ(a b:Int)(w:List PWord)(part new:List bZ)(n:Int):(Ez a b w part new n).1.length<=256:=by
  unfold Ez
  cases(ae (Int.ofNat new.length) 0||(ae (Int.ofNat part.length) 0&&aw (ae n 0)))
  · cases ae (Int.ofNat part.length) 0
    · cases ae (Int.ofNat (n7 (uv (b8 w) part) n).length) 0
      · exact DL _
      · exact bD _
    · exact DL _
  · exact bD _
theorem uQ{l:List bZ}(h:qi l=true):l.length<=256:=by
  unfold qi at h
  rw[bj]at h
  have:=gE h.1
  simp only[oN]at this
  omega
theorem K3{n:Int}(h:Br n=true):0<=n/\n<=256:=by
  unfold Br at h
  rw[bj]at h
  exact⟨gE h.1,gE h.2⟩
theorem Ci{u:TUnit}(hu:OkB u)(q:PId){l:List PWord}(hl:l.length<=300):OkB (dZ q (md l) u):=hu.keep (fun _=>⟨rfl,rfl⟩) fun v hv=>⟨(hu.w v hv).1,hl⟩
theorem PT{u:TUnit}(hu:OkB u)(q:PId){l:List PWord}(hl:l.length<=300):OkB (dZ q (Az l) u):=hu.keep (fun _=>⟨rfl,rfl⟩) fun v hv=>⟨hl,(hu.w v hv).2⟩
theorem NU{u:TUnit}(hu:OkB u)(q:PId)(s:bZ):OkB (dZ q (pv s) u):=hu.keep (fun _=>⟨rfl,rfl⟩) fun v hv=>hu.w v hv
theorem J0{u u2:TUnit}{d:PDeed}{e:Int}(h:OkB u)(h2:Bk u d u2):Bk u d (Fz u e u2).1:=by
  have h:=Bk.refl h (d:=d)
  unfold Fz;cases ae e 0;exact h;exact h2
theorem YQ{u x:TUnit}(hu:OkB u)(hx:x∈bB u)(hp:iY (bw x) u=true)(d:PDeed)(hg:Ak d.it)(hk:d.it.kind=2):∃r:pR,kP 128 [eU u,eU x,aK d] (eN r)/\Bk u d r.1:=by
  obtain⟨h1,h2⟩:=hg.2.2.1 (.inl hk)
  have h3:=uQ h1
  have h4:=uQ (hg.2.2.2 (.inl hk))
  obtain⟨h5,h6⟩:=K3 h2
  have h7:=(hu.w x hx).2
  have hR:=Tv d.act d.item x.words d.it.old d.it.new d.it.nth_ (by omega) (by omega) (by omega) h5 (by omega) (kw h5)
  exact⟨_,SL u x _ d _ _ hR (Oo (bw x) _ u (bO hu.n (by decide)) (wP hu)),J0 hu ⟨Ci hu _ (bO (Pw ..) (by decide)),KA hp⟩⟩
theorem Yb{u x:TUnit}(hu:OkB u)(hx:x∈bB u)(hp:iY (bw x) u=true)(d:PDeed)(hg:Ak d.it)(hk:d.it.kind=3):∃r:pR,kP 129 [eU u,eU x,aK d] (eN r)/\Bk u d r.1:=by
  obtain⟨h1,h2⟩:=hg.2.2.1 (.inr hk)
  have h3:=uQ h1
  have h4:=uQ (hg.2.2.2 (.inr (.inl hk)))
  obtain⟨h5,h6⟩:=K3 h2
  have h7:=(hu.w x hx).2
  have hR:=YL d.act d.item x.words d.it.old d.it.new d.it.nth_ (by omega) (by omega) (by omega) h5 (by omega)
  exact⟨_,Te u x _ d _ _ hR (Ou (bw x) _ u (bO hu.n (by decide)) (wP hu)),J0 hu ⟨Ci hu _ (bO (UJ ..) (by decide)),KA hp⟩⟩
theorem YT{u x:TUnit}(hu:OkB u)(hp:iY (bw x) u=true)(d:PDeed)(hg:Ak d.it)(hk:d.it.kind=4):∃r:pR,kP 130 [eU u,eU x,aK d] (eN r)/\Bk u d r.1:=by
  have h4:=uQ (hg.2.2.2 (.inr (.inr hk)))
  have hM:=yj d.it.new d.act d.item 0 (by omega) (by decide)
  exact⟨_,Uf u x _ d _ hM (OD (bw x) _ u (bO hu.n (by decide)) (wP hu)),PT hu _ (by rw[gU];omega),KA hp⟩
theorem VD{u:TUnit}(hu:OkB u)(p:PId):(ee p u).kids.length<2^40:=by
  have hn:=hu.n
  cases h:cK p u with
  |true=>have:=dT (vE h).1;have:=bf (ee p u);omega
  |false=>unfold ee;rw[h];exact nl (bD 0) (by decide)
theorem Yy{u x:TUnit}(hu:OkB u)(hp:iY (bw x) u=true)(d:PDeed):∃r:pR,kP 131 [eU u,eU x,aK d] (eN r)/\Bk u d r.1:=by
  refine⟨_,Tb u x _ _ d _ _ _ _ _ (kz hu (bw x)) (wJ hu _) (yN _ _ (VD hu _)) (Ot (bw x) d u (bO hu.n (by decide)) (wP hu)),?_⟩
  unfold Tc
  cases ae (yO (ee (sM (bw x) u) u) (pv d.it.label x)) 10
  · exact⟨NU hu _ _,KA hp⟩
  · exact .refl hu
theorem TI{u u2:TUnit}{d:PDeed}{te:Int}{full:Bool}(h:OkB u)(h2:Bk u d u2):Bk u d (QQ u te full u2).1:=by
  have h:=Bk.refl h (d:=d)
  unfold QQ;cases ae te 0<;>cases full<;>first|exact h|exact h2
theorem Y9{e2 e3:Int}{sp:PSpot}(h:(Ho 0 e2 sp e3).2=0):e2=0/\e3=0/\(Ho 0 e2 sp e3).1=sp:=by
  unfold Ho at h ⊢
  rw[show ae 0 0=true from rfl]at h ⊢
  simp only[cond_true]at h ⊢
  cases h1:ae e2 0 with
  |false=>rw[h1]at h;rw[show e2=0 from h]at h1;cases h1
  | true=>
    rw[h1]at h
    cases h2:ae e3 0 with
    |false=>rw[h2]at h;rw[show e3=0 from h]at h2;cases h2
    |true=>exact⟨iR h1,iR h2,rfl⟩
theorem Yt{u x:TUnit}(hu:OkB u)(hx:x∈bB u)(d:PDeed)(hd:ta d.it)(hg:Ak d.it)(hk:d.it.kind=6)(h0:(ab u d.it.at_).2=0)(hid:(ab u d.it.at_).1=bw x)(hp:iY (bw x) u=true):∃r:pR,kP 132 [eU u,eU x,aK d] (eN r)/\Bk u d r.1:=by
  have hw:=hg.1 (.inr hk)
  have hF:=uz hu d.it.at_ hd.2.1
  rw[h0,hid]at hF
  obtain⟨bs,hG⟩:=XK hu (bw x) (ab u d.it.to).1 d.it.where_ hw
  obtain⟨q,i,h1,h2,h3,h4,h5,h6⟩:=Vs hu hp
  have hD:=Rl u d.it _ _ _ _ _ _ (by rw[hk];rfl) (by rw[hk];rfl) hw hF (uz hu d.it.to hd.2.2.1) hG
  rw[h2,h3,hp]at hD
  cases he:ae (Ho 0 (ab u d.it.to).2 (n9 (bw x) (ab u d.it.to).1 (bw q) (Int.ofNat i) true ((pP (ab u d.it.to).1 u).any (bK (bw x))) bs (dc d.it.where_ u (ab u d.it.to).1).1 (dc d.it.where_ u (ab u d.it.to).1).2).1 (n9 (bw x) (ab u d.it.to).1 (bw q) (Int.ofNat i) true ((pP (ab u d.it.to).1 u).any (bK (bw x))) bs (dc d.it.where_ u (ab u d.it.to).1).1 (dc d.it.where_ u (ab u d.it.to).1).2).2).2 0 with
  |false=>exact⟨(u,_),TL u x d _ _ _ he hD,.refl hu⟩
  | true=>
    have e0:=iR he
    obtain⟨e1,e2,e3⟩:=Y9 e0
    obtain⟨n,n1,n2,n3⟩:=QI hu h1 h4 (rQ e1) e2
    rw[e0,e3,n1]at hD
    obtain⟨hr,hpm⟩:=hu.del h1 h4
    have hkx:gD q.kids i=x:=hu.uni (jV h1 (bM (ig h4) (dh _))) hx h5
    rw[hkx]at hpm
    have hnr:=hr.n
    have hnx:=dT hx
    have hn:=hu.n
    refine⟨_,TH u x _ _ _ d _ _ n _ _ _ _ _ hD (kz hu (bw x)) h6 (wJ hr _) (yN _ x (VD hr _)) (LC _ x _ (by omega) (by omega)) (OA _ n x _ (by omega) (wP hr) n3),TI hu ?_⟩
    have hnd:=List.nodup_append.1 (hpm.nodup_iff.1 hu.nd)
    have hlen:=hpm.length_eq
    rw[lA,<-mw,<-mw,<-mw]at hlen
    exact⟨hr.ins hnd.2.1 (fun p hp hq=>hnd.2.2 p hq p hp rfl) (by omega) (fun y hy=>hu.w y (jV hx hy)),(KB (f:=dD _ _) (fun _=>rfl) _).trans (KB (f:=gI i) (fun _=>rfl) u)⟩
theorem aaq{u x:TUnit}(hu:OkB u)(hx:x∈bB u)(d:PDeed)(hd:ta d.it)(hg:Ak d.it)(hk0:0<=d.it.kind)(hk6:d.it.kind<=6)(h0:(ab u d.it.at_).2=0)(hid:(ab u d.it.at_).1=bw x)(hp:iY (bw x) u=true):∃r:pR,kP (VP d.it.kind) [eU u,eU x,aK d] (eN r)/\Bk u d r.1:=by
  have hk:d.it.kind=0\/d.it.kind=1\/d.it.kind=2\/d.it.kind=3\/d.it.kind=4\/d.it.kind=5\/d.it.kind=6:=by omega
  rcases hk with h|h|h|h|h|h|h<;>rw[h]
  · exact VH hu x d hd hg h
  · exact Yw hu d hp
  · exact YQ hu hx hp d hg h
  · exact Yb hu hx hp d hg h
  · exact YT hu hp d hg h
  · exact Yy hu hp d
  · exact Yt hu hx d hd hg h h0 hid hp
theorem VW {u:TUnit}(hu:OkB u)(d:PDeed)(hd:ta d.it)(hk0:0<=d.it.kind)(hk6:d.it.kind<=6):∃r:pR,kP 54 [eU u,aK d] (eN r)/\Bk u d r.1:=by
  obtain⟨b,hV,hg⟩:=V5 d.it hd hk0 hk6
  have hl:=WD d hk0 hk6
  cases b with
  |false=>exact⟨_,VJ u d _ hl hV,.refl hu⟩
  | true=>
    have hg:=hg rfl
    have hF:=uz hu d.it.at_ hd.2.1
    cases he:ae (ab u d.it.at_).2 0 with
    |false=>exact⟨_,VV u d _ _ _ hl hV he hF,.refl hu⟩
    | true=>
      have e0:=iR he
      have hh:=rQ e0
      obtain⟨hx,hxi⟩:=vE hh
      rw[e0]at hF
      have hX:=wJ hu (ab u d.it.at_).1
      cases hi:(ae (ab u d.it.at_).1.a u.act&&(ae (ab u d.it.at_).1.i u.item&&ae (ab u d.it.at_).1.n u.n))with
      | true=>
        cases hk:ae d.it.kind 0 with
        | true=>
          have hk:=iR hk
          obtain⟨r,h1,h2⟩:=VH hu (ee (ab u d.it.at_).1 u) d hd hg hk
          exact⟨r,Sk u _ d _ _ _ r hl hV hF hX hi (by rw[hk];rfl) (by rw[hk];exact h1),h2⟩
        |false=>exact⟨_,VK u _ d _ _ _ _ _ hl hV hF hX hi hk (uz hu d.it.to hd.2.2.1),.refl hu⟩
      | false=>
        have hni:f9 (ab u d.it.at_).1 u=false:=by
          cases q:f9 (ab u d.it.at_).1 u with
          |false=>rfl
          | true=>
            have:=(gF _ u).1 q
            rw[<-this]at hi
            have e:(ae (bw u).a u.act&&(ae (bw u).i u.item&&ae (bw u).n u.n))=true:=by
              show(ae u.act u.act&&(ae u.item u.item&&ae u.n u.n))=true
              rw[bg,bg,bg];rfl
            rw[e]at hi;cases hi
        obtain⟨r,h1,h2⟩:=aaq hu hx d hd hg hk0 hk6 e0 hxi.symm (by rw[hxi];exact Uh hh hni)
        exact⟨r,VY u _ d _ _ _ r hl hV hF hX hi h1,h2⟩
theorem Sf{k:Int}(h:mK k=true):0<=k/\k<=6:=by
  unfold mK at h;rw[bj]at h;exact⟨gE h.1,gE h.2⟩
structure AppOk(u:TUnit)(d:PDeed):Prop where
  b:OkB u
  i:ta d.it
  a:mK d.it.kind=true
theorem Sx{u:TUnit}{d:PDeed}(h:AppOk u d):∃r:pR,kP 54 [eU u,aK d] (eN r)/\Bk u d r.1:=VW h.b d h.i (Sf h.a).1 (Sf h.a).2
open Classical in
noncomputable def bi(u:TUnit)(d:PDeed):pR:=if h:AppOk u d then(Sx h).choose else(u,0)
theorem L0{u:TUnit}{d:PDeed}(h:AppOk u d):kP 54 [eU u,aK d] (.tuple [eU (bi u d).1,iV (bi u d).2])/\Bk u d (bi u d).1:=by
  unfold bi;rw[dif_pos h];exact(Sx h).choose_spec
theorem dt{u:TUnit}{d:PDeed}(h:AppOk u d):kP 54 [eU u,aK d] (.tuple [eU (bi u d).1,iV (bi u d).2])/\OkB (bi u d).1:=⟨(L0 h).1,(L0 h).2.1⟩
theorem A9(u:TUnit)(d:PDeed)(h1:OkB u)(h2:ta d.it)(h3:mK d.it.kind=true):kP 54 [eU u,aK d] (.tuple [eU (bi u d).1,iV (bi u d).2]):=(dt ⟨h1,h2,h3⟩).1
noncomputable def qw(u:TUnit)(d:PDeed):TUnit:=bif mK d.it.kind then(bi u d).1 else u
noncomputable def CA(u:TUnit)(d:PDeed):List PFail:=bif mK d.it.kind then(bif ae (bi u d).2 0 then[]else[⟨d.act,d.item,(bi u d).2⟩])else[]
theorem O8{u:TUnit}{d:PDeed}(h1:OkB u)(h2:ta d.it):OkB (qw u d):=by
  unfold qw
  cases h:mK d.it.kind with
  |false=>exact h1
  |true=>exact(dt ⟨h1,h2,h⟩).2
noncomputable def dC:TUnit->List PDeed->TUnit
  |u,[]=>u
  |u,d::r=>dC (qw u d) r
noncomputable def fx:TUnit->List PDeed->List PFail
  |_,[]=>[]
  |u,d::r=>CA u d++fx (qw u d) r
theorem HR:∀{l:List PDeed}{u:TUnit},OkB u->(∀d,d∈l->ta d.it)->OkB (dC u l)
  |[],_,h,_=>h
  |d::r,u,h,hl=>HR (l:=r) (u:=qw u d) (O8 h (hl d (e9 ..))) fun x hx=>hl x (fQ _ hx)
theorem C4:∀(l:List PDeed)(u:TUnit),(fx u l).length<=l.length
  |[],_=>ah _
  | d::r,u=>by
    have:=C4 r (qw u d)
    have h:(CA u d).length<=1:=by
      unfold CA
      cases mK d.it.kind<;>cases ae (bi u d).2 0<;>simp
    rw[fx,lA,lC];omega
theorem Yq{u:TUnit}{d:PDeed}{r:List PDeed}(h:mK d.it.kind=false):dC u (d::r)=dC u r/\fx u (d::r)=fx u r:=by
  rw[dC,fx,qw,CA,h];exact⟨rfl,rfl⟩
theorem TQ{u:TUnit}{d:PDeed}{r:List PDeed}(h:mK d.it.kind=true)(h2:ae (bi u d).2 0=true):dC u (d::r)=dC (bi u d).1 r/\fx u (d::r)=fx (bi u d).1 r:=by
  rw[dC,fx,qw,CA,h,h2];exact⟨rfl,rfl⟩
theorem S9{u:TUnit}{d:PDeed}{r:List PDeed}(h:mK d.it.kind=true)(h2:ae (bi u d).2 0=false):dC u (d::r)=dC (bi u d).1 r/\fx u (d::r)=⟨d.act,d.item,(bi u d).2⟩::fx (bi u d).1 r:=by
  rw[dC,fx,qw,CA,h,h2];exact⟨rfl,rfl⟩
mutual
theorem KU:∀(u:TUnit)(deep most:Int),mM u deep most<=most->Int.ofNat (nU u)<=mM u deep most
  | ⟨_,_,_,_,_,_,_,kids⟩,deep,most,h=>by
    rw[mM]at h ⊢
    cases hd:aB 20 deep with
    |true=>rw[hd]at h;simp only at h;omega
    | false=>
      rw[hd]at h
      have:=Kq kids deep most 1 h
      rw[nU]
      simp only[oN]at *
      omega
theorem Kq:∀(l:List TUnit)(deep most n:Int),mN l deep most n<=most->n+Int.ofNat (eJ l)<=mN l deep most n
  |[],_,_,n,_=>by rw[mN,eJ];exact Int.le_of_eq (Int.add_zero n)
  | k::r,deep,most,n,h=>by
    rw[mN]at h ⊢
    cases hd:aB most n with
    |true=>rw[hd]at h;have:=aA hd;simp only at h;omega
    | false=>
      rw[hd]at h
      have h2:=Kq r deep most _ h
      have h1:=KU k (deep+1) (most-n) (by simp only[oN]at *;omega)
      rw[eJ]
      simp only[oN]at *
      omega
end
theorem FH{l:List PWord}(h:mO l=true):l.length<=300/\∀w,w∈l->w.text.length<=100:=by
  unfold mO at h
  obtain⟨h1,h2⟩:=ni.1 h
  refine⟨by have:=gE h2;simp only[oN]at this;omega,fun w hw=>?_⟩
  have:=gE (kI.1 h1 w hw)
  simp only[oN]at this;omega
theorem Ix:∀(u:TUnit),kS u=true->∀x,x∈bB u->sY x:=by
  refine TUnit.ind fun u ih h x hx=>?_
  rw[B7]at h
  simp only[bj]at h
  obtain⟨⟨⟨h0,h1⟩,h2⟩,h3⟩:=h
  rw[da]at hx
  rcases fk.1 hx with rfl|hx
  · have h0:=gE h0
    simp only[oN]at h0
    have q1:=FH h1
    have q2:=FH h2
    exact⟨q1.1,q2.1,by omega,fun w hw=>bO (q1.2 w hw) (by decide),fun w hw=>bO (q2.2 w hw) (by decide)⟩
  · obtain⟨k,hk,hx⟩:=mA hx
    exact ih k hk (kI.1 h3 k hk) x hx
theorem Xv{u:TUnit}{n:Nat}(h:Hx u (.ofNat n)=true):nU u<=n/\∀x,x∈bB u->sY x:=by
  unfold Hx at h
  obtain⟨h1,h2⟩:=ni.1 h
  refine⟨?_,Ix u h2⟩
  have h3:=gE h1
  have:=KU u 0 (.ofNat n) h3
  simp only[oN]at *
  omega
theorem PS{x:PItem}(hf:nc x)(h:nZ x=true):ta x:=by
  rw[Ed]at h
  unfold yc at h
  simp only[bj]at h
  obtain⟨⟨⟨⟨⟨⟨⟨⟨⟨⟨a1,a2⟩,a3⟩,a4⟩,a5⟩,a6⟩,a7⟩,a8⟩,a9⟩,a10⟩,b1,b2,b3,b4,b5⟩:=h
  have a1:=gE a1
  have a2:=gE a2
  have a3:=gE a3
  have a4:=gE a4
  have a5:=gE a5
  have a6:=gE a6
  have a7:=gE a7
  simp only[oN]at a1 a2 a3 a4 a5 a6 a7
  have hs:∀{l:List bZ},l.all xG=true->∀s,s∈l->s.length<=2^39:=fun h s hs=>by
    have:=gE (kI.1 h s hs);simp only[oN]at this;omega
  have ht:∀{l:List PStep},l.all xF=true->∀s,s∈l->s.label.length<=2^39:=fun h s hs=>by
    have:=gE (kI.1 h s hs);simp only[oN]at this;omega
  have hu:=Xv (n:=30) a10
  exact⟨hf,⟨by omega,ht b3⟩,⟨by omega,ht b4⟩,⟨by omega,hs b1⟩,⟨by omega,hs b2⟩,by omega,by omega,by omega,bO hu.1 (by decide),hu.2⟩
noncomputable abbrev bU(u:TUnit):AObj:=.row 8 false 0 [eU u]
theorem Ja{u v:TUnit}{l r:List PDeed}{xs:List PFail}(h:fx u l=xs++fx v r):xs.length<=l.length:=by
  grind[C4]
theorem Sa(u:TUnit)(l:List PDeed)(hu:OkB u)(hl:l.length<2^30)(ho:∀d,d∈l->ta d.it):kP 65 [eU u,.ls (l.map aK)] (.tuple [eU (dC u l),.ls ((fx u l).map gn)]):=by
  have rr0 b' (h:((dC u l).act)=b':=by first|(rw[hj0.2.1];rfl)|(rw[hj0.2.2];rfl)|(rw[hj0.2.2.1];rfl)|(rw[hj0.2.2.2];simp only[fx,ei])|exact aX gw _):=h;have rr1 b' (h:((dC u l).item)=b':=by first|(rw[hj0.2.1];rfl)|(rw[hj0.2.2];rfl)|(rw[hj0.2.2.1];rfl)|(rw[hj0.2.2.2];simp only[fx,ei])|exact aX gw _):=h;have rr2 b' (h:((dC u l).n)=b':=by first|(rw[hj0.2.1];rfl)|(rw[hj0.2.2];rfl)|(rw[hj0.2.2.1];rfl)|(rw[hj0.2.2.2];simp only[fx,ei])|exact aX gw _):=h;have rr3 b' (h:((dC u l).kind)=b':=by first|(rw[hj0.2.1];rfl)|(rw[hj0.2.2];rfl)|(rw[hj0.2.2.1];rfl)|(rw[hj0.2.2.2];simp only[fx,ei])|exact aX gw _):=h;have rr4 b' (h:((dC u l).label)=b':=by first|(rw[hj0.2.1];rfl)|(rw[hj0.2.2];rfl)|(rw[hj0.2.2.1];rfl)|(rw[hj0.2.2.2];simp only[fx,ei])|exact aX gw _):=h;have rr5 b' (h:(List.map aQ (dC u l).head)=b':=by first|(rw[hj0.2.1];rfl)|(rw[hj0.2.2];rfl)|(rw[hj0.2.2.1];rfl)|(rw[hj0.2.2.2];simp only[fx,ei])|exact aX gw _):=h;have rr6 b' (h:(List.map aQ (dC u l).words)=b':=by first|(rw[hj0.2.1];rfl)|(rw[hj0.2.2];rfl)|(rw[hj0.2.2.1];rfl)|(rw[hj0.2.2.2];simp only[fx,ei])|exact aX gw _):=h;have rr7 b' (h:(List.map aq (dC u l).kids)=b':=by first|(rw[hj0.2.1];rfl)|(rw[hj0.2.2];rfl)|(rw[hj0.2.2.1];rfl)|(rw[hj0.2.2.2];simp only[fx,ei])|exact aX gw _):=h;have rr8 b' (h:((fx u l).map gn)=b':=by first|(rw[hj0.2.1];rfl)|(rw[hj0.2.2];rfl)|(rw[hj0.2.2.1];rfl)|(rw[hj0.2.2.2];simp only[fx,ei])|exact aX gw _):=h;exact bo Tryz.func65<|Kl 2 5 bA<|Kl 2 12 (ln aK l)<|Mg 0<|V3 TUnit Nat Nat (List PFail) aK l u [2,4,6,11,12,13] (fun a _ b=>([au 0 0 0 0,au 1 0 0 0,ak,aW<|l.map aK,nV l.length,nV a],[aZ 8 false 0 [az [iV b.act,iV b.item,iV b.n,iV b.kind,aV b.label,aW<|b.head.map aQ,aW<|b.words.map aQ,aW<|b.kids.map aq]],aZ 8 false 0 [az [iV 0,iV 0,iV 0,iV 0,aV [],ak,ak,ak]]])) (fun a _ b c e f=>([au 0 0 0 0,au 1 0 0 0,aD 2 c 0 e none,aW<|l.map aK,nV l.length,nV a],[aZ 8 false 0 [az [iV b.act,iV b.item,iV b.n,iV b.kind,aV b.label,aW<|b.head.map aQ,aW<|b.words.map aQ,aW<|b.kids.map aq]],aZ 8 false 0 [az [iV 0,iV 0,iV 0,iV 0,aV [],ak,ak,ak]],aZ 3 true c<|f.map gn])) (fun a b=>OkB b/\dC u l=dC b a/\fx u l=fx b a) (fun a b _ c e=>OkB b/\c=e.length/\dC u l=dC b a/\fx u l=e++fx b a) sA (fun _ _ a _ _ _ b hj0=>Kh 0 b<|Kl 3 5 bA<|Mf<|eF<|.cons (aO (.cons (li<|rr0 a.act)<|.cons (li<|rr1 a.item)<|.cons (li<|rr2 a.n)<|.cons (li<|rr3 a.kind)<|.cons (Le.str<|rr4 a.label)<|.cons (cn<|rr5<|a.head.map aQ)<|.cons (cn<|rr6<|a.words.map aQ)<|.cons (cn<|rr7<|a.kids.map aq) .nil)<|by kernel_rfl)<|.cons (cn<|rr8 []) .nil) (fun a _ b c _ e f g i j k _ n hj0=>have c:=ho _<|aI c j;Kt 0 k<|Mx n<|Kp 5 (JG e.it.kind)<|Kn 0 (mK e.it.kind) (fun _=>Kl 0 40 (dU a)<|K1 0 (.frz 2 [2,4,6,11,12,13]) (ch rt rt ti)<|Mf<|g b<|by grind[Yq]) fun j=>Kp 1 (A9 b e sA c j)<|Kc 7 (bi b e).2 0 (fun _ _=>Kl 12 40 (dU a)<|Mg 0<|M0 (.ren [0,1,4,2,3] [] [2,4,6,11,12,13])<|M1 (.frz 3 [2,4,6,11,12,13]) (kF rt rt rt ti)<|Mf<|i (bi b e).1 0 1 [PFail.mk e.act e.item (bi b e).2]<|by exact⟨(dt ⟨hj0.1,c,by omega⟩).2,rfl,hj0.2.1.trans (S9 (by omega) (by omega)).1,hj0.2.2.trans (S9 (by omega) (by omega)).2⟩) fun _ _=>Kl 2 40 (dU a)<|K1 0 (.frz 2 [2,4,6,11,12,13]) (ch rt rt ti)<|Mf<|g (bi b e).1<|by exact⟨(dt ⟨hj0.1,c,by omega⟩).2,hj0.2.1.trans (TQ (by omega) (by omega)).1,hj0.2.2.trans (TQ (by omega) (by omega)).2⟩) (fun _ _ a b c e _ _ _ f hj0=>Kh 0 f<|Mg 3<|M2 (.fsl 2 [4] 5<|e.map gn) (ch rt rt ti) (ch (ax b) (tA gn e c (oA:(e).length=c))<|aX gw e)<|Ml 5 (fY (e.map gn) false<|aX gw e)<|Mf<|eF<|.cons (aO (.cons (li<|rr0 a.act)<|.cons (li<|rr1 a.item)<|.cons (li<|rr2 a.n)<|.cons (li<|rr3 a.kind)<|.cons (Le.str<|rr4 a.label)<|.cons (cn<|rr5<|a.head.map aQ)<|.cons (cn<|rr6<|a.words.map aQ)<|.cons (cn<|rr7<|a.kids.map aq) .nil)<|by kernel_rfl)<|.cons (cn<|rr8<|e.map gn) .nil) fun a _ b c e f g _ i j _ k n o _ p hj0=>have g:=ho _<|aI g n;Kt 0 o<|Mx p<|Kp 5 (JG i.it.kind)<|Kn 0 (mK i.it.kind) (fun _=>Kl 0 40 (dU a)<|K1 0 (.frz 3 [2,4,6,11,12,13]) (kF (tR 3 true c 3<|aX gw f) rt rt ti)<|Mf<|k b c e f<|by grind[Yq]) fun n=>Kp 1 (A9 b i sA g n)<|Kc 7 (bi b i).2 0 (fun _ _=>K1 7 .app (ch (ax c) (sA:e=(f.map gn).length) (by(have z:=Ja hj0.2.2.2;have z2:=hj0.2.1;refine aM (m:=2^31) ?_ ?_ ?_<;>omega):small (e+1) 24=true))<|M1 (.obj 2<|aZ 3 true (c+1)<|(f++[PFail.mk i.act i.item (bi b i).2]).map gn) (congrArg (aZ 3 true<|c+1)<|dJ (f:=gn) (l:=f) (ws:=[PFail.mk i.act i.item (bi b i).2]))<|Kl 3 40 (dU a)<|K1 0 (.frz 3 [2,4,6,11,12,13]) (kF (tR 3 true (c+1) 3<|aX gw<|f++[PFail.mk i.act i.item (bi b i).2]) rt rt ti)<|Mf<|k (bi b i).1 (c+1) (e+1) (f++[PFail.mk i.act i.item (bi b i).2])<|by exact⟨(dt ⟨hj0.1,g,by omega⟩).2,by simp_all,hj0.2.2.1.trans (S9 (by omega) (by omega)).1,hj0.2.2.2.trans (by grind[S9])⟩) fun _ _=>Kl 2 40 (dU a)<|K1 0 (.frz 3 [2,4,6,11,12,13]) (kF (tR 3 true c 3<|aX gw f) rt rt ti)<|Mf<|k (bi b i).1 c e f<|by exact⟨(dt ⟨hj0.1,g,by omega⟩).2,hj0.2.1,hj0.2.2.1.trans (TQ (by omega) (by omega)).1,hj0.2.2.2.trans (by grind[TQ])⟩
theorem AK(k:Int):kP 95 [iV k] (.bool (aw (aB k 0)&&aw (aB 6 k))):=by
  have rr0 b' (h:(aw (aB k 0)&&aw (aB 6 k))=b':=by rw[z];rfl):=h;exact wk Tryz.func95 (.go 3<|.br (.go 0<|.tt<|.go 0<|.pk true<|.go 0 .fin)<|.ff<|.pk false<|.go 0 .fin)<|et (fun(z:(aw (aB k 0))=true)=>have a:=m5 z;have:=aE a;ch (cS a) (cS a)<|ct<|rr0<|aw<|aB 6 k) fun(z:(aw (aB k 0))=false)=>have a:=qu z;have:=aA a;ch (cF a) (cF a)<|ct<|rr0 false
theorem dK{n b m:Nat}(h1:n<=m)(h2:m<=2^40)(h3:m*b<=2^40):small n b=true:=by
  simp only[small,bz,bj,decide_eq_true_eq]
  exact⟨by omega,bO (eB _ h1) h3⟩
noncomputable def dj(b:Bool):AV:=.bool b
noncomputable abbrev Kk(ns:List (Int×Bool)):AObj:=.map (b6 dj ns 0) ns.length
noncomputable abbrev ox(i ep n:Nat):AObj:=.row 1 false 0 [.slice i ep 0 n none]
noncomputable abbrev oz(ep:Nat)(out:List PAct):AObj:=.row 7 true ep (out.map ay)
theorem nC(a:PAct)(ns:List (Int×Bool))(ep n:Nat)(out:List PAct):kD 116 [ay a,.bool true,.ptr 0 0 0 0] (av [ox 2 ep n,Kk ns,oz ep out]) (.tuple []) (av [ox 2 ep n,Kk ns,oz ep out]):=by
  exact dE Tryz.func116 fun b=>K1 3 (.frz 3 []) (kF (tR 7 true ep 3<|aX Jn out) (tM ns.length 3<|aG (f:=dj) (fun _=>rfl) ns 0) rt ti)<|Mf b
theorem rb(a:PAct)(ns:List (Int×Bool))(ep n:Nat)(out:List PAct)(hn:n=out.length)(hb:n<1000000):kD 116 [ay a,.bool false,.ptr 0 0 0 0] (av [ox 2 ep n,Kk ns,oz ep out]) (.tuple []) (av [ox 2 (ep+1) (n+1),Kk ns,oz (ep+1) (out++[a])]):=by
  exact dE Tryz.func116 fun b=>K1 6 .app (ch (ax ep) (by(rw[lM];exact hn):n=(out.map ay).length) (by(refine dK (m:=1000000) ?_ ?_ ?_<;>omega):small (n+1) 88=true))<|M1 (.obj 2<|aZ 7 true (ep+1)<|(out++[a]).map ay) (congrArg (aZ 7 true<|ep+1)<|dJ (f:=ay) (l:=out) (ws:=[a]))<|K1 0 (.frz 3 []) (kF (tR 7 true (ep+1) 3<|aX Jn<|out++[a]) (tM ns.length 3<|aG (f:=dj) (fun _=>rfl) ns 0) rt ti)<|Mf b
def jg(out:List PAct)(a:PAct):List PAct:=match gO a.number (out.map fun b=>(b.number,true))with|some _=>out|none=>out++[a]
noncomputable abbrev al(out:List PAct):List (Int×Bool):=out.map fun b=>(b.number,true)
def bq(gs:List PGaz)(out:List PAct):List PAct:=gs.foldl (fun o g=>g.acts.foldl jg o) out
theorem O1(out:List PAct)(a:PAct):out.length<=(jg out a).length/\(jg out a).length<=out.length+1:=by
  unfold jg;split<;>simp
theorem zP(out:List PAct)(n:Int):eD (some (.bool false)) false (bx false 1 [(0,1)] (iV n) (b6 dj (al out) 0) 0)=some (.bool (gO n (al out)).isSome):=by
  rw[zR]
  cases h:gO n (al out)with
  |none=>rfl
  | some v=>
    have:v=true:=by
      clear zP
      induction out with
      |nil=>cases h
      | cons b r ih=>
        simp only[al,eu,gO]at h
        split at h
        · cases h;rfl
        · exact ih h
    subst this;rfl
theorem J7(out:List PAct)(a:PAct):qj (b6 dj (al out) 0) (al out).length (iV a.number) (.bool true) (bx false 1 [(0,1)] (iV a.number) (b6 dj (al out) 0) 0)=some (b6 dj (al (jg out a)) 0,(al (jg out a)).length):=by
  have h:=CX (f:=dj) a.number true (al out)
  have e:lW a.number true (al out)=al (jg out a):=by
    unfold jg
    cases hg:gO a.number (out.map fun b=>(b.number,true))with
    |none=>rw[vo hg];simp[al]
    | some u=>
      simp only[]
      clear h
      induction out with
      |nil=>cases hg
      | cons b r ih=>
        simp only[al,eu,gO,lW]at hg ⊢
        cases q:ae a.number b.number<;>simp only[q]at hg ⊢
        simp only[BI,true_and];exact ih hg
  rw[e]at h
  exact h
theorem kW{out:List PAct}{a:PAct}(h:(gO a.number (al out)).isSome=true):jg out a=out:=by
  unfold jg;cases q:gO a.number (out.map fun b=>(b.number,true))with
  |some u=>rfl
  |none=>rw[al,q]at h;cases h
theorem kJ{out:List PAct}{a:PAct}(h:(gO a.number (al out)).isSome=false):jg out a=out++[a]:=by
  unfold jg;cases q:gO a.number (out.map fun b=>(b.number,true))with
  |some u=>rw[al,q]at h;cases h
  |none=>rfl
theorem J6(out:List PAct)(a:PAct)(h:(gO a.number (al out)).isSome=true):qj (b6 dj (al out) 0) (al out).length (iV a.number) (.bool true) (bx false 1 [(0,1)] (iV a.number) (b6 dj (al out) 0) 0)=some (b6 dj (al out) 0,(al out).length):=by
  have:=J7 out a;rw[kW h]at this;exact this
theorem J8(out:List PAct)(a:PAct)(h:(gO a.number (al out)).isSome=false):qj (b6 dj (al out) 0) (al out).length (iV a.number) (.bool true) (bx false 1 [(0,1)] (iV a.number) (b6 dj (al out) 0) 0)=some (b6 dj (al (out++[a])) 0,(al (out++[a])).length):=by
  have:=J7 out a;rw[kJ h]at this;exact this
theorem NF(gs:List PGaz)(hf:pF gs)(hb:∀g,g∈gs->g.acts.length<1000)(hb2:gs.length<900)(e0:bq gs []=[]):kD 115 [.ls (gs.map am),.func (.func 116) [] [.ptr 0 0 0 0]] (av [.row 1 false 0 [.nils]]) (.tuple []) (av [.row 1 false 0 [.nils]]):=by
  obtain⟨f0,f1⟩:=hf
  have hlk:=zP
  have huo:=J6
  have hun:=J8
  exact dE Tryz.func115 fun a=>Kl 3 11 (ln am gs)<|Mg 0<|kB Nat Nat (List PAct) am gs [1,4,10,11,12] (fun a _=>([bQ (aT 116) [] [au 0 0 0 0],AV.map 1,aW<|gs.map am,nV gs.length,nV a],[aZ 1 false 0 [ak],AObj.map [] 0])) (fun a _ b c d=>([bQ (aT 116) [] [au 0 0 0 0],AV.map 1,aW<|gs.map am,nV gs.length,nV a],[aZ 1 false 0 [aD 2 b 0 c none],AObj.map (b6 dj (al d) 0) (al d).length,aZ 7 true b<|d.map ay])) (fun a=>bq gs []=bq a []) (fun a b c d=>c=d.length/\b+1=c/\c+1000*a.length<=1000*gs.length/\bq gs []=bq a d) (by rfl) (fun _ _ _ _ _ b _=>Kh 0 b<|M1 (.frz 1 []) (et rt ti)<|Mf a) (fun a _ b _ c d e f h i _ j k=>have:=hb _<|aI b h;have:=iC b h;Kt 0 i<|Mx j<|Kl 5 18 (ln ay c.acts)<|K1 0 (.frz 2 [1,4,10,11,12,17,18,19]) (ch rt rt ti)<|kB Nat Nat (List PAct) ay c.acts [1,4,10,11,12,17,18,19] (fun b _=>([bQ (aT 116) [] [au 0 0 0 0],AV.map 1,aW<|gs.map am,nV gs.length,nV a,aW<|c.acts.map ay,nV c.acts.length,nV b],[aZ 1 false 0 [ak],AObj.map [] 0])) (fun b _ d e f=>([bQ (aT 116) [] [au 0 0 0 0],AV.map 1,aW<|gs.map am,nV gs.length,nV a,aW<|c.acts.map ay,nV c.acts.length,nV b],[aZ 1 false 0 [aD 2 d 0 e none],AObj.map (b6 dj (al f) 0) (al f).length,aZ 7 true d<|f.map ay])) (fun a=>bq gs []=bq d (List.foldl jg [] a)) (fun a b c e=>c=e.length/\b+1=c/\c+a.length+1000*d.length<=1000*gs.length/\bq gs []=bq d (List.foldl jg e a)) (by(exact k)) (fun _ _ _ _ _ b c=>Kh 0 b<|Kl 0 34 (dU a)<|Kf 0<|e<|by exact c) (fun a _ b _ e f _ h i j _ k l=>have:=iC b i;Kt 0 j<|Mx k<|Kl 14 33 (dU a)<|Mg 0<|M0 (.ren [0,1,4,2,3] [] [1,4,10,11,12,17,18,19])<|M1 (.frz 3 [1,4,10,11,12,17,18,19]) (kF rt rt rt ti)<|Mf<|h 0 1 [e]<|by(refine⟨rfl,rfl,?_,l⟩;omega)) (fun _ _ b c e _ _ _ h i=>Kh 0 h<|Kl 0 34 (dU a)<|Kf 0<|f b c e<|by exact i) fun a _ b e f h _ i j _ k l m _ n o=>have:=iC h l;Kt 0 m<|Mx n<|K1 7 (.look<|dQ (gO i.number<|al f).isSome) (hlk f i.number)<|Ms (gO i.number<|al f).isSome (fun c=>Ml 28 (ct<|Eq.symm c)<|M1 (.frz 3 [1,4,8,10,11,12,17,18,19,23,24,28]) (kF (tR 7 true b 3<|aX Jn f) (tM (al f).length 3<|aG (f:=dj) (fun _=>rfl) (al f) 0) rt ti)<|Me (nC i (al f) b e f)<|K1 2 (.upd (b6 dj (al f) 0) (al f).length) (huo f i c)<|Kl 0 33 (dU a)<|Kf 0<|k b e f<|by(refine⟨by exact o.1,by exact o.2.1,by(have:=o.2.2.1;simp only[lC]at this;omega),?_⟩;rw[o.2.2.2,mG];first|rw[kW (by assumption)]|rw[kJ (by assumption)])) fun c=>Ml 28 (ct<|Eq.symm c)<|M1 (.frz 3 [1,4,8,10,11,12,17,18,19,23,24,28]) (kF (tR 7 true b 3<|aX Jn f) (tM (al f).length 3<|aG (f:=dj) (fun _=>rfl) (al f) 0) rt ti)<|Me (rb i (al f) b e f (by exact o.1)<|by(simp only[lC]at *;omega))<|K1 2 (.upd (b6 dj (al<|f++[i]) 0) (al<|f++[i]).length) (hun f i c)<|Kl 0 33 (dU a)<|Kf 0<|k (b+1) (e+1) (f++[i])<|by(refine⟨by(have:=o.1;simp;omega),by omega,by(have:=o.2.2.1;simp only[lC]at this;omega),?_⟩;rw[o.2.2.2,mG];first|rw[kW (by assumption)]|rw[kJ (by assumption)])) (fun _ _ _ _ a _ _ _ b c=>Kh 0 b<|Mw .abs (by(have q:=c.2.2.2;rw[e0]at q;have q:[]=a:=q;have h1:=c.1;rw[<-q,lN]at h1;have h2:=c.2.1;omega):False)) fun a _ b c d e _ f h _ i j k _ l m=>have:=hb _<|aI e j;have:=iC e j;Kt 0 k<|Mx l<|Kl 5 18 (ln ay f.acts)<|K1 0 (.frz 3 [1,4,10,11,12,17,18,19]) (kF (tR 7 true b 3<|aX Jn d) (tM (al d).length 3<|aG (f:=dj) (fun _=>rfl) (al d) 0) rt ti)<|Su ay f.acts b c d [1,4,10,11,12,17,18,19] (fun b _ c d e=>([bQ (aT 116) [] [au 0 0 0 0],AV.map 1,aW<|gs.map am,nV gs.length,nV a,aW<|f.acts.map ay,nV f.acts.length,nV b],[aZ 1 false 0 [aD 2 c 0 d none],AObj.map (b6 dj (al e) 0) (al e).length,aZ 7 true c<|e.map ay])) (fun a b c d=>c=d.length/\b+1=c/\c+a.length+1000*h.length<=1000*gs.length/\bq gs []=bq h (List.foldl jg d a)) (by(refine⟨m.1,m.2.1,?_,m.2.2.2⟩;have:=m.2.2.1;simp only[lC]at this;omega)) (fun _ _ b c d _ _ _ e f=>Kh 0 e<|Kl 0 34 (dU a)<|Kf 0<|i b c d<|by exact f) fun a _ b c d e _ i j k l m _ n o=>have:=iC e l;Kt 0 m<|Mx n<|K1 7 (.look<|dQ (gO i.number<|al d).isSome) (hlk d i.number)<|Ms (gO i.number<|al d).isSome (fun e=>Ml 28 (ct<|Eq.symm e)<|M1 (.frz 3 [1,4,8,10,11,12,17,18,19,23,24,28]) (kF (tR 7 true b 3<|aX Jn d) (tM (al d).length 3<|aG (f:=dj) (fun _=>rfl) (al d) 0) rt ti)<|Me (nC i (al d) b c d)<|K1 2 (.upd (b6 dj (al d) 0) (al d).length) (huo d i e)<|Kl 0 33 (dU a)<|Kf 0<|k b c d<|by(refine⟨by exact o.1,by exact o.2.1,by(have:=o.2.2.1;simp only[lC]at this;omega),?_⟩;rw[o.2.2.2,mG];first|rw[kW (by assumption)]|rw[kJ (by assumption)])) fun e=>Ml 28 (ct<|Eq.symm e)<|M1 (.frz 3 [1,4,8,10,11,12,17,18,19,23,24,28]) (kF (tR 7 true b 3<|aX Jn d) (tM (al d).length 3<|aG (f:=dj) (fun _=>rfl) (al d) 0) rt ti)<|Me (rb i (al d) b c d (by exact o.1)<|by(simp only[lC]at *;omega))<|K1 2 (.upd (b6 dj (al<|d++[i]) 0) (al<|d++[i]).length) (hun d i e)<|Kl 0 33 (dU a)<|Kf 0<|k (b+1) (c+1) (d++[i])<|by(refine⟨by(have:=o.1;simp;omega),by omega,by(have:=o.2.2.1;simp only[lC]at this;omega),?_⟩;rw[o.2.2.2,mG];first|rw[kW (by assumption)]|rw[kJ (by assumption)])
theorem Jc(gs:List PGaz)(hf:pF gs)(hb:∀g,g∈gs->g.acts.length<1000)(hb2:gs.length<900)(e0:bq gs []≠[]):kD 115 [.ls (gs.map am),.func (.func 116) [] [.ptr 0 0 0 0]] (av [.row 1 false 0 [.nils]]) (.tuple []) (av [ox 1 ((bq gs []).length -1) (bq gs []).length,oz ((bq gs []).length -1) (bq gs [])]):=by
  obtain⟨f0,f1⟩:=hf
  have hlk:=zP
  have huo:=J6
  have hun:=J8
  exact CQ Tryz.func115<|Kl 3 11 (ln am gs)<|Mg 0<|kB Nat Nat (List PAct) am gs [1,4,10,11,12] (fun a _=>([bQ (aT 116) [] [au 0 0 0 0],AV.map 1,aW<|gs.map am,nV gs.length,nV a],[aZ 1 false 0 [ak],AObj.map [] 0])) (fun a _ b c d=>([bQ (aT 116) [] [au 0 0 0 0],AV.map 1,aW<|gs.map am,nV gs.length,nV a],[aZ 1 false 0 [aD 2 b 0 c none],AObj.map (b6 dj (al d) 0) (al d).length,aZ 7 true b<|d.map ay])) (fun a=>bq gs []=bq a []) (fun a b c d=>c=d.length/\b+1=c/\c+1000*a.length<=1000*gs.length/\bq gs []=bq a d) (by rfl) (fun _ _ _ _ _ a b=>Kh 0 a<|Mw .abs (by exact e0 b:False)) (fun a _ b _ c d e f h i _ j k=>have:=hb _<|aI b h;have:=iC b h;Kt 0 i<|Mx j<|Kl 5 18 (ln ay c.acts)<|K1 0 (.frz 2 [1,4,10,11,12,17,18,19]) (ch rt rt ti)<|kB Nat Nat (List PAct) ay c.acts [1,4,10,11,12,17,18,19] (fun b _=>([bQ (aT 116) [] [au 0 0 0 0],AV.map 1,aW<|gs.map am,nV gs.length,nV a,aW<|c.acts.map ay,nV c.acts.length,nV b],[aZ 1 false 0 [ak],AObj.map [] 0])) (fun b _ d e f=>([bQ (aT 116) [] [au 0 0 0 0],AV.map 1,aW<|gs.map am,nV gs.length,nV a,aW<|c.acts.map ay,nV c.acts.length,nV b],[aZ 1 false 0 [aD 2 d 0 e none],AObj.map (b6 dj (al f) 0) (al f).length,aZ 7 true d<|f.map ay])) (fun a=>bq gs []=bq d (List.foldl jg [] a)) (fun a b c e=>c=e.length/\b+1=c/\c+a.length+1000*d.length<=1000*gs.length/\bq gs []=bq d (List.foldl jg e a)) (by(exact k)) (fun _ _ _ _ _ b c=>Kh 0 b<|Kl 0 34 (dU a)<|Kf 0<|e<|by exact c) (fun a _ b _ e f _ h i j _ k l=>have:=iC b i;Kt 0 j<|Mx k<|Kl 14 33 (dU a)<|Mg 0<|M0 (.ren [0,1,4,2,3] [] [1,4,10,11,12,17,18,19])<|M1 (.frz 3 [1,4,10,11,12,17,18,19]) (kF rt rt rt ti)<|Mf<|h 0 1 [e]<|by(refine⟨rfl,rfl,?_,l⟩;omega)) (fun _ _ b c e _ _ _ h i=>Kh 0 h<|Kl 0 34 (dU a)<|Kf 0<|f b c e<|by exact i) fun a _ b e f h _ i j _ k l m _ n o=>have:=iC h l;Kt 0 m<|Mx n<|K1 7 (.look<|dQ (gO i.number<|al f).isSome) (hlk f i.number)<|Ms (gO i.number<|al f).isSome (fun c=>Ml 28 (ct<|Eq.symm c)<|M1 (.frz 3 [1,4,8,10,11,12,17,18,19,23,24,28]) (kF (tR 7 true b 3<|aX Jn f) (tM (al f).length 3<|aG (f:=dj) (fun _=>rfl) (al f) 0) rt ti)<|Me (nC i (al f) b e f)<|K1 2 (.upd (b6 dj (al f) 0) (al f).length) (huo f i c)<|Kl 0 33 (dU a)<|Kf 0<|k b e f<|by(refine⟨by exact o.1,by exact o.2.1,by(have:=o.2.2.1;simp only[lC]at this;omega),?_⟩;rw[o.2.2.2,mG];first|rw[kW (by assumption)]|rw[kJ (by assumption)])) fun c=>Ml 28 (ct<|Eq.symm c)<|M1 (.frz 3 [1,4,8,10,11,12,17,18,19,23,24,28]) (kF (tR 7 true b 3<|aX Jn f) (tM (al f).length 3<|aG (f:=dj) (fun _=>rfl) (al f) 0) rt ti)<|Me (rb i (al f) b e f (by exact o.1)<|by(simp only[lC]at *;omega))<|K1 2 (.upd (b6 dj (al<|f++[i]) 0) (al<|f++[i]).length) (hun f i c)<|Kl 0 33 (dU a)<|Kf 0<|k (b+1) (e+1) (f++[i])<|by(refine⟨by(have:=o.1;simp;omega),by omega,by(have:=o.2.2.1;simp only[lC]at this;omega),?_⟩;rw[o.2.2.2,mG];first|rw[kW (by assumption)]|rw[kJ (by assumption)])) (fun _ _ a b c _ _ _ d e=>Kh 0 d<|M2 (.ren [0,2,1] [2,1] []) (tS 7 true a<|aX Jn c) (tN (al c).length<|aG (f:=dj) (fun _=>rfl) (al c) 0)<|M1 (.frz 2 []) (ch (tR 7 true a 2<|aX Jn c) rt ti)<|Mf<|et (ax<|dg []) (by(have q:bq gs []=c:=e.2.2.2;have h1:=e.1;have h2:=e.2.1;rw[q,<-h1,show b-1=a by omega]):(av [AObj.row 1 false 0 [AV.slice 1 a 0 b none],AObj.row 7 true a (c.map ay)])=(av [ox 1 ((bq gs []).length -1) (bq gs []).length,oz ((bq gs []).length -1) (bq gs [])]))) fun a _ b c d e _ f h _ i j k _ l m=>have:=hb _<|aI e j;have:=iC e j;Kt 0 k<|Mx l<|Kl 5 18 (ln ay f.acts)<|K1 0 (.frz 3 [1,4,10,11,12,17,18,19]) (kF (tR 7 true b 3<|aX Jn d) (tM (al d).length 3<|aG (f:=dj) (fun _=>rfl) (al d) 0) rt ti)<|Su ay f.acts b c d [1,4,10,11,12,17,18,19] (fun b _ c d e=>([bQ (aT 116) [] [au 0 0 0 0],AV.map 1,aW<|gs.map am,nV gs.length,nV a,aW<|f.acts.map ay,nV f.acts.length,nV b],[aZ 1 false 0 [aD 2 c 0 d none],AObj.map (b6 dj (al e) 0) (al e).length,aZ 7 true c<|e.map ay])) (fun a b c d=>c=d.length/\b+1=c/\c+a.length+1000*h.length<=1000*gs.length/\bq gs []=bq h (List.foldl jg d a)) (by(refine⟨m.1,m.2.1,?_,m.2.2.2⟩;have:=m.2.2.1;simp only[lC]at this;omega)) (fun _ _ b c d _ _ _ e f=>Kh 0 e<|Kl 0 34 (dU a)<|Kf 0<|i b c d<|by exact f) fun a _ b c d e _ i j k l m _ n o=>have:=iC e l;Kt 0 m<|Mx n<|K1 7 (.look<|dQ (gO i.number<|al d).isSome) (hlk d i.number)<|Ms (gO i.number<|al d).isSome (fun e=>Ml 28 (ct<|Eq.symm e)<|M1 (.frz 3 [1,4,8,10,11,12,17,18,19,23,24,28]) (kF (tR 7 true b 3<|aX Jn d) (tM (al d).length 3<|aG (f:=dj) (fun _=>rfl) (al d) 0) rt ti)<|Me (nC i (al d) b c d)<|K1 2 (.upd (b6 dj (al d) 0) (al d).length) (huo d i e)<|Kl 0 33 (dU a)<|Kf 0<|k b c d<|by(refine⟨by exact o.1,by exact o.2.1,by(have:=o.2.2.1;simp only[lC]at this;omega),?_⟩;rw[o.2.2.2,mG];first|rw[kW (by assumption)]|rw[kJ (by assumption)])) fun e=>Ml 28 (ct<|Eq.symm e)<|M1 (.frz 3 [1,4,8,10,11,12,17,18,19,23,24,28]) (kF (tR 7 true b 3<|aX Jn d) (tM (al d).length 3<|aG (f:=dj) (fun _=>rfl) (al d) 0) rt ti)<|Me (rb i (al d) b c d (by exact o.1)<|by(simp only[lC]at *;omega))<|K1 2 (.upd (b6 dj (al<|d++[i]) 0) (al<|d++[i]).length) (hun d i e)<|Kl 0 33 (dU a)<|Kf 0<|k (b+1) (c+1) (d++[i])<|by(refine⟨by(have:=o.1;simp;omega),by omega,by(have:=o.2.2.1;simp only[lC]at this;omega),?_⟩;rw[o.2.2.2,mG];first|rw[kW (by assumption)]|rw[kJ (by assumption)])
end Go.Proofs.YtdhkhecalpkngaaGreatDoor
