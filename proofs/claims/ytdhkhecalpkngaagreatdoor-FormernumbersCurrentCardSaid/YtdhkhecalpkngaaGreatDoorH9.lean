/- Functions walked: what each of them answers, for For each unit of the book of a day, Addresses contains its current address and Holders of that address contains the unit: part 9. Conditions: those that each theorem names. -/
import Derived.Test.YtdhkhecalpkngaaGreatDoorH8
namespace Go.Proofs.YtdhkhecalpkngaaGreatDoor
open Go Go.Ev
noncomputable def su(p:PId)(u:TUnit):au:=aay (kq p u)
noncomputable def ou(p:PId)(u:TUnit)(out:List au):List au:=bif bX p u then iX out (su p u)else out
noncomputable def sF(p:PId):List PDeed->TUnit->List au->List au
  |[],_,out=>out
  |d::r,u,out=>sF p r (aM u d).1 (ou p (aM u d).1 out)
noncomputable abbrev Gv:AV:=.func (.func 31) [] [.ptr 0 0 0 0,.ptr 4 0 0 0]
noncomputable abbrev LJ(p:PId)(u:TUnit):Prop:=kP 32 [eU u,aX p] (.tuple [.str (su p u),.bool (bX p u)])
theorem gN1(p:PId)(q u:TUnit)(hm:LJ p u)(h:By (bX p u) false):kD 31 [eU u,.ptr 0 0 0 0,.ptr 4 0 0 0] (aw [nQ p,fT [],bK,dR,dw,bU q]) (.tuple []) (aw [nQ p,fT [],bK,dR,dw,bU q]):=by
  unfold LJ at hm;rw[show bX p u=_ from h]at hm;exact Zq p q u _ hm
theorem gA1(p:PId)(q u:TUnit)(hm:LJ p u)(h:By (bX p u) true):kD 31 [eU u,.ptr 0 0 0 0,.ptr 4 0 0 0] (aw [nQ p,fT [],bK,dR,dw,bU q]) (.tuple []) (aw [nQ p,fT [su p u],bK,dz 6 0 1,dw,bU q,mr 0 [su p u]]):=by
  unfold LJ at hm;rw[show bX p u=_ from h]at hm;exact Zw p q u _ hm
theorem gN2(p:PId)(q u:TUnit)(d:PDeed)(hm:LJ p u)(h:By (bX p u) false):kD 31 [eU u,.ptr 0 0 0 0,.ptr 4 0 0 0] (aw [nQ p,fT [],bK,dR,dw,bU q,bp d]) (.tuple []) (aw [nQ p,fT [],bK,dR,dw,bU q,bp d]):=by
  unfold LJ at hm;rw[show bX p u=_ from h]at hm;exact ZU p q u d _ hm
theorem abr(p:PId)(q u:TUnit)(d:PDeed)(hm:LJ p u)(h:bX p u=false):kD 31 [eU u,.ptr 0 0 0 0,.ptr 4 0 0 0] (aw [nQ p,fT [],bK,dR,dw,bU q,bp d]) (.tuple []) (aw [nQ p,fT [],bK,dR,dw,bU q,bp d]):=gN2 p q u d hm h
theorem gA2(p:PId)(q u:TUnit)(d:PDeed)(hm:LJ p u)(h:By (bX p u) true):kD 31 [eU u,.ptr 0 0 0 0,.ptr 4 0 0 0] (aw [nQ p,fT [],bK,dR,dw,bU q,bp d]) (.tuple []) (aw [nQ p,fT [su p u],bK,dz 7 0 1,dw,bU q,bp d,mr 0 [su p u]]):=by
  unfold LJ at hm;rw[show bX p u=_ from h]at hm;exact Zk p q u d _ hm
theorem gB(p:PId)(q u:TUnit)(d:PDeed)(hm:LJ p u)(ep n:Nat)(out:List au)(hn:n=out.length)(he:ep+1=n)(hb:n<34359738368):kD 31 [eU u,.ptr 0 0 0 0,.ptr 4 0 0 0] (aw [nQ p,fT out,bK,dz 6 ep n,dw,bU q,mr ep out,bp d]) (.tuple []) (aw [nQ p,fT (ou p u out),bK,dz 6 ((ou p u out).length -1) (ou p u out).length,dw,bU q,mr ((ou p u out).length -1) (ou p u out),bp d]):=by
  unfold LJ at hm
  unfold ou
  have e1:out.length-1=ep:=by omega
  cases h:bX p u with
  | false=>
    rw[h]at hm
    show aN _ _ _ _ _ fun v h=>v=.tuple []/\h=aw [nQ p,fT out,bK,dz 6 (out.length-1) out.length,dw,bU q,mr (out.length-1) out,bp d]
    rw[e1,<-hn]
    exact Zx p q u d ep n out _ hm
  | true=>
    rw[h]at hm
    show aN _ _ _ _ _ fun v h=>v=.tuple []/\h=aw [nQ p,fT (iX out (su p u)),bK,dz 6 ((iX out (su p u)).length -1) (iX out (su p u)).length,dw,bU q,mr ((iX out (su p u)).length -1) (iX out (su p u)),bp d]
    cases hx:qB out (su p u)with
    | true=>
      rw[LX hx,e1,<-hn]
      exact Zz p q u d ep n out _ hx hm
    | false=>
      rw[Ft hx,lA,wT,<-hn,show n+1-1=ep+1 by omega]
      exact Zj p q u d ep n out _ hx hn hb hm
theorem zQ(p:PId)(u:TUnit)(out:List au):out.length<=(ou p u out).length/\(ou p u out).length<=out.length+1:=by
  unfold ou
  cases bX p u with
  |false=>exact⟨af _,n9 _⟩
  | true=>
    show out.length<=(iX out (su p u)).length/\(iX out (su p u)).length<=out.length+1
    cases h:qB out (su p u)with
    |true=>rw[LX h];omega
    |false=>rw[Ft h,lA,wT];omega
structure AdrI(Q:TUnit->Prop)(p:PId)(H:List au)(N:Nat)(r:List PDeed)(u:TUnit)(ep n:Nat)(out:List au):Prop where
  ok:Q u
  hn:n=out.length
  he:ep+1=n
  le:n+r.length<=N
  f:H=sF p r u out
theorem AdrI.step{Q:TUnit->Prop}{p:PId}{H:List au}{N:Nat}{r:List PDeed}{d:PDeed}{u:TUnit}{ep n:Nat}{out:List au}(h:AdrI Q p H N (d::r) u ep n out)(h1:Q (aM u d).1):AdrI Q p H N r (aM u d).1 ((ou p (aM u d).1 out).length -1) (ou p (aM u d).1 out).length (ou p (aM u d).1 out):=by
  have:=h.hn
  have:=h.he
  have z:=h.le
  have:=zQ p (aM u d).1 out
  rw[lC]at z
  exact⟨h1,rfl,by omega,by omega,h.f⟩
theorem AdrI.done{Q:TUnit->Prop}{p:PId}{H:List au}{N:Nat}{u:TUnit}{ep n:Nat}{out:List au}(h:AdrI Q p H N [] u ep n out):out=H/\n=H.length/\ep=H.length-1:=by
  have e:H=out:=h.f
  have:=h.hn
  have:=h.he
  rw[e];exact⟨rfl,by omega,by omega⟩
structure Adr0(Q:TUnit->Prop)(p:PId)(H:List au)(N:Nat)(r:List PDeed)(u:TUnit):Prop where
  ok:Q u
  le:r.length<=N
  f:H=sF p r u []
theorem W6{p:PId}{u:TUnit}{out:List au}(h:By (bX p u) false):ou p u out=out:=by
  unfold ou;rw[show bX p u=_ from h];rfl
theorem TB{p:PId}{u:TUnit}(h:By (bX p u) true):ou p u []=[su p u]:=by
  unfold ou;rw[show bX p u=_ from h];show iX [] (su p u)=_;exact Ft (show qB [] (su p u)=false from rfl)
theorem Adr0.step{Q:TUnit->Prop}{p:PId}{H:List au}{N:Nat}{r:List PDeed}{d:PDeed}{u:TUnit}(h:Adr0 Q p H N (d::r) u)(h1:Q (aM u d).1)(hW:By (bX p (aM u d).1) false):Adr0 Q p H N r (aM u d).1:=by
  have z:=h.le
  rw[lC]at z
  have f:=h.f
  rw[sF,W6 hW]at f
  exact⟨h1,by omega,f⟩
theorem Adr0.go{Q:TUnit->Prop}{p:PId}{H:List au}{N:Nat}{r:List PDeed}{d:PDeed}{u:TUnit}(h:Adr0 Q p H N (d::r) u)(h1:Q (aM u d).1)(hW:By (bX p (aM u d).1) true):AdrI Q p H (N+1) r (aM u d).1 0 1 [su p (aM u d).1]:=by
  have z:=h.le
  rw[lC]at z
  have f:=h.f
  rw[sF,TB hW]at f
  exact⟨h1,rfl,rfl,by omega,f⟩
theorem Xx(Q:TUnit->Prop)(w:TUnit)(hw:Q w)(h0:kP 51 [] (eU w))(p:PId)(Y:List PDeed)(H:List au)(hl:Y.length<=7200)(ho:∀d,d∈Y->qe d.it/\jJ d.it.kind=true)(hq:∀u,Q u->OkB u)(hs:∀u d,Q u->qe d.it->jJ d.it.kind=true->Q (aM u d).1)(hp:∀u,Q u->LJ p u)(hW:By (bX p w) false)(hH:H=sF p Y w [])(hn:H≠[]):kD 30 [.ls (Y.map aq),Gv] (aw [nQ p,fT [],bK,dR,dw]) (.tuple []) (aw [nQ p,fT H,bK,dz 5 (H.length-1) H.length,dw,mr (H.length-1) H]):=by
  have ha:=gN1 p w w (hp w hw) hW
  exact GJ Tryz.func30<|Mp h0<|Ke 3 ha<|Kl 1 12 (ln aq Y)<|Mg 0<|TG TUnit Nat Nat (List au) aq Y w [1,4,11,12,13] (fun a _ b=>([bx (bz 31) [] [ah 0 0 0 0,ah 4 0 0 0],ah 5 0 0 0,aJ<|Y.map aq,nV Y.length,nV a],[aZ 3 false 0 [ak [iV p.a,iV p.i,iV p.n]],AObj.map [] 0,aZ 1 false 0 [AV.map 1],aZ 1 false 0 [ab],aZ 1 false 0 [bx (bz 66) [] [ah 2 0 0 0,ah 3 0 0 0]],aZ 8 false 0 [ak (uLx b)]])) (fun a _ b c e f=>([bx (bz 31) [] [ah 0 0 0 0,ah 4 0 0 0],ah 5 0 0 0,aJ<|Y.map aq,nV Y.length,nV a],[aZ 3 false 0 [ak [iV p.a,iV p.i,iV p.n]],AObj.map (an nP bD (jG f) 0) f.length,aZ 1 false 0 [AV.map 1],aZ 1 false 0 [bQ 6 c 0 e none],aZ 1 false 0 [bx (bz 66) [] [ah 2 0 0 0,ah 3 0 0 0]],aZ 8 false 0 [ak (uLx b)],aZ 1 true c<|f.map nP])) (fun a b=>Adr0 Q p H (7200:Nat) a b) (fun a b c e f=>AdrI Q p H (7201:Nat) a b c e f) (by(exact⟨hw,by omega,hH⟩)) (fun _ _ _ _ _ _ a b=>Kh 0 a<|Mw .abs (by(exfalso;exact hn b.f):False)) (fun a _ b c _ e f g h i j _ k l=>have c:=ho _<|aA c i;Kt 0 j<|Mx k<|Kp 4 (tX b e (by exact hq _ l.ok) (by exact c.1)<|by exact c.2)<|Ks 5 (bX p (aM b e).1) (fun g=>Me (gA2 p (aM b e).1 (aM b e).1 e (by exact hp _ (hs _ _ l.ok c.1 c.2)) g)<|Kl 0 26 (dq a)<|Mg 0<|M0 (.ren [0,1,2,3,4,5,7,6] [] [1,4,11,12,13])<|M1 (.frz 7 [1,4,11,12,13]) (Pe rt rt rt rt rt rt rt ti)<|Mf<|h (aM b e).1 0 1 [su p (aM b e).1]<|by exact l.go (hs _ _ l.ok c.1 c.2) (by assumption)) fun h=>Me (gN2 p (aM b e).1 (aM b e).1 e (by exact hp _ (hs _ _ l.ok c.1 c.2)) h)<|Kl 0 26 (dq a)<|K1 0 (.frz 6 [1,4,11,12,13]) (Bq rt rt rt rt rt rt ti)<|Mf<|g (aM b e).1<|by exact l.step (hs _ _ l.ok c.1 c.2) (by assumption)) (fun _ _ _ a b c _ _ _ e f=>Kh 0 e<|M2 (.ren [0,1,2,3,4,6,5] [1,6] []) (tN c.length (by exact uA _:aO (an nP bD (jG c) 0)=0)) (tS 1 true a<|aW KE c)<|M1 (.frz 6 []) (Bq (tR 1 true a 6<|aW KE c) rt rt rt (tM c.length 6 (by exact uA _:aO (an nP bD (jG c) 0)=0)) rt ti)<|Mf<|et (aV<|bP []) (by(obtain⟨z1,z2,z3⟩:=f.done;rw[z3,z2,z1];try rfl;done):(aw [AObj.row 3 false 0 [AV.agg [iV p.a,iV p.i,iV p.n]],AObj.map (an nP bD (jG c) 0) c.length,AObj.row 1 false 0 [AV.map 1],AObj.row 1 false 0 [AV.slice 5 a 0 b none],AObj.row 1 false 0 [AV.func (Fn.func 66) [] [AV.ptr 2 0 0 0,AV.ptr 3 0 0 0]],AObj.row 1 true a (c.map nP)])=(aw [nQ p,fT H,bK,dz 5 (H.length-1) H.length,dw,mr (H.length-1) H]))) fun a _ b c e f g _ h i _ j k l _ m n=>have g:=ho _<|aA g k;Kt 0 l<|Mx m<|Kp 4 (tX b h (by exact hq _ n.ok) (by exact g.1)<|by exact g.2)<|Ke 5 (gB p (aM b h).1 (aM b h).1 h (by exact hp _ (hs _ _ n.ok g.1 g.2)) c e f (by exact n.hn) (by exact n.he)<|by(have z1:=n.le;omega))<|Kl 0 26 (dq a)<|K1 0 (.frz 7 [1,4,11,12,13]) (Pe (tR 1 true ((ou p (aM b h).1 f).length -1) 7<|aW KE<|ou p (aM b h).1 f) rt rt rt rt (tM (ou p (aM b h).1 f).length 7 (by exact uA _:aO (an nP bD (jG (ou p (aM b h).1 f)) 0)=0)) rt ti)<|Mf<|j (aM b h).1 ((ou p (aM b h).1 f).length -1) (ou p (aM b h).1 f).length (ou p (aM b h).1 f)<|by exact n.step (hs _ _ n.ok g.1 g.2)
def Ge(Q:TUnit->Prop)(p:PId)(Y:List PDeed)(H:List au)(x0:Nat×List PDeed×TUnit×Nat×Nat×List au):Prop:=(Y).drop x0.1=x0.2.1/\AdrI Q p H (7201:Nat) x0.2.1 x0.2.2.1 x0.2.2.2.1 x0.2.2.2.2.1 x0.2.2.2.2.2
noncomputable def xy(Q:TUnit->Prop)(p:PId)(Y:List PDeed)(H:List au)(x0:Nat×List PDeed×TUnit×Nat×Nat×List au):List AV×List AObj:=([AV.func (Fn.func 31) [] [AV.ptr 0 0 0 0,AV.ptr 4 0 0 0],AV.ptr 5 0 0 0,AV.ls (Y.map aq),nV Y.length,nV x0.1],[AObj.row 3 false 0 [AV.agg [iV p.a,iV p.i,iV p.n]],AObj.map (an nP bD (jG x0.2.2.2.2.2) 0) x0.2.2.2.2.2.length,AObj.row 1 false 0 [AV.map 1],AObj.row 1 false 0 [AV.slice 6 x0.2.2.2.1 0 x0.2.2.2.2.1 none],AObj.row 1 false 0 [AV.func (Fn.func 66) [] [AV.ptr 2 0 0 0,AV.ptr 3 0 0 0]],AObj.row 8 false 0 [AV.agg (uLx x0.2.2.1)],AObj.row 1 true x0.2.2.2.1 (x0.2.2.2.2.2.map nP)])
theorem Xz(Q:TUnit->Prop)(w:TUnit)(hw:Q w)(h0:kP 51 [] (eU w))(p:PId)(Y:List PDeed)(H:List au)(hl:Y.length<=7200)(ho:∀d,d∈Y->qe d.it/\jJ d.it.kind=true)(hq:∀u,Q u->OkB u)(hs:∀u d,Q u->qe d.it->jJ d.it.kind=true->Q (aM u d).1)(hp:∀u,Q u->LJ p u)(hW:By (bX p w) true)(hH:H=sF p Y w [su p w]):kD 30 [.ls (Y.map aq),Gv] (aw [nQ p,fT [],bK,dR,dw]) (.tuple []) (aw [nQ p,fT H,bK,dz 5 (H.length-1) H.length,dw,mr (H.length-1) H]):=by
  have ha:=gA1 p w w (hp w hw) hW
  have hI:AdrI Q p H 7201 Y w 0 1 [su p w]:=⟨hw,rfl,rfl,by omega,hH⟩
  exact GJ Tryz.func30<|Mp h0<|Ke 3 ha<|Kl 1 12 (ln aq Y)<|Mg 0<|ML (Nat×List PDeed×TUnit×Nat×Nat×List au) [1,4,11,12,13] (xy Q p Y H) (Ge Q p Y H) (fun a=>a.2.1.length) (0,Y,(w,0,1,[su p w])) (aV<|xy Q p Y H (0,Y,(w,0,1,[su p w]))) (et (rfl:List.drop 0 (Y)=Y) (by(exact hI):(AdrI Q p H (7201:Nat) Y w (0:Nat) (1:Nat) [su p w]))) fun a b c=>Mc a.2.1 (fun c=>have e:=eu b.1 c;have b:=gJ (J:=fun a b=>AdrI Q p H (7201:Nat) a b.1 b.2.1 b.2.2.1 b.2.2.2) (a:=a.2.2) c b.2;Kh 0 e<|M2 (.ren [0,1,2,3,4,6,5] [1,6] []) (tN a.2.2.2.2.2.length (by exact uA _:aO (an nP bD (jG a.2.2.2.2.2) 0)=0)) (tS 1 true a.2.2.2.1<|aW KE a.2.2.2.2.2)<|M1 (.frz 6 []) (Bq (tR 1 true a.2.2.2.1 6<|aW KE a.2.2.2.2.2) rt rt rt (tM a.2.2.2.2.2.length 6 (by exact uA _:aO (an nP bD (jG a.2.2.2.2.2) 0)=0)) rt ti)<|Mf<|et (aV<|bP []) (by(obtain⟨z1,z2,z3⟩:=b.done;rw[z3,z2,z1];try rfl;done):(aw [AObj.row 3 false 0 [AV.agg [iV p.a,iV p.i,iV p.n]],AObj.map (an nP bD (jG a.2.2.2.2.2) 0) a.2.2.2.2.2.length,AObj.row 1 false 0 [AV.map 1],AObj.row 1 false 0 [AV.slice 5 a.2.2.2.1 0 a.2.2.2.2.1 none],AObj.row 1 false 0 [AV.func (Fn.func 66) [] [AV.ptr 2 0 0 0,AV.ptr 3 0 0 0]],AObj.row 1 true a.2.2.2.1 (a.2.2.2.2.2.map nP)])=(aw [nQ p,fT H,bK,dz 5 (H.length-1) H.length,dw,mr (H.length-1) H]))) fun e f g=>have h:=fX b.1 g;have:=ap h;have i:=ei (enc:=aq) b.1 g;have j:=cw (J:=fun a b=>AdrI Q p H (7201:Nat) a b.1 b.2.1 b.2.2.1 b.2.2.2) (a:=a.2.2) g b.2;have k:=ho _<|aA b.1 g;Kt 0 h<|Mx i<|Kp 4 (tX a.2.2.1 e (by exact hq _ j.ok) (by exact k.1)<|by exact k.2)<|Ke 5 (gB p (aM a.2.2.1 e).1 (aM a.2.2.1 e).1 e (by exact hp _ (hs _ _ j.ok k.1 k.2)) a.2.2.2.1 a.2.2.2.2.1 a.2.2.2.2.2 (by exact j.hn) (by exact j.he)<|by(have z1:=j.le;omega))<|Kl 0 26 (dq a.1)<|K1 0 (.frz 7 [1,4,11,12,13]) (Pe (tR 1 true ((ou p (aM a.2.2.1 e).1 a.2.2.2.2.2).length -1) 7<|aW KE<|ou p (aM a.2.2.1 e).1 a.2.2.2.2.2) rt rt rt rt (tM (ou p (aM a.2.2.1 e).1 a.2.2.2.2.2).length 7 (by exact uA _:aO (an nP bD (jG (ou p (aM a.2.2.1 e).1 a.2.2.2.2.2)) 0)=0)) rt ti)<|Mf<|c (a.1+1,f,((aM a.2.2.1 e).1,(ou p (aM a.2.2.1 e).1 a.2.2.2.2.2).length -1,(ou p (aM a.2.2.1 e).1 a.2.2.2.2.2).length,ou p (aM a.2.2.1 e).1 a.2.2.2.2.2)) (et (bf b.1 g) (by exact j.step (hs _ _ j.ok k.1 k.2):(AdrI Q p H (7201:Nat) f (aM a.2.2.1 e).1 ((ou p (aM a.2.2.1 e).1 a.2.2.2.2.2).length -1) (ou p (aM a.2.2.1 e).1 a.2.2.2.2.2).length (ou p (aM a.2.2.1 e).1 a.2.2.2.2.2))))<|ed g
theorem Adr0.nil{Q:TUnit->Prop}{p:PId}{N:Nat}{r:List PDeed}{d:PDeed}{u:TUnit}(h:Adr0 Q p [] N (d::r) u):By (bX p (aM u d).1) false:=by
  have mono:∀(r:List PDeed)(u:TUnit)(out:List au),out.length<=(sF p r u out).length:=fun r=>by
    induction r with
    |nil=>exact fun _ _=>af _
    |cons d r ih=>exact fun u out=>bu (zQ p _ out).1 (ih _ _)
  cases q:bX p (aM u d).1 with
  |false=>rfl
  | true=>
    have z2:=mono r (aM u d).1 (ou p (aM u d).1 [])
    have f:=h.f
    rw[sF]at f
    rw[<-f,TB q]at z2
    simp only[lN,wT]at z2;omega
theorem Xj(Q:TUnit->Prop)(w:TUnit)(hw:Q w)(h0:kP 51 [] (eU w))(p:PId)(Y:List PDeed)(hl:Y.length<=7200)(ho:∀d,d∈Y->qe d.it/\jJ d.it.kind=true)(hq:∀u,Q u->OkB u)(hs:∀u d,Q u->qe d.it->jJ d.it.kind=true->Q (aM u d).1)(hp:∀u,Q u->LJ p u)(hW:By (bX p w) false)(hH:[]=sF p Y w []):kD 30 [.ls (Y.map aq),Gv] (aw [nQ p,fT [],bK,dR,dw]) (.tuple []) (aw [nQ p,fT [],bK,dR,dw]):=by
  have ha:=gN1 p w w (hp w hw) hW
  exact dL Tryz.func30 fun a=>Mp h0<|Ke 3 ha<|Kl 1 12 (ln aq Y)<|Mg 0<|JY aq Y w [1,4,11,12,13] (fun a _ b=>([bx (bz 31) [] [ah 0 0 0 0,ah 4 0 0 0],ah 5 0 0 0,aJ<|Y.map aq,nV Y.length,nV a],[aZ 3 false 0 [ak [iV p.a,iV p.i,iV p.n]],AObj.map [] 0,aZ 1 false 0 [AV.map 1],aZ 1 false 0 [ab],aZ 1 false 0 [bx (bz 66) [] [ah 2 0 0 0,ah 3 0 0 0]],aZ 8 false 0 [ak (uLx b)]])) (fun a b=>Adr0 Q p [] (7200:Nat) a b) (by(exact⟨hw,by omega,hH⟩)) (fun _ _ _ _ _ _ b _=>Kh 0 b<|M1 (.frz 5 []) (xM rt rt rt rt rt ti)<|Mf a) fun a _ b c _ e f g h i _ j k=>have c:=ho _<|aA c h;Kt 0 i<|Mx j<|Kp 4 (tX b e (by exact hq _ k.ok) (by exact c.1)<|by exact c.2)<|Ke 5 (abr p (aM b e).1 (aM b e).1 e (by exact hp _ (hs _ _ k.ok c.1 c.2))<|by exact k.nil)<|Kl 0 26 (dq a)<|K1 0 (.frz 6 [1,4,11,12,13]) (Bq rt rt rt rt rt rt ti)<|Mf<|g (aM b e).1<|by exact k.step (hs _ _ k.ok c.1 c.2) k.nil
theorem aaB(gs:List PGaz)(day:Int)(f:au)(p:PId)(X:List PDeed)(ho:kP 20 [iV day,.str f,.ls (gs.map aI)] (.ls (X.map aq)))(hs:kD 30 [.ls (X.map aq),Gv] (aw [nQ p,fT [],bK,dR,dw]) (.tuple []) (aw [nQ p,fT [],bK,dR,dw])):kP 11 [aX p,iV day,.str f,.ls (gs.map aI)] (.ls (([]:List au).map nP)):=by
  exact b6 Tryz.func11<|Kp 11 ho<|Ke 0 hs<|Kf 2 bO
theorem W5(gs:List PGaz)(day:Int)(f:au)(p:PId)(X:List PDeed)(H:List au)(ho:kP 20 [iV day,.str f,.ls (gs.map aI)] (.ls (X.map aq)))(hs:kD 30 [.ls (X.map aq),Gv] (aw [nQ p,fT [],bK,dR,dw]) (.tuple []) (aw [nQ p,fT H,bK,dz 5 (H.length-1) H.length,dw,mr (H.length-1) H])):kP 11 [aX p,iV day,.str f,.ls (gs.map aI)] (.ls (H.map nP)):=by
  have ht:=uA H
  let q:=List.map nP H;exact b6 Tryz.func11<|Kp 11 ho<|Ke 0 hs<|Mg 2<|M2 (.fsl 0 [] 8 q) ti (cF (aV<|H.length-1) (tA nP H H.length rfl)<|aW KE H)<|Ml 8 (fc q false<|aW KE H)<|Mf<|bo<|aJ q
theorem Ta{α:Type}{f:α->Bool}{b c:Bool}{r:List α}{w:α}(h:b=(c||(w::r).any f))(hw:f w=true\/c=true):b=(true||r.any f):=by
  rw[h,List.any_cons]
  rcases hw with h|h<;>rw[h]<;>simp
theorem Ty{α:Type}{f:α->Bool}{b c:Bool}{r:List α}{w:α}(h:b=(c||(w::r).any f))(hc:c=false):b=(f w||r.any f):=by
  rw[h,hc,List.any_cons];simp
theorem Ni{α:Type}{f:α->Bool}{b c:Bool}(h:b=(c||([]:List α).any f))(hb:b=true)(hc:c=false):False:=by
  rw[hb,hc]at h;cases h
theorem Ys(gs:List PGaz)(day:Int)(f:au)(haw:kP 7 [] (.bool true))(hw:kP 6 [.ls (gs.map aI),.str f,.nils] (.bool false)):kP 3 [.ls (gs.map aI),iV day,.str f] (.bool true):=by
  exact b6 Tryz.func3<|Kp 2 hw<|Kp 1 haw<|Kf 0<|bo<|dU true
theorem Yt(gs:List PGaz)(day:Int)(f:au)(u:TUnit)(I:List PId)(ad:PId->List au)(hd:PId->List PId)(haw:kP 7 [] (.bool true))(hw:kP 6 [.ls (gs.map aI),.str f,.nils] (.bool true))
    (hB:kP 8 [iV day,.str f,.ls (gs.map aI)] (eU u))(hI:kP 9 [eU u] (.ls (I.map aX)))(hl:I.length<2^30)
    (hF:∀i,i∈I->kP 10 [eU u,aX i] (.tuple [.ls ((kq i u).map aK),.bool true]))
    (hA:∀i,i∈I->kP 11 [aX i,iV day,.str f,.ls (gs.map aI)] (.ls ((ad i).map nP)))
    (hM:∀i,i∈I->kP 12 [.ls ((kq i u).map aK)] (.str (su i u)))
    (hH:∀i,i∈I->kP 13 [iV day,.str f,.ls ((kq i u).map aK),.ls (gs.map aI)] (.ls ((hd i).map aX)))
    (la:∀i,(ad i).length<2^36)(lh:∀i,(hd i).length<2^36)
    (ha:∀i,i∈I->(ad i).any (fun s=>dH s (su i u))=true)(hh:∀i,i∈I->(hd i).any (fun x=>aa x.a i.a&&(aa x.i i.i&&aa x.n i.n))=true):
    kP 3 [.ls (gs.map aI),iV day,.str f] (.bool true):=by
  have rr0 b' (h:(true)=b':=by first|rfl|(exfalso;exact Ni hj1 (ha _ q0) ‹_›)|(exfalso;exact Ni hj2 (hh _ q0) ‹_›)):=h;exact b6 Tryz.func3<|Kp 2 hw<|Kp 4 hB<|Kp 2 hI<|Kl 0 29 (ln aX I)<|Mg 0<|Pi (0:Nat) I () [0,1,2,7,28,29,30] (fun a _ _=>([aJ<|gs.map aI,iV day,ax f,ah 0 0 0 0,aJ<|I.map aX,nV I.length,nV a],[aZ 8 false 0 [ak (uLx u)]])) (fun a b _=>(I).drop a=b/\True) (fun _ a _=>a.length) (et rfl<|by(trivial)) fun a b c d e=>Mc b (fun a=>have b:=eu d.1 a;have:=gJ (J:=fun _ _=>True) (a:=c) a d.2;Kh 0 b<|Mp haw<|Kf 0<|bo<|dU true) fun b g j=>let k:=[iV b.a,iV b.i,iV b.n];have l:=fX d.1 j;have:=ap l;have m:=ei (enc:=aX) d.1 j;have:=cw (J:=fun _ _=>True) (a:=c) j d.2;have q0:=aA d.1 j;have:=la b;have:=lh b;Kt 0 l<|Mx m<|Kp 4 (hF b q0)<|Kp 10 (hA b q0)<|Kl 0 45 (ln nP<|ad b)<|Mg 0<|JY nP (ad b) false [0,1,2,7,9,10,11,12,13,28,29,30,44,45,46] (fun c _ d=>([aJ<|gs.map aI,iV day,ax f,ah 0 0 0 0,ah 1 0 0 0,aJ<|(kq b u).map aK,dU true,dU d,dU false,aJ<|I.map aX,nV I.length,nV a,aJ<|(ad b).map nP,nV (ad b).length,nV c],[aZ 8 false 0 [ak (uLx u)],aZ 3 false 0 [ak [iV b.a,iV b.i,iV b.n]]])) (fun a c=>(ad b).any (fun a=>dH a<|su b u)=(c||a.any fun a=>dH a<|su b u)) (by rfl) (fun _ _ c _ _ _ l hj1=>Kh 0 l<|Kp 3 (hH b q0)<|Kl 0 63 (ln aX<|hd b)<|Mg 0<|Pi (0:Nat) (hd b) false [0,1,2,7,9,11,12,13,28,29,30,62,63,64] (fun d _ e=>([aJ<|gs.map aI,iV day,ax f,ah 0 0 0 0,ah 1 0 0 0,dU true,dU c,dU e,aJ<|I.map aX,nV I.length,nV a,aJ<|(hd b).map aX,nV (hd b).length,nV d],[aZ 8 false 0 [ak (uLx u)],aZ 3 false 0 [ak [iV b.a,iV b.i,iV b.n]]])) (fun a c d=>(hd b).drop a=c/\(hd b).any (fun a=>aa a.a b.a&&(aa a.i b.i&&aa a.n b.n))=(d||c.any fun a=>aa a.a b.a&&(aa a.i b.i&&aa a.n b.n))) (fun _ a _=>a.length) (et rfl<|by rfl) fun l m n o p=>Mc m (fun k=>have l:=eu o.1 k;have hj2:=gJ (J:=fun a c=>(hd b).any (fun a=>aa a.a b.a&&(aa a.i b.i&&aa a.n b.n))=(c||a.any fun a=>aa a.a b.a&&(aa a.i b.i&&aa a.n b.n))) (a:=n) k o.2;Kh 0 l<|Kn 6 c (fun a=>Mt (dY a)<|MV (dY a)<|Ky 1<|rr0 false) fun b=>Kh 0 (c9 b)<|Kw 0 (c9 b)<|Mn n (fun _=>Kf 0<|cC<|rr0 false) fun _=>Kl 0 85 (dq a)<|K1 0 (.frz 1 [0,1,2,7,28,29,30]) (et rt ti)<|Mf<|e (a+1) g () (et (bf d.1 j)<|by trivial)<|ed j) fun a c d=>let e:=[iV a.a,iV a.i,iV a.n];have g:=fX o.1 d;have:=ap g;have j:=ei (enc:=aX) o.1 d;have hj2:=cw (J:=fun a c=>(hd b).any (fun a=>aa a.a b.a&&(aa a.i b.i&&aa a.n b.n))=(c||a.any fun a=>aa a.a b.a&&(aa a.i b.i&&aa a.n b.n))) (a:=n) d o.2;Kt 0 g<|Mx j<|Kb 4 n (fun a=>Mt a<|Mt a<|MV a<|Kl 1 74 (dq l)<|K1 0 (.frz 2 [0,1,2,7,9,11,12,13,28,29,30,62,63,64]) (cF rt rt ti)<|Mf<|p (l+1) c true (et (bf o.1 d)<|by exact Ta hj2 (.inr (by assumption)))<|ed d) fun g=>Kh 0 g<|Kh 0 g<|Mv (kT ((Tryz.prog).underlying 26) a.a a.i a.n b.a b.i b.n<|aw [aZ 8 false 0 [ak (uLx u)],aZ 3 false 0 [ak k],aZ 3 false 0 [ak e]])<|My g<|Kl 1 74 (dq l)<|K1 0 (.frz 2 [0,1,2,7,9,11,12,13,28,29,30,62,63,64]) (cF rt rt ti)<|Mf<|p (l+1) c (aa a.a b.a&&(aa a.i b.i&&aa a.n b.n)) (et (bf o.1 d)<|by exact Ty hj2 (by assumption))<|ed d) fun a _ c _ _ d e g _ j _ k hj1=>Kt 0 j<|Mx k<|Kb 3 c (fun c=>Mt c<|Mt c<|Mt c<|MV c<|Kl 1 57 (dq a)<|Kf 0<|g true<|by exact Ta hj1 (.inr (by assumption))) fun c=>Kh 0 c<|Kh 0 c<|Mp (hM b q0)<|Mh c<|Kw 0 c<|Kl 1 57 (dq a)<|Kf 0<|g (dH d<|su b u)<|by exact Ty hj1 (by assumption)
def K8(u:TUnit)(x0:Nat×List TUnit×Unit):Prop:=(u.kids).drop x0.1=x0.2.1/\am u::bG u.kids=am u::bG x0.2.1
noncomputable def BN(u:TUnit)(x0:Nat×List TUnit×Unit):List AV×List AObj:=([AV.ptr 0 0 0 0,AV.ps [AV.agg [iV (am u).a,iV (am u).i,iV (am u).n]] true,nV x0.1],[AObj.row 8 false 0 [AV.agg (uLx u)]])
def K7(u:TUnit)(x0:Nat×List TUnit×Nat×Nat×List PId):Prop:=(u.kids).drop x0.1=x0.2.1/\x0.2.2.2.1=x0.2.2.2.2.length/\am u::bG u.kids=x0.2.2.2.2++bG x0.2.1
noncomputable def K6(u:TUnit)(x0:Nat×List TUnit×Nat×Nat×List PId):List AV×List AObj:=([AV.ptr 0 0 0 0,AV.slice 1 x0.2.2.1 0 x0.2.2.2.1 none,nV x0.1],[AObj.row 8 false 0 [AV.agg (uLx u)],AObj.row 3 true x0.2.2.1 (x0.2.2.2.2.map aX)])
theorem Wy:∀(u:TUnit),nU u<=2^20->kP 9 [eU u] (.ls ((am u::bG u.kids).map aX)):=by
  refine TUnit.ind fun u ih hn=>?_
  have hkl:=bg u
  have ihk:∀k,k∈u.kids->kP 9 [eU k] (.ls ((am k::bG k.kids).map aX)):=fun k hk=>ih k hk (bu (qz (gv hk)) hn)
  have hlen:(am u::bG u.kids).length<=2^20:=by rw[<-ib,<-kL];omega
  have rr0:∀b',(h:((am u::bG u.kids).map aX)=b':=by first|rfl|exact aW Bc _|(rw[hj0,lF];rfl)|(rw[hj0.2,lF,eF];first|done|rfl))->((am u::bG u.kids).map aX)=b':=(fun _ h=>h);let q:=[ak [iV (am u).a,iV (am u).i,iV (am u).n]];exact b6 Tryz.func9 (Mg 6 (MM (Nat×List TUnit×Unit) (Nat×List TUnit×Nat×Nat×List PId) [1,3,4] (BN u) (K6 u) (K8 u) (K7 u) (fun x=>x.2.1.length) (fun x=>x.2.1.length) (.inl (0,u.kids,())) (aV ((BN u) (0,u.kids,()))) (et (rfl:List.drop 0 (u.kids)=u.kids) (by rfl:(am u::bG u.kids=am u::bG u.kids))) (fun x0 hx0 nx0=>Mc x0.2.1 (fun hr0=>have lt0:=eu hx0.1 hr0;(have hj0:=gJ (J:=fun r x=>am u::bG u.kids=am u::bG r) (a:=x0.2.2) hr0 hx0.2;(Kl 3 11 (Le.len (f:=aY) (l:=u.kids)) (Kh 0 lt0 (Kf 1 ((Le.lsp (rr0 (q)) (by rfl)):Le _ (lY q true))))))) (fun w0 r0 hr0=>have lt0:=fX hx0.1 hr0;(have glt0:=ap lt0;(have nt0:=(ei (enc:=aY) hx0.1 hr0).trans (congrArg some (aR w0));(have hj0:=cw (J:=fun r x=>am u::bG u.kids=am u::bG r) (a:=x0.2.2) hr0 hx0.2;(have q0:(bG (w0::r0)).length=(am w0::bG w0.kids).length+(bG r0).length:=(by rw[dS,ib,lA]);(Kl 3 11 (Le.len (f:=aY) (l:=u.kids)) (Kt 0 lt0 (Kx 3 nt0 (Kp 0 (ihk w0 (by exact aA hx0.1 hr0)) (M2 .apl (et (by simp_all:List.map aX (am w0::bG w0.kids)≠[]) (gY (sz:=3) (f:=aX) (fun _=>by rfl) (am w0::bG w0.kids))) (et (by(have z:=congrArg List.length hj0;simp only[lM,lC,lN]at *;refine aF (m:=2^21) ?_ ?_ ?_<;>omega):small (([AV.agg [iV (am u).a,iV (am u).i,iV (am u).n]]).length+((am w0::bG w0.kids).map aX).length) 24=true) rt) (M1 (.obj 1 (aZ 3 true 0 (([am u]++am w0::bG w0.kids).map aX))) (congrArg (aZ 3 true 0) (by rfl:q++List.map aX (am w0::bG w0.kids)=List.map aX ([am u]++am w0::bG w0.kids))) (Kl 2 14 (Le.wr (x:=Int.ofNat x0.1+1) fH) (Kf 0 (nx0 (.inr (x0.1+1,r0,(0,(q++List.map aX (am w0::bG w0.kids)).length,[am u]++am w0::bG w0.kids))) (et (bf hx0.1 hr0) (by exact⟨by simp,by rw[hj0,dS,ib];rfl⟩:(([AV.agg [iV (am u).a,iV (am u).i,iV (am u).n]]++List.map aX (am w0::bG w0.kids)).length=([am u]++am w0::bG w0.kids).length/\am u::bG u.kids=[am u]++am w0::bG w0.kids++bG r0))) (ed hr0)))))))))))))))) (fun x0 hx0 nx0=>let q1:=List.map aX x0.2.2.2.2;Mc x0.2.1 (fun hr0=>have lt0:=eu hx0.1 hr0;(have hj0:=gJ (J:=fun r x=>x.2.1=x.2.2.length/\am u::bG u.kids=x.2.2++bG r) (a:=x0.2.2) hr0 hx0.2;(Kl 3 11 (Le.len (f:=aY) (l:=u.kids)) (Kh 0 lt0 (Mg 1 (M2 (.fsl 0 [] 2 q1) ti (cF (aV (x0.2.2.1)) (Ej (f:=aX) (l:=x0.2.2.2.2) (n:=x0.2.2.2.1) (by omega:(x0.2.2.2.2).length=x0.2.2.2.1)) (aW Bc (x0.2.2.2.2))) (Ml 2 (fc q1 (false) (aW Bc (x0.2.2.2.2))) (Mf (ct (rr0 q1)))))))))) (fun w0 r0 hr0=>have lt0:=fX hx0.1 hr0;(have glt0:=ap lt0;(have nt0:=(ei (enc:=aY) hx0.1 hr0).trans (congrArg some (aR w0));(have hj0:=cw (J:=fun r x=>x.2.1=x.2.2.length/\am u::bG u.kids=x.2.2++bG r) (a:=x0.2.2) hr0 hx0.2;(have q0:(bG (w0::r0)).length=(am w0::bG w0.kids).length+(bG r0).length:=(by rw[dS,ib,lA]);(Kl 3 11 (Le.len (f:=aY) (l:=u.kids)) (Kt 0 lt0 (Kx 3 nt0 (Kp 0 (ihk w0 (by exact aA hx0.1 hr0)) (M2 .apl (et (by simp_all:List.map aX (am w0::bG w0.kids)≠[]) (gY (sz:=3) (f:=aX) (fun _=>by rfl) (am w0::bG w0.kids))) (cF (aV (x0.2.2.1)) (by simp_all:x0.2.2.2.1=(x0.2.2.2.2.map aX).length) (by(have z:=congrArg List.length hj0.2;have z2:=hj0.1;simp only[lA,lM,lC,lN]at *;refine aF (m:=2^21) ?_ ?_ ?_<;>omega):small (x0.2.2.2.1+((am w0::bG w0.kids).map aX).length) 24=true)) (M1 (.obj 1 (aZ 3 true (x0.2.2.1+1) ((x0.2.2.2.2++am w0::bG w0.kids).map aX))) (congrArg (aZ 3 true (x0.2.2.1+1)) (cT (f:=aX) (l:=x0.2.2.2.2) (ws:=am w0::bG w0.kids))) (Kl 2 14 (Le.wr (x:=Int.ofNat x0.1+1) fH) (Kf 0 (nx0 (.inr (x0.1+1,r0,(x0.2.2.1+1,x0.2.2.2.1+((am w0::bG w0.kids).map aX).length,x0.2.2.2.2++am w0::bG w0.kids))) (et (bf hx0.1 hr0) (by grind[dS,ib]:(x0.2.2.2.1+((am w0::bG w0.kids).map aX).length=(x0.2.2.2.2++am w0::bG w0.kids).length/\am u::bG u.kids=x0.2.2.2.2++am w0::bG w0.kids++bG r0))) (ed hr0))))))))))))))))))
theorem N9{p:PId}{u:TUnit}(h:Rg u){s:PStep}(hs:s∈cq p u):nw s=true:=by
  obtain⟨y,hy,rfl⟩:=gO.1 hs
  obtain⟨z,z1,z2⟩:=T2 u y hy
  have k0:=HJ ((h z z1).ne y z2)
  have ha:=(h y (fW z1 (yN z2))).al
  unfold iP at ha
  simp only[bZ]at ha
  obtain⟨a1,a2,_,_,_,a6⟩:=ha
  rw[show aa y.kind 0=false by cases e:aa y.kind 0 with|false=>rfl|true=>exact absurd (i9 e) k0]at a6
  have b1:=fP a1
  unfold nw P6
  rw[nF (show 0<y.kind by omega),a2]
  exact a6
theorem sx{p:PId}{u:TUnit}(h:Rd u):jZ (kq p u)=true:=by
  unfold kq
  cases hp:bX p u with
  |false=>rfl
  | true=>
    have h1:=EV u hp
    have h2:=h.2
    unfold jZ
    rw[bZ]
    refine⟨?_,?_⟩
    · show((iR YP||nw YP)&&(cq p u).all nw)=true
      rw[bZ]
      exact⟨rfl,kX.2 fun s hs=>N9 h.1 hs⟩
    · have e:(cq p u).length+1<=9:=by
        unfold cq;rw[lM,uy];omega
      show aj (aL 9 (.ofNat ((cq p u).length+1)))=true
      rw[jI (by simp only[oN];omega)];rfl
theorem NN{p:PId}:∀(u:TUnit)(l:List TUnit),bX p u=true->u∈l->ch p u∈gH (cq p u) l:=TUnit.ind fun u ih l h hl=>by
  cases hi:eD p u with
  |true=>rw[(wa hi).1,E7 hi];exact hl
  | false=>
    obtain⟨k,h1,h2,h3⟩:=EK h hi
    obtain⟨t,e⟩:=GY h2
    have ep:cq p u=P6 k::cq p k:=by
      unfold cq;rw[h3,e];rfl
    rw[ep,BW h h2 h3]
    refine ih k h1 _ h2 (List.mem_flatMap.2 ⟨u,hl,zW.2 ⟨h1,?_⟩⟩)
    simp[bN,P6,bc,mF]
theorem KJ{p:PId}{u:TUnit}(h:Rd u)(hp:bX p u=true):p∈bE u (kq p u):=by
  have ha:=sx (p:=p) h
  have e:kq p u=YP::cq p u:=by unfold kq;rw[hp];rfl
  rw[e]at ha ⊢
  unfold bE dF
  rw[ha]
  exact gO.2 ⟨ch p u,NN u [u] hp (oC.2 rfl),(oa hp).2⟩
theorem Ts{out:List au}{x y:au}(h:y∈out\/y=x):y∈iX out x:=by
  cases q:qB out x with
  | true=>
    rw[LX q]
    rcases h with h|rfl
    · exact h
    · unfold qB at q
      cases w:ip dH y (jG out)with
      |none=>rw[w]at q;cases q
      | some v=>
        obtain⟨e,e1,e2⟩:=A6 w
        obtain⟨z,z1,rfl⟩:=gO.1 e1
        have:=xP e2
        subst this;exact z1
  | false=>
    rw[Ft q]
    rcases h with h|rfl
    · exact Ch _ h
    · exact Cg _ (oC.2 rfl)
theorem Nn{p:PId}{u:TUnit}{out:List au}(h:bX p u=true):su p u∈ou p u out:=by
  unfold ou;rw[h];exact Ts (.inr rfl)
theorem I5(p:PId):∀(Y:List PDeed)(u:TUnit)(out:List au),(∀d,d∈Y->jJ d.it.kind=true)->(bX p u=true->su p u∈out)->bX p (cW u Y)=true->su p (cW u Y)∈sF p Y u out
  |[],_,_,_,h,h2=>h h2
  | d::r,u,out,ha,_,h2=>by
    have e:qa u d=(aM u d).1:=by unfold qa;rw[ha d (ef ..)];rfl
    rw[cW,e]at h2 ⊢
    exact I5 p r _ _ (fun x hx=>ha x (dA _ hx)) Nn h2
theorem Nm(p:PId):∀(Y:List PDeed)(u:TUnit)(out:List au),(sF p Y u out).length<=out.length+Y.length
  |[],_,_=>af _
  | d::r,u,out=>by
    have h1:=Nm p r (aM u d).1 (ou p (aM u d).1 out)
    have h2:=(zQ p (aM u d).1 out).2
    rw[sF,lC];omega
theorem HD(p:List PStep):∀(Y:List PDeed)(u:TUnit)(out:List PId)(x:PId),(∀d,d∈Y->jJ d.it.kind=true)->(x∈bE u p->x∈out)->x∈bE (cW u Y) p->x∈sC p Y u out
  |[],_,_,_,_,h,h2=>h h2
  | d::r,u,out,x,ha,_,h2=>by
    have e:qa u d=(aM u d).1:=by unfold qa;rw[ha d (ef ..)];rfl
    rw[cW,e]at h2
    exact HD p r _ _ x (fun x hx=>ha x (dA _ hx)) (fun h=>ux _ _ _ (.inr h)) h2
theorem El:Rd jW:=⟨Qa (by decide),by decide⟩
theorem TW:∀(Y:List PDeed)(u:TUnit),OkB u/\Rd u->(∀d,d∈Y->qe d.it/\jJ d.it.kind=true)->OkB (cW u Y)/\Rd (cW u Y)
  |[],_,h,_=>h
  | d::r,u,h,ho=>by
    obtain⟨q1,q2⟩:=ho d (ef ..)
    have e:qa u d=(aM u d).1:=by unfold qa;rw[q2];rfl
    rw[cW,e]
    exact TW r _ ⟨(eV ⟨h.1,q1,q2⟩).2,TY h.1 q1 q2 h.2⟩ fun x hx=>ho x (dA _ hx)
theorem XC(p:PId)(u:TUnit)(h:OkB u/\Rd u):LJ p u:=
  RJ u p _ _ _ (M7 p u (bu h.1.n (by decide))) (Tn _ (sx h.2))
theorem Y1(gs:List PGaz)(day:Int)(f:au)(p:PId)(X:List PDeed)(hl:X.length<=7200)(hall:∀d,d∈X->qe d.it/\jJ d.it.kind=true)(ho:kP 20 [iV day,.str f,.ls (gs.map aI)] (.ls (X.map aq))):kP 11 [aX p,iV day,.str f,.ls (gs.map aI)] (.ls ((sF p X jW (ou p jW [])).map nP)):=by
  have hs:∀u d,OkB u/\Rd u->qe d.it->jJ d.it.kind=true->OkB (aM u d).1/\Rd (aM u d).1:=fun u d h q1 q2=>⟨(eV ⟨h.1,q1,q2⟩).2,TY h.1 q1 q2 h.2⟩
  obtain⟨H,eH⟩:∃H,H=sF p X jW (ou p jW []):=⟨_,rfl⟩
  rw[<-eH]
  cases q:bX p jW with
  | true=>
    rw[TB q]at eH
    exact W5 gs day f p X H ho (Xz (fun u=>OkB u/\Rd u) jW ⟨og,El⟩ nZ p X H hl hall (fun _ h=>h.1) hs (XC p) q eH)
  | false=>
    rw[W6 q]at eH
    by_cases hn:H=[]
    · rw[hn];rw[hn]at eH
      exact aaB gs day f p X ho (Xj (fun u=>OkB u/\Rd u) jW ⟨og,El⟩ nZ p X hl hall (fun _ h=>h.1) hs (XC p) q eH)
    · exact W5 gs day f p X H ho (Xx (fun u=>OkB u/\Rd u) jW ⟨og,El⟩ nZ p X H hl hall (fun _ h=>h.1) hs (XC p) q eH hn)
theorem YK(gs:List PGaz)(day:Int)(f:au)(p:List PStep)(X:List PDeed)(hp:p.length<2^40/\∀s,s∈p->s.label.length<=2^39)(hl:X.length<=7200)(hall:∀d,d∈X->qe d.it/\jJ d.it.kind=true)(ho:kP 20 [iV day,.str f,.ls (gs.map aI)] (.ls (X.map aq))):kP 13 [iV day,.str f,.ls (p.map aK),.ls (gs.map aI)] (.ls ((sC p X jW (ae [] (bE jW p))).map aX)):=by
  have hfa:∀u,OkB u->kP 39 [eU u,.ls (p.map aK)] (.ls ((bE u p).map aX)):=fun u hu=>aax p hp hu
  obtain⟨H,eH⟩:∃H,H=sC p X jW (ae [] (bE jW p)):=⟨_,rfl⟩
  rw[<-eH]
  cases q:(bE jW p).isEmpty with
  |false=>exact RO gs day f p X H ho (XY jW og nZ p X H hl hall hfa (fun u hu=>yO p hu) q eH)
  | true=>
    have e0:ae [] (bE jW p)=[]:=by rw[pv.1 q];rfl
    rw[e0]at eH
    by_cases hn:H=[]
    · rw[hn];rw[hn]at eH
      exact YJ gs day f p X ho (Xq jW og nZ p X hl hall hfa q eH)
    · exact RO gs day f p X H ho (XU jW og nZ p X H hl hall hfa (fun u hu=>yO p hu) q eH hn)
theorem Ir(gs:List PGaz)(day:Int)(f:au)(hf:qh gs)(hs:f.length<2^47)(haw:kP 7 [] (.bool true)):kP 3 [.ls (gs.map aI),iV day,.str f] (.bool true):=by
  have hw:kP 6 [.ls (gs.map aI),.str f,.nils] (.bool (BV gs f [])):=(Sw gs f [] hf (by decide)).onArgs (args:=[.ls (gs.map aI),.str f,.nils]) (.cons (Le.refl _) (.cons (Le.refl _) (.cons (sr (.ls []) .nils (by kernel_rfl)).1 .nil)))
  cases hb:BV gs f []with
  |false=>rw[hb]at hw;exact Ys gs day f haw hw
  | true=>
    rw[hb]at hw
    have h1:=(Kq hb hs (fun s hs=>by cases hs)).1
    have ok:=(XA (p:=[]) hf (by unfold Yd;rw[h1];rfl)).1
    obtain⟨l1,l2,ho⟩:=ok.force day f
    have l3:(pR day f gs).length<=7200:=bu (List.length_filter_le ..) ok.lens.2
    have hall:∀d,d∈pR day f gs->qe d.it/\jJ d.it.kind=true:=fun d hd=>⟨l2 d hd,Y0 hd⟩
    have hBk:=ok.book day f
    unfold W0 at hBk
    generalize pR day f gs=X at *
    have hamd:∀d,d∈X->jJ d.it.kind=true:=fun d hd=>(hall d hd).2
    obtain⟨b1,b2⟩:=TW X jW ⟨og,El⟩ hall
    have hin:∀i,i∈de (cW jW X)->bX i (cW jW X)=true:=fun i hi=>by
      obtain⟨y,y1,rfl⟩:=gO.1 hi
      exact E4 _ ⟨y,y1,rfl⟩
    have hn:=b1.n
    have hI:=Wy (cW jW X) (bu hn (by decide))
    rw[<-ib]at hI
    have hfit:∀i,(kq i (cW jW X)).length<2^40/\∀s,s∈kq i (cW jW X)->s.label.length<=2^39:=fun i=>by
      obtain⟨c1,c2⟩:=I7 (sx (p:=i) b2)
      exact⟨by omega,fun s hs=>bu (c2 s hs).1 (by decide)⟩
    refine Yt gs day f (cW jW X) (de (cW jW X)) (fun i=>sF i X jW (ou i jW [])) (fun i=>sC (kq i (cW jW X)) X jW (ae [] (bE jW (kq i (cW jW X))))) haw hw hBk hI (by rw[<-kL];omega) (fun i hi=>?_) (fun i _=>Y1 gs day f i X l3 hall ho) (fun i _=>Tn _ (sx b2)) (fun i _=>YK gs day f _ X (hfit i) l3 hall ho) (fun i=>?_) (fun i=>?_) (fun i hi=>?_) (fun i hi=>?_)
    · have z:=M7 i (cW jW X) (bu hn (by decide))
      rw[hin i hi]at z;exact z
    · have z:=Nm i X jW (ou i jW [])
      have y:=(zQ i jW []).2
      simp only[lN]at y;omega
    · have z:=MN (kq i (cW jW X)) X jW (ae [] (bE jW (kq i (cW jW X)))) og hall
      have y:=(kQ (bE jW (kq i (cW jW X))) []).2
      have x:=yO (kq i (cW jW X)) og
      simp only[lN]at y;omega
    · refine List.any_eq_true.2 ⟨_,I5 i X jW _ hamd Nn (hin i hi),?_⟩
      rw[mF];simp
    · refine List.any_eq_true.2 ⟨i,HD _ X jW _ i hamd (fun h=>ux _ _ _ (.inr h)) (KJ b2 (hin i hi)),?_⟩
      rw[bc,bc,bc];rfl
abbrev bk5:au:=[98,111,111,107]
abbrev sc5:au:=[115,101,99,116,105,111,110]
theorem Wk:kP 34 [iV 0] (.tuple [.str [98,111,111,107],.bool true]):=by
  exact wk Tryz.func34 (.go 16 .fin)<|bo<|bP [ax [98,111,111,107],dU true]
theorem Wj:kP 34 [iV 2] (.tuple [.str [115,101,99,116,105,111,110],.bool true]):=by
  exact wk Tryz.func34 (.go 16 .fin)<|bo<|bP [ax [115,101,99,116,105,111,110],dU true]
theorem Re(x:UInt8):kP 36 [.ps [.str [98,111,111,107],.str [115,101,99,116,105,111,110],.str [x]] false,.str [32]] (.str [98,111,111,107,32,115,101,99,116,105,111,110,32,x]):=by
  have h:=ET [bk5,sc5,[x]] [32] (by show 3<=140737488355328;decide) (by show 14<=140737488355328;decide)
  exact h.onArgs (.cons (Le.ps _ _ rfl) (.cons (Le.refl _) .nil))
theorem HR(x:UInt8)(hx:jZ [⟨0,[]⟩,⟨2,[x]⟩]=true):kP 12 [.ps [.agg [iV 0,.str []],.agg [iV 2,.str [x]]] false] (.str [98,111,111,107,32,115,101,99,116,105,111,110,32,x]):=by
  have hs:∀s:PStep,s∈[⟨0,[]⟩,⟨2,[x]⟩]->s.label.length<=2^39:=fun y hy=>by
    simp only[dP,List.not_mem_nil,or_false]at hy
    rcases hy with rfl|rfl
    · decide
    · show 1<=2^39
      decide
  have h:=(pV [⟨0,[]⟩,⟨2,[x]⟩] (by show 2<2^40;decide) hs).onArgs (args:=[.ps [.agg [iV 0,.str []],.agg [iV 2,.str [x]]] false]) (.cons (Le.ps _ _ rfl) .nil)
  rw[hx]at h
  have hk0:kP 35 [.agg [iV 0,.str []]] (.bool true):=pU ⟨0,[]⟩
  have hk:kP 35 [.agg [iV 2,.str [x]]] (.bool false):=pU ⟨2,[x]⟩
  have hj:=Re x
  exact b6 Tryz.func12<|Kp 1 h<|Mg 5<|M0 (.un 3)<|Kp 7 Wk<|Kp 10 hk0<|Kp 11 Wj<|Kp 10 hk<|K1 12 (.frz 0 [36]) ti<|Mp hj<|Kf 0<|bo<|ax [98,111,111,107,32,115,101,99,116,105,111,110,32,x]
end Go.Proofs.YtdhkhecalpkngaaGreatDoor
