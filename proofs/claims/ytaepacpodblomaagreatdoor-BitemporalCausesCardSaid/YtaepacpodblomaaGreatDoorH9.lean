/- Functions walked: what each of them answers, for On every day that a gazette changed, an item that the gazette contains or refers to is in force before or after it, or the gazette declares an event: part 9. Conditions: those that each theorem names. -/
import Derived.Test.YtaepacpodblomaaGreatDoorH8
namespace Go.Proofs.YtaepacpodblomaaGreatDoor
open Go Go.Ev
def FE(g:PGaz)(d:PDeed)(x0:Nat×List PAct×Unit):Prop:=(g.acts).drop x0.1=x0.2.1∧lW g d.act d.item=x0.2.1.any fun b=>pS b d.act d.item
noncomputable def wP(g:PGaz)(d:PDeed)(x0:Nat×List PAct×Unit):List AV×List AObj:=([AV.pptr [AV.agg [iV d.act,iV d.item,iV d.day,iV d.it.kind,AV.ls (d.it.at_.map aj),AV.ls (d.it.to.map aj),iV d.it.where_,iV d.it.nth_,iV d.it.unit.act,iV d.it.unit.item,iV d.it.unit.n,iV d.it.unit.kind,AV.str d.it.unit.label,AV.ls (d.it.unit.head.map aQ),AV.ls (d.it.unit.words.map aQ),AV.ls (d.it.unit.kids.map aY),AV.ls (d.it.old.map nQ),AV.ls (d.it.new.map nQ),AV.str d.it.label,AV.str d.it.for_,iV d.it.start.kind,iV d.it.start.day,AV.str d.it.start.event,iV d.it.act,iV d.it.item,iV d.it.day,AV.str d.it.event,AV.ls (d.it.by_.map Og)]] 0 0,AV.ls (g.acts.map ay),nV g.acts.length,nV x0.1],[])
def FD(g:PGaz)(d:PDeed)(x0:Nat×List PAct×Unit)(w0:PAct)(r0:List PAct)(x1:Nat×List PItem×Unit):Prop:=(w0.items).drop x1.1=x1.2.1∧lW g d.act d.item=((x1.2.1.any fun x=>pc x d.act d.item)||r0.any fun b=>pS b d.act d.item)
noncomputable def wO(g:PGaz)(d:PDeed)(x0:Nat×List PAct×Unit)(w0:PAct)(r0:List PAct)(x1:Nat×List PItem×Unit):List AV×List AObj:=([AV.pptr [AV.agg [iV d.act,iV d.item,iV d.day,iV d.it.kind,AV.ls (d.it.at_.map aj),AV.ls (d.it.to.map aj),iV d.it.where_,iV d.it.nth_,iV d.it.unit.act,iV d.it.unit.item,iV d.it.unit.n,iV d.it.unit.kind,AV.str d.it.unit.label,AV.ls (d.it.unit.head.map aQ),AV.ls (d.it.unit.words.map aQ),AV.ls (d.it.unit.kids.map aY),AV.ls (d.it.old.map nQ),AV.ls (d.it.new.map nQ),AV.str d.it.label,AV.str d.it.for_,iV d.it.start.kind,iV d.it.start.day,AV.str d.it.start.event,iV d.it.act,iV d.it.item,iV d.it.day,AV.str d.it.event,AV.ls (d.it.by_.map Og)]] 0 0,AV.ls (g.acts.map ay),nV g.acts.length,nV x0.1,AV.ls (w0.items.map Og),nV w0.items.length,nV x1.1],[])
theorem IP(g:PGaz)(d:PDeed)(fa:g.acts.length<2^60)(fb:∀a,a∈g.acts→a.items.length<2^60):kP 27 [aa g,aq d] (.bool (lW g d.act d.item)):=by
  have rr0 b' (h:(lW g d.act d.item)=b':=by first|(rw[hj0];simp only[pS,pc,mA,oP,bZ,aS,ak,bS, *];first|done|rfl)|(rw[hj1];simp only[pS,pc,mA,oP,bZ,aS,ak,bS, *];first|done|rfl)):=h;exact bG Tryz.func27<|Kl 5 11 (ln ay g.acts)<|K1 0 (.frz 0 [3,10,11,12]) ti<|ML (Nat×List PAct×Unit) [3,10,11,12] (wP g d) (FE g d) (fun b=>b.2.1.length) (0,g.acts,()) (aK<|wP g d (0,g.acts,())) (et (rfl:List.drop 0 (g.acts)=g.acts) (by rfl:(lW g d.act d.item=g.acts.any fun b=>pS b d.act d.item))) fun b c e=>Mi (fun b _=>lW g d.act d.item=b.any fun b=>pS b d.act d.item) ay c (fun _ b hj0=>Kh 0 b<|Ky 0<|rr0 false) fun f i j k _ l hj0=>Kt 0 k<|Mx l<|Kj 7 f.number d.act (fun _ _=>Ky 0<|rr0 true) fun _ _=>Kl 2 23 (ln Og f.items)<|K1 0 (.frz 0 [3,10,11,12,22,23,24]) ti<|ML (Nat×List PItem×Unit) [3,10,11,12,22,23,24] (wO g d b f i) (FD g d b f i) (fun b=>b.2.1.length) (0,f.items,()) (aK<|wO g d b f i (0,f.items,())) (et (rfl:List.drop 0 (f.items)=f.items) (by(rw[hj0,mA];simp only[pS,bZ,aS,ak,bS, *];done):(lW g d.act d.item=((f.items.any fun x=>pc x d.act d.item)||i.any fun b=>pS b d.act d.item)))) fun k l m=>Mi (fun b c=>lW g d.act d.item=(b.any (fun b=>pc b d.act d.item)||i.any fun b=>pS b d.act d.item)) Og l (fun _ f hj1=>Kh 0 f<|Kl 0 56 (dV b.1)<|Kf 0<|e (b.1+1,i,()) (et (bW c.1 j) (by(rw[hj1];simp only[oP,aS,ak,bS];done):(lW g d.act d.item=i.any fun b=>pS b d.act d.item)))<|dK j) fun b e n o _ p hj1=>have p:=p.trans<|congrArg some<|eQ b;have:=fb f<|bX c.1 j;Kt 0 o<|Mx p<|Kj 6 b.kind 10 (fun b _=>Mt b<|Mt b<|Mt b<|Mt b<|Mt b<|Mt b<|MV b<|Ky 1<|rr0 true) fun c _=>Kh 0 c<|Kh 0 c<|Kh 0 c<|Ka 0 6 b.kind (fun f _=>Kt 0 f<|Kt 0 f<|Kt 0 f<|Kt 0 f<|Kh 0 c<|MV f<|Mh c<|Kj 0 b.act d.act (fun f _=>Kt 0 f<|Kt 0 f<|Kt 0 f<|Kt 0 f<|Kt 0 f<|Kj 0 b.item d.item (fun b _=>Mt b<|Mt b<|Mt f<|MV b<|Mh c<|MV f<|My c<|Ky 1<|rr0 true) fun j _=>Kh 0 j<|Kh 0 j<|Kt 0 f<|My j<|Mh c<|MV f<|My c<|Mb (af b.item (-1)) (fun b=>have:=fL b;Ky 0<|rr0 true) fun b=>have:=Da b;Kl 0 55 (dV k.1)<|K1 0 (.frz 0 [3,10,11,12,22,23,24]) ti<|Mf<|m (k.1+1,e,()) (et (bW l.1 n) (by(rw[hj1];simp only[pc,mA,bZ,aS,ak,bS, *];done):(lW g d.act d.item=((e.any fun x=>pc x d.act d.item)||i.any fun b=>pS b d.act d.item))))<|dK n) fun b _=>Mh b<|Mh b<|Mh b<|Mh b<|Mh b<|Mh b<|Mh c<|My b<|My c<|Kl 1 55 (dV k.1)<|K1 0 (.frz 0 [3,10,11,12,22,23,24]) ti<|Mf<|m (k.1+1,e,()) (et (bW l.1 n) (by(rw[hj1];simp only[pc,mA,bZ,aS,ak,bS, *];done):(lW g d.act d.item=((e.any fun x=>pc x d.act d.item)||i.any fun b=>pS b d.act d.item))))<|dK n) fun b _=>Mh b<|Mh b<|Mh b<|Mh b<|Mh c<|My b<|Mh c<|Kh 0 (aK false)<|Mh (aK false)<|Mh (aK false)<|Mh (aK false)<|Mh (aK false)<|Mh (aK false)<|Mh (aK false)<|Mh c<|Kw 0 c<|Kl 1 55 (dV k.1)<|K1 0 (.frz 0 [3,10,11,12,22,23,24]) ti<|Mf<|m (k.1+1,e,()) (et (bW l.1 n) (by(rw[hj1];simp only[pc,mA,bZ,aS,ak,bS, *];done):(lW g d.act d.item=((e.any fun x=>pc x d.act d.item)||i.any fun b=>pS b d.act d.item))))<|dK n
theorem ZE(gs:List PGaz)(n day:Int)(p:aR)(haw:kP 18 [] (.bool true))(hw:kP 17 [.ls (gs.map aa),.str p] (.bool false)):kP 7 [.ls (gs.map aa),iV n,iV day,.str p] (.bool true):=by
  exact bG Tryz.func7<|Kp 2 hw<|Kp 7 haw<|Kf 0<|bh<|eA true
theorem aaS(gs:List PGaz)(n day:Int)(p:aR)(haw:kP 18 [] (.bool true))(hw:kP 17 [.ls (gs.map aa),.str p] (.bool true))(g1:aF n 1=true):kP 7 [.ls (gs.map aa),iV n,iV day,.str p] (.bool true):=by
  exact bG Tryz.func7<|Kp 2 hw<|Kt 5 g1<|Mt g1<|Mt g1<|Mt g1<|MV g1<|Kp 2 haw<|Kf 0<|bh<|eA true
theorem aaR(gs:List PGaz)(n day:Int)(p:aR)(haw:kP 18 [] (.bool true))(hw:kP 17 [.ls (gs.map aa),.str p] (.bool true))(g1:aF n 1=false)(g2:aF (.ofNat gs.length) n=true):kP 7 [.ls (gs.map aa),iV n,iV day,.str p] (.bool true):=by
  exact bG Tryz.func7<|Kp 2 hw<|Kh 5 g1<|Kh 0 g1<|Kh 0 g1<|Kl 0 24 (ln aa gs)<|Mh g1<|Kw 0 g1<|Kt 0 g2<|Mt g2<|Mt g2<|Mt g2<|Mt g2<|Mt g2<|Mt g2<|MV g2<|Kp 0 haw<|Kf 0<|bh<|eA true
/-- What the law of the causes calls. -/
structure CauC(gs:List PGaz)(n:Nat)(day:Int)(p:aR)(D:List PSpan)(b:Bool):Prop where
  c:kP 22 [nV n,.str p,.ls (gs.map aa)] (.ls (D.map aJ))
  h:kP 24 [.ls (D.map aJ),iV day] (.bool b)
theorem aaQ(gs:List PGaz)(n:Nat)(day:Int)(p:aR)(D:List PSpan)(haw:kP 18 [] (.bool true))(hw:kP 17 [.ls (gs.map aa),.str p] (.bool true))(g1:aF (.ofNat n) 1=false)(g2:aF (.ofNat gs.length) (.ofNat n)=false)(hk:CauC gs n day p D false):kP 7 [.ls (gs.map aa),nV n,iV day,.str p] (.bool true):=by
  obtain⟨k1,k2⟩:=hk
  exact bG Tryz.func7<|Kp 2 hw<|Kh 5 g1<|Kh 0 g1<|Kh 0 g1<|Kl 0 24 (ln aa gs)<|Mh g1<|Kw 0 g1<|Kh 0 g2<|Kh 0 g2<|Kh 0 g2<|Kh 0 g2<|Mp k1<|Mh g2<|Kh 0 g2<|Mp k2<|Mh g2<|Kw 0 g2<|Kp 0 haw<|Kf 0<|bh<|eA true
theorem aaP(gs:List PGaz)(n:Nat)(day:Int)(p:aR)(D:List PSpan)(F0 F1:List PDeed)(T:PDeed→Bool)(haw:kP 18 [] (.bool true))(hw:kP 17 [.ls (gs.map aa),.str p] (.bool true))(g1:aF (.ofNat n) 1=false)(g2:aF (.ofNat gs.length) (.ofNat n)=false)(hk:CauC gs n day p D true)(hl:gs.length<2^20)(hn0:1≤n)(hn:n≤gs.length)
    (o0:kP 26 [iV day,.str p,.ls ((gs.take (n-1)).map aa)] (.ls (F0.map aq)))(o1:kP 26 [iV day,.str p,.ls ((gs.take n).map aa)] (.ls (F1.map aq)))
    (ht:∀d,kP 27 [aa (gD gs (n-1)),aq d] (.bool (T d)))(l0:F0.length<2^30)(l1:F1.length<2^30)(ha:(F0.any T||F1.any T)=true):kP 7 [.ls (gs.map aa),nV n,iV day,.str p] (.bool true):=by
  obtain⟨k1,k2⟩:=hk
  exact bG Tryz.func7<|Kp 2 hw<|Kh 5 g1<|Kh 0 g1<|Kh 0 g1<|Kl 0 24 (ln aa gs)<|Mh g1<|Kw 0 g1<|Kh 0 g2<|Kh 0 g2<|Kh 0 g2<|Kh 0 g2<|Mp k1<|Mh g2<|Kh 0 g2<|Mp k2<|Mh g2<|Kw 0 g2<|Kl 2 38 (yz n)<|Mg 3<|M0 (.un 2)<|K1 8 (.slp<|(gs.take<|n-1).map aa) (ca (hM 4 aa gs fun _=>rfl) (et (oA:0≤n-1) (by(simp only[oN,lM,lS]at *;omega):n-1≤(gs.map aa).length))<|K6 (f:=aa) (l:=gs) (h:=n-1))<|Mp o0<|Kl 0 52 (ln aq F0)<|Mg 0<|tu aq F0 [0,1,2,3,40,41,42,51,52,53] (fun a _=>([aW<|gs.map aa,nV n,iV day,aV p,iF [nV<|n-1,nV n] true,iV 2,iV 0,aW<|F0.map aq,nV F0.length,nV a],[])) (fun a=>(a.any T||F1.any T)=true) (by(exact ha)) (fun _ _ _ _ _ a b=>Kh 0 a<|K1 10 (.slp<|(gs.take n).map aa) (ca (hM 4 aa gs fun _=>rfl) (et (oA:0≤n) (by(simp only[oN,lM,lS]at *;omega):n≤(gs.map aa).length))<|K6 (f:=aa) (l:=gs) (h:=n))<|Mp o1<|Kl 0 52 (ln aq F1)<|Mg 0<|tu aq F1 [0,1,2,3,40,41,42,51,52,53] (fun a _=>([aW<|gs.map aa,nV n,iV day,aV p,iF [nV<|n-1,nV n] true,iV 2,iV 1,aW<|F1.map aq,nV F1.length,nV a],[])) (fun a=>a.any T=true) (by(simp only[oP,Bool.false_or]at b;exact b)) (fun _ _ _ _ _ _ a=>Mw .abs (by simp at a:False)) fun a _ _ _ b c e _ f _ g h=>Kt 0 f<|Mx g<|Mg 4<|Ma (yz n)<|Mx (bY aa (oA:n-1<(gs).length))<|Kp 1 (ht b)<|Mb (T b) (fun _=>Mp haw<|Kf 0<|bh<|eA true) fun _=>Kl 0 65 (jk a)<|K1 0 (.frz 0 [0,1,2,3,40,41,42,51,52,53]) ti<|Mf<|e<|by(rw[mA]at h;simp_all;done)) fun a _ _ _ b c e _ f _ g h=>Kt 0 f<|Mx g<|Mg 4<|Ma (yz n)<|Mx (bY aa (oA:n-1<(gs).length))<|Kp 1 (ht b)<|Mb (T b) (fun _=>Mp haw<|Kf 0<|bh<|eA true) fun _=>Kl 0 65 (jk a)<|K1 0 (.frz 0 [0,1,2,3,40,41,42,51,52,53]) ti<|Mf<|e<|by(rw[mA]at h;simp_all;done)
theorem Na{gs:List PGaz}{n:Nat}(h1:1≤n)(h2:n≤gs.length):gs.take n=gs.take (n-1)++[gD gs (n-1)]:=by
  obtain⟨m,rfl⟩:∃m,n=m+1:=⟨n-1,by omega⟩
  rw[Nat.add_sub_cancel]
  have e:gD gs m=gs[m]:=by simp[gD,List.getD,lw (show m<gs.length by omega)]
  rw[e,List.take_append_getElem (by omega)]
/-- The law of the causes, whole. -/
theorem KQ(gs:List PGaz)(n day:Int)(p:aR)(hf:pH gs)(haw:kP 18 [] (.bool true)):kP 7 [.ls (gs.map aa),iV n,iV day,.str p] (.bool true):=by
  have hw:=RT gs p hf
  cases hb:Ov gs p with
  |false=>rw[hb]at hw;exact ZE gs n day p haw hw
  | true=>
    rw[hb]at hw
    have ok:=(XY hf hb).1
    have hlen:=ok.len
    cases g1:aF n 1 with
    |true=>exact aaS gs n day p haw hw g1
    |false=>
    cases g2:aF (.ofNat gs.length) n with
    |true=>exact aaR gs n day p haw hw g1 g2
    | false=>
      have z1:=aG g1
      have z2:=aG g2
      obtain⟨m,rfl⟩:∃m:Nat,n=.ofNat m:=⟨n.toNat,by simp only[oN];omega⟩
      simp only[oN]at z1 z2
      have hm0:1≤m:=by omega
      have hm:m≤gs.length:=by omega
      have oa:OkG (gs.take (m-1)):=ok.sub (by rw[qk];omega) fun g hg=>mU hg
      have ob:OkG (gs.take m):=ok.sub (by rw[qk];omega) fun g hg=>mU hg
      have hc:=J8 gs ok m p hm0 hm
      have hh:=U8 (OA (gs.take (m-1)) (gs.take m) p) day (by have:=(j6 (di (x8 (gs.take (m-1)) (gs.take m) p) (ET (gs.take (m-1)) (gs.take m)++[1048577]))).len;unfold OA;omega)
      rw[VD]at hh
      cases q:Fw day&&x8 (gs.take (m-1)) (gs.take m) p day with
      |false=>rw[q]at hh;exact aaQ gs m day p _ haw hw g1 g2 ⟨hc,hh⟩
      | true=>
        rw[q]at hh
        have q2:=(jM.1 q).2
        have hg:gD gs (m-1)∈gs:=fR (by omega)
        have ht:=fun d=>IP (gD gs (m-1)) d (ok.fit.2 _ hg).1 fun a ha=>((ok.fit.2 _ hg).2 a ha).1
        refine aaP gs m day p _ _ _ _ haw hw g1 g2 ⟨hc,hh⟩ (by omega) hm0 hm (oa.force day p).2.2 (ob.force day p).2.2 ht (oa.force day p).1 (ob.force day p).1 ?_
        rw[Na hm0 hm]at q2 ⊢
        rw[qj]
        exact SG _ _ p day q2
end Go.Proofs.YtaepacpodblomaaGreatDoor
