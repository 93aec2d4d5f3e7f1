/- Functions walked: what each of them answers, for An item in force that is not a contributor changes neither the presence nor the label, heading and words of the unit: part 8. Conditions: those that each theorem names. -/
import Derived.Test.YtdhkhecalpkngaaGreatDoorH7
namespace Go.Proofs.YtdhkhecalpkngaaGreatDoor
open Go Go.Ev
theorem KA{xs ys:List AV}{n:Nat}(h:xs.length=n):((xs++ys).drop 0).take n=xs:=List.take_left' h
noncomputable abbrev zD:AV:=JP 0 0 0
theorem Xj(X:List PDeed)(g:Nat)(a i y:Int)(q:PDeed->Bool)(m:Nat)(hq:∀d,kP 114 [aK d,.pptr [vS g] 0 0,.pptr [JP a i y] 0 0] (.bool (q d)))(hm:m<X.length)(hs:X.length<2^30)(hA:∀k,k<m->q (gD X k)=false)(hB:q (gD X m)=true):kD 153 [.slice 0 0 0 X.length none,qS g a i y] (aa [ie 0 X]) (nV m) (aa [ie 0 X]):=by
  have hk:∀x,x<=m->q (gD X x)=true->x=m:=fun x h1 h2=>by
    rcases eT x m with h|h
    · rw[hA x h]at h2;cases h2
    · omega
  have hk2:∀x,x<=m->q (gD X x)=false->x+1<=m:=fun x h1 h2=>by
    rcases eT x m with h|h
    · exact h
    · rw[show x=m by omega,hB]at h2;cases h2
  let q1:=aa [aZ 28 true 0 (X.map aK)];exact OE Tryz.func153<|Mg 3<|Zp (0:Nat) [0,1,7,8] (fun b=>([aH 0 0 0 X.length none,bV (bK 114) [] [AV.pptr [bV (bK g) [] []] 0 0,AV.pptr [av [iV a,iV i,iV y,iV 0,ak,ak,iV 0,iV 0,iV 0,iV 0,iV 0,iV 0,ax [],ak,ak,ak,ak,ak,ax [],ax [],iV 0,iV 0,ax [],iV 0,iV 0,iV 0,ax [],ak]] 0 0],nV X.length,nV b],[aZ 28 true 0<|X.map aK])) (fun b=>b<=m) (fun b=>X.length-b) (by exact bE _) fun b c e=>have c:=c;Ka 0 (Int.ofNat b) (Int.ofNat X.length) (fun _ _=>K1 4 .rix (et (aJ 0) (oA:b<X.length))<|Mr (et (aJ 0)<|bQ aK (oA:b<(X).length))<|Mp (hq<|gD X b)<|Mb (q<|gD X b) (fun _=>Kf 1<|et (by(rw[hk _ c (by assumption)]):(nV b)=(nV m))<|aJ q1) fun _=>Kl 0 18 (iT b)<|Kf 0<|e (b+1) (by exact hk2 _ c (by assumption))<|by(omega)) fun _ _=>Kf 0<|et (by(exfalso;(simp only[oN]at *;omega)):(iV (-1))=(nV m))<|aJ q1
theorem Xx(X:List PDeed)(g:Nat)(a i y:Int)(q:PDeed->Bool)(hq:∀d,kP 114 [aK d,.pptr [vS g] 0 0,.pptr [JP a i y] 0 0] (.bool (q d)))(hs:X.length<2^30)(hA:∀k,k<X.length->q (gD X k)=false):kD 153 [.slice 0 0 0 X.length none,qS g a i y] (aa [ie 0 X]) (iV (-1)) (aa [ie 0 X]):=by
  exact fu Tryz.func153 fun b=>Mg 3<|Zp (0:Nat) [0,1,7,8] (fun b=>([aH 0 0 0 X.length none,bV (bK 114) [] [AV.pptr [bV (bK g) [] []] 0 0,AV.pptr [av [iV a,iV i,iV y,iV 0,ak,ak,iV 0,iV 0,iV 0,iV 0,iV 0,iV 0,ax [],ak,ak,ak,ak,ak,ax [],ax [],iV 0,iV 0,ax [],iV 0,iV 0,iV 0,ax [],ak]] 0 0],nV X.length,nV b],[aZ 28 true 0<|X.map aK])) (fun b=>b<=X.length) (fun b=>X.length-b) (by exact bE _) fun c e f=>have:=e;Ka 0 (Int.ofNat c) (Int.ofNat X.length) (fun _ _=>K1 4 .rix (et (aJ 0) (by(simp only[oN,lM,lS]at *;omega):c<X.length))<|Mr (et (aJ 0)<|bQ aK (by(simp only[oN,lM,lS]at *;omega):c<(X).length))<|Mp (hq<|gD X c)<|Mb (q<|gD X c) (fun _=>Kf 1<|et (by(have z:=hA c (by(simp only[oN]at *;omega));simp_all;done):(nV c)=(iV (-1)))<|aJ<|aa [aZ 28 true 0<|X.map aK]) fun _=>Kl 0 18 (iT c)<|Kf 0<|f (c+1) (by(simp only[oN]at *;omega))<|by(simp only[oN]at *;omega)) fun _ _=>Kf 0 b
noncomputable abbrev Wm(X:List PDeed)(m:Nat):AObj:=.row 28 true 0 ((X.take m).map aK++List.replicate (X.length-m) zD)
theorem Zv{X:List PDeed}{m:Nat}(h:m<=X.length):bF (X.map aK) m (List.replicate (X.length-m) zD)=(X.take m).map aK++List.replicate (X.length-m) zD:=by
  unfold bF
  rw[lR,BF (by rw[lM];omega),ej,List.map_take]
theorem XH(X:List PDeed)(g:Nat)(a i y:Int)(m:Nat)(hq:∀k,m<=k->k<X.length->kP 114 [aK (gD X k),.pptr [vS g] 0 0,.pptr [JP a i y] 0 0] (.bool true))(hm:m<X.length)(hs:X.length<2^30)(hf:kD 153 [.slice 0 0 0 X.length none,qS g a i y] (aa [ie 0 X]) (nV m) (aa [ie 0 X])):kD 112 [.slice 0 0 0 X.length none,qS g a i y] (aa [ie 0 X]) (.slice 0 0 0 m none) (aa [Wm X m]):=by
  have e1:ab (Int.ofNat m) (-1)=false:=by rw[nH];exact decide_eq_false (by simp only[oN];omega)
  have e3:(X.take m).length=m:=by rw[BP];omega
  let q:=aa [aZ 28 true 0 (X.map aK)];let q1:=aH 0 0 m (X.length-m) none;exact fu Tryz.func112 fun b=>Ke 2 hf<|Kl 5 15 (iT m)<|Mg 0<|Zp (m+1) [0,1,5,6] (fun b=>([aH 0 0 0 X.length none,bV (bK 114) [] [AV.pptr [bV (bK g) [] []] 0 0,AV.pptr [av [iV a,iV i,iV y,iV 0,ak,ak,iV 0,iV 0,iV 0,iV 0,iV 0,iV 0,ax [],ak,ak,ak,ak,ak,ax [],ax [],iV 0,iV 0,ax [],iV 0,iV 0,iV 0,ax [],ak]] 0 0],nV m,nV b],[aZ 28 true 0<|X.map aK])) (fun b=>m+1<=b/\b<=X.length) (fun b=>X.length-b) (by exact⟨by(omega),by(omega)⟩) fun c d e=>have:=d;Ka 3 (Int.ofNat c) (Int.ofNat X.length) (fun _ _=>K1 1 .rix (et (aJ 0) (by(simp only[oN,lM,lS]at *;omega):c<X.length))<|Mr (et (aJ 0)<|bQ aK (by(simp only[oN,lM,lS]at *;omega):c<(X).length))<|Kp 3 (hq c (by(omega))<|by(simp only[oN]at *;omega))<|Kl 3 21 (iT c)<|K1 0 (.frz 1 [0,1,5,6]) (et (tR 28 true 0 1<|aX xV X) ti)<|Mf<|e (c+1) (by exact⟨by(omega),by(simp only[oN]at *;omega)⟩)<|by(simp only[oN]at *;omega)) fun _ _=>Ko 1 (by exact Du (xs:=X.map aK) (l:=m) (h:=X.length) (by kernel_rfl) (by rfl) (by rfl) (by omega) (by rw[lM];omega) (by omega) (by omega):bj q (dY (28) q ((some (AV.slice 0 0 0 X.length none))) ((some (nV m))) (none) (none))=some (ARes.val q1 q))<|Mo (by exact Eu rfl (by kernel_rfl) (Zv (by omega)):fK (v8 (28) (AV.agg [iV 0,iV 0,iV 0,iV 0,AV.nils,AV.nils,iV 0,iV 0,iV 0,iV 0,iV 0,iV 0,AV.str [],AV.nils,AV.nils,AV.nils,AV.nils,AV.nils,AV.str [],AV.str [],iV 0,iV 0,AV.str [],iV 0,iV 0,iV 0,AV.str [],AV.nils]) q ((some q1)))=some (ARes.val (AV.tuple []) (aa [AObj.row 28 true 0 ((X.take m).map aK++List.replicate (X.length-m) zD)])))<|K1 1 .slc (co (aJ 0) (oA:0<=m) (by(simp only[oN,lM,lS,lA,lR,lC,lN]at * <;>omega):m<=((X.take m).map aK++List.replicate (X.length-m) zD).length))<|Kf 0 b
theorem L1(X:List PDeed)(g:Nat)(a i y:Int)(q:PDeed->Bool)(m:Nat)(hq:∀d,kP 114 [aK d,.pptr [vS g] 0 0,.pptr [JP a i y] 0 0] (.bool (q d)))(hm:m<X.length)(hs:X.length<2^30)(hA:∀k,k<m->q (gD X k)=false)(hB:∀k,m<=k->k<X.length->q (gD X k)=true):kD 112 [.slice 0 0 0 X.length none,qS g a i y] (aa [ie 0 X]) (.slice 0 0 0 m none) (aa [Wm X m]):=
  XH X g a i y m (fun k h1 h2=>hB k h1 h2▸hq (gD X k)) hm hs (Xj X g a i y q m hq hm hs hA (hB m (af _) hm))
theorem U1(X:List PDeed)(g:Nat)(a i y:Int)(q:PDeed->Bool)(hq:∀d,kP 114 [aK d,.pptr [vS g] 0 0,.pptr [JP a i y] 0 0] (.bool (q d)))(hs:X.length<2^30)(hA:∀k,k<X.length->q (gD X k)=false):kD 112 [.slice 0 0 0 X.length none,qS g a i y] (aa [ie 0 X]) (.slice 0 0 0 X.length none) (aa [ie 0 X]):=by
  have hf:=Xx X g a i y q hq hs hA
  exact fu Tryz.func112 fun b=>Ke 2 hf<|Kf 5 b
theorem Mk(X:List PDeed)(g:Nat)(a i y:Int)(m:Nat)(hm:m<X.length)(hs:X.length<2^30)(hc:kD 113 [.ls (X.map aK)] (aa []) (.slice 0 0 0 X.length none) (aa [ie 0 X]))(hd:kD 112 [.slice 0 0 0 X.length none,qS g a i y] (aa [ie 0 X]) (.slice 0 0 0 m none) (aa [Wm X m])):kP 76 [.ls (X.map aK),JP a i y,vS g] (.ls ((X.take m).map aK)):=by
  have e3:(X.take m).length=m:=by rw[BP];omega
  let q:=List.map aK (X.take m);exact bB Tryz.func76<|K1 3 (.frz 0 [4,5,7]) ti<|Me hc<|Ke 0 hd<|Mg 0<|M2 (.fsl 0 [] 6 q) ti (co (aJ 0) (KA (ys:=List.replicate (X.length-m) zD) (by(rw[lM];exact e3):((X.take m).map aK).length=m))<|aX xV<|X.take m)<|Ml 6 (fw q false<|aX xV<|X.take m)<|Mf<|bx<|aW q
theorem Vy(X:List PDeed)(g:Nat)(a i y:Int)(hz:X≠[])(hs:X.length<2^30)(hc:kD 113 [.ls (X.map aK)] (aa []) (.slice 0 0 0 X.length none) (aa [ie 0 X]))(hd:kD 112 [.slice 0 0 0 X.length none,qS g a i y] (aa [ie 0 X]) (.slice 0 0 0 X.length none) (aa [ie 0 X])):kP 76 [.ls (X.map aK),JP a i y,vS g] (.ls (X.map aK)):=by
  let q:=List.map aK X;exact bB Tryz.func76<|K1 3 (.frz 0 [4,5,7]) ti<|Me hc<|Ke 0 hd<|Mg 0<|M2 (.fsl 0 [] 6 q) ti (co (aJ 0) (tA aK X X.length rfl)<|aX xV X)<|Ml 6 (fw q false<|aX xV X)<|Mf<|bx<|aW q
theorem PN(gs:List PGaz)(L:List PAct)(a i y:Int)(hL:L.length<10000)(ha:kP 77 [.ls (gs.map aA)] (.ls (L.map ay)))(hd:∀b,b∈L->b.number=a->b.day=y)(hx:∃b,b∈L/\b.number=a):kP 75 [xm a i,.ls (gs.map aA)] (.tuple [JP a i y,.bool true]):=by
  have rr0 b' (h:(y)=b':=by(rw[hd _ (aN zD0 hr0) (iB ‹_›)])):=h;exact bB Tryz.func75<|Kp 3 ha<|Kl 0 10 (ln ay L)<|Mg 0<|vZ ay L [2,4,9,10,11] (fun c _=>([bX 0 0 0 0,bX 1 0 0 0,aW<|L.map ay,nV L.length,nV c],[aZ 2 false 0 [av [iV a,iV i]],aZ 28 false 0 [av [iV 0,iV 0,iV 0,iV 0,ak,ak,iV 0,iV 0,iV 0,iV 0,iV 0,iV 0,ax [],ak,ak,ak,ak,ak,ax [],ax [],iV 0,iV 0,ax [],iV 0,iV 0,iV 0,ax [],ak]]])) (fun c=>∃b,b∈c/\b.number=a) (by(exact hx)) (fun _ _ zD0 _ hr0 _ c=>Mw .abs (by simp at c:False)) fun c _ zD0 _ d f g hr0 j _ k l=>Kt 0 j<|Mx k<|Kj 7 d.number a (fun _ _=>Kf 8 (cp<|.cons (aM (lc<|lc<|.cons (li<|rr0 d.day)<|lc<|lc<|lc<|lc<|lc<|lc<|lc<|lc<|lc<|lc<|lc<|lc<|lc<|lc<|lc<|lc<|lc<|lc<|lc<|lc<|lc<|lc<|lc<|lc<|lc .nil)<|by kernel_rfl)<|lc .nil:Le _ (b8 [av [iV a,iV i,iV d.day,iV 0,ak,ak,iV 0,iV 0,iV 0,iV 0,iV 0,iV 0,ax [],ak,ak,ak,ak,ak,ax [],ax [],iV 0,iV 0,ax [],iV 0,iV 0,iV 0,ax [],ak],ez true]))) fun _ _=>Kl 0 27 (dB c)<|K1 0 (.frz 2 [2,4,9,10,11]) (co rt rt ti)<|Mf<|g<|by(obtain⟨b,hb,e⟩:=l;rcases eu.1 hb with h|h;exact absurd (h▸e) (by assumption);exact⟨b,h,e⟩)
theorem LX(gs:List PGaz)(day:Int)(p:aP)(X Y:List PDeed)(g:Nat)(a i y:Int)(u:TUnit)(m:List PFail)(hr:kP 26 [iV day,.str p,.ls (gs.map aA)] (.ls (X.map aK)))(hp:kP 75 [xm a i,.ls (gs.map aA)] (.tuple [JP a i y,.bool true]))(ha:kP 76 [.ls (X.map aK),JP a i y,vS g] (.ls (Y.map aK)))(hb:kP 27 [.ls (Y.map aK)] (.tuple [eU u,.ls (m.map gj)])):kP 40 [iV day,.str p,xm a i,.ls (gs.map aA),vS g] (eU u):=by
  exact bB Tryz.func40<|Kp 3 hp<|Kp 11 hr<|Kp 4 ha<|Mp hb<|Kf 7<|bx<|av [iV u.act,iV u.item,iV u.n,iV u.kind,ax u.label,aW<|u.head.map aQ,aW<|u.words.map aQ,aW<|u.kids.map aU]
theorem Oc(gs:List PGaz)(day:Int)(p:aP)(a i:Int)(u:TUnit)(h:kP 40 [iV day,.str p,xm a i,.ls (gs.map aA),vS 41] (eU u)):kP 15 [iV day,.str p,xm a i,.ls (gs.map aA)] (eU u):=by
  exact bB Tryz.func15<|Kp 5 h<|Kf 0<|bx<|av [iV u.act,iV u.item,iV u.n,iV u.kind,ax u.label,aW<|u.head.map aQ,aW<|u.words.map aQ,aW<|u.kids.map aU]
theorem Io(gs:List PGaz)(day:Int)(p:aP)(a i:Int)(u:TUnit)(h:kP 40 [iV day,.str p,xm a i,.ls (gs.map aA),vS 60] (eU u)):kP 22 [iV day,.str p,xm a i,.ls (gs.map aA)] (eU u):=by
  exact bB Tryz.func22<|Kp 5 h<|Kf 0<|bx<|av [iV u.act,iV u.item,iV u.n,iV u.kind,ax u.label,aW<|u.head.map aQ,aW<|u.words.map aQ,aW<|u.kids.map aU]
theorem RC:kP 51 [] (eU ot):=by
  exact wk Tryz.func51 (.go 2 .fin) (aM (lc<|lc<|lc<|lc<|lc<|.cons bA<|.cons bA<|.cons bA .nil)<|by kernel_rfl:Le _ (AV.agg [iV 0,iV 0,iV 0,iV 0,AV.str [],AV.nils,AV.nils,AV.nils]))
structure StpC(day:Int)(p:aP)(gs:List PGaz)(X:List PDeed)(bk:Nat->TUnit):Prop where
  b:∀k,k<X.length->kP 15 [iV day,.str p,xm (gD X k).act (gD X k).item,.ls (gs.map aA)] (eU (bk k))
  t:∀k,k<X.length->kP 22 [iV day,.str p,xm (gD X k).act (gD X k).item,.ls (gs.map aA)] (eU (bk (k+1)))
  o:kP 20 [iV day,.str p,.ls (gs.map aA)] (.ls (X.map aK))
  l:X.length<2^30
def Nd(l:List PAct):Prop:=(l.map (·.number)).Nodup
theorem S6{out:List PAct}{a:PAct}(h:Nd out):Nd (jk out a):=by
  unfold jk
  cases q:gh a.number (out.map fun b=>(b.number,true))with
  |some v=>exact h
  | none=>
    unfold Nd
    rw[pA,E9]
    refine⟨h,by simp,fun x hx y hy=>?_⟩
    obtain⟨b,hb,rfl⟩:=iS.1 hx
    simp only[eb,wK,ly]at hy
    rw[hy];exact oc (out:=out) q b hb
theorem Fe:∀(ys out:List PAct),Nd out->Nd (ys.foldl jk out)
  |[],_,h=>h
  |_::r,_,h=>Fe r _ (S6 h)
theorem CT:∀(gs:List PGaz)(out:List PAct),Nd out->Nd (bJ gs out)
  |[],_,h=>h
  |g::r,_,h=>CT r _ (Fe g.acts _ h)
theorem Vi(gs:List PGaz):(eg gs).Pairwise fun a b=>fW a b=true:=by
  have h1:=(tv iG (bJ gs []) [] .nil).2
  have h2:Nd (eg gs):=((jC gs).map _).nodup_iff.2 (CT gs [] (by simp[Nd]))
  have h3:(eg gs).Pairwise fun a b=>a.number≠b.number:=List.pairwise_map.1 h2
  refine(List.Pairwise.and h1 h3).imp fun{a b} h=>?_
  obtain⟨p,q⟩:=h
  rw[lJ]
  rw[<-Bool.not_eq_true,lJ]at p
  omega
def Vp(d e:PDeed):Prop:=d.day<e.day\/(d.day=e.day/\(d.act<e.act\/(d.act=e.act/\d.item<e.item)))
theorem nK(a:PAct):∀(l:List PItem)(i:Nat),(bO a l i).Pairwise Vp/\∀d,d∈bO a l i->d.act=a.number/\d.day=a.day/\Int.ofNat i<=d.item
  |[],_=>⟨.nil,fun _ h=>by cases h⟩
  | x::r,i=>by
    obtain⟨h1,h2⟩:=nK a r (i+1)
    refine⟨.cons (fun d hd=>?_) h1,fun d hd=>?_⟩
    · obtain⟨q1,q2,q3⟩:=h2 d hd
      exact .inr ⟨q2.symm,.inr ⟨q1.symm,by simp only[oN]at *;omega⟩⟩
    · rcases eu.1 hd with rfl|hd
      · exact⟨rfl,rfl,Int.le_refl _⟩
      · obtain⟨q1,q2,q3⟩:=h2 d hd
        exact⟨q1,q2,by simp only[oN]at *;omega⟩
theorem xb:∀(L:List PAct),(L.Pairwise fun a b=>fW a b=true)->(km L).Pairwise Vp
  |[],_=>.nil
  | a::r,h=>by
    cases h with
    | cons h1 h2=>
      rw[km,BD,List.pairwise_append]
      refine⟨(nK a _ 0).1,xb r h2,fun d hd e he=>?_⟩
      obtain⟨b,hb,he⟩:=List.mem_flatMap.1 he
      have z:=(lJ a b).1 (h1 b hb)
      obtain⟨p1,p2,_⟩:=(nK a _ 0).2 d hd
      obtain⟨q1,q2,_⟩:=(nK b _ 0).2 e he
      unfold Vp;omega
theorem Jh(m:tX)(d:PDeed):(lE m d).act=d.act/\(lE m d).item=d.item/\(lE m d).day=d.day:=by
  unfold lE;split<;>exact⟨rfl,rfl,rfl⟩
theorem Rz(day:Int)(p:aP)(gs:List PGaz):(js day p gs).Pairwise Vp:=by
  have h:(qP gs).Pairwise Vp:=List.pairwise_map.2 ((xb _ (Vi gs)).imp fun{d e} h=>by
    have h1:=Jh (am (eg gs) []) d
    have h2:=Jh (am (eg gs) []) e
    unfold Vp at *;omega)
  exact h.filter _
theorem NO{day:Int}{p:aP}{gs:List PGaz}{d:PDeed}(h:d∈js day p gs):∃a,a∈eg gs/\a.number=d.act/\a.day=d.day:=by
  obtain⟨o,ho,rfl⟩:=iS.1 (yc.1 h).1
  obtain⟨a,ha,hoa⟩:=List.mem_flatMap.1 ho
  obtain⟨q1,q2,_⟩:=(nK a _ 0).2 o hoa
  obtain⟨p1,_,p3⟩:=Jh (am (eg gs) []) o
  exact⟨a,ha,by omega,by omega⟩
theorem Oo{gs:List PGaz}{a b:PAct}(ha:a∈eg gs)(hb:b∈eg gs)(e:a.number=b.number):a=b:=
  qG gs [] (fun _ _ h=>by cases h) a b ((jC gs).mem_iff.1 ha) ((jC gs).mem_iff.1 hb) e
theorem YI(x:Int)(r:List Int):Cf (x::r)=if x=0 then Cf r else x:=by
  rw[Cf]
  cases q:ab x 0 with
  |true=>rw[if_pos (iB q)]
  |false=>rw[if_neg (Hc q)]
theorem XM(a b:Int):gm a b=if a<b then -1 else if b<a then 1 else 0:=by
  unfold gm
  cases q:au a b with
  |true=>rw[if_pos (ap q)]
  | false=>
    have:=aB q
    rw[if_neg (by omega)]
    cases q2:au b a with
    |true=>rw[if_pos (ap q2)]
    |false=>have:=aB q2;rw[if_neg (by omega)]
theorem JI(d:PDeed)(a i y:Int):(d.day<y\/(d.day=y/\(d.act<a\/(d.act=a/\d.item<i)))->xp d a i y= -1)/\(d.day=y->d.act=a->d.item=i->xp d a i y=0)/\(y<d.day\/(y=d.day/\(a<d.act\/(a=d.act/\i<d.item)))->xp d a i y=1):=by
  have e:Cf []=0:=rfl
  unfold xp
  simp only[YI,XM,e]
  refine⟨fun h=>?_,fun h1 h2 h3=>?_,fun h=>?_⟩<;>(repeat' split)<;>omega
theorem Dk:∀(l m:List PDeed)(u:TUnit),cj u (l++m)=cj (cj u l) m
  |[],_,_=>rfl
  |d::r,m,u=>Dk r m (ld u d)
theorem RV{α:Type}[Inhabited α]{l:List α}{i:Nat}(h:i<l.length):gD l i=l[i]:=by simp[gD,List.getD,ko h]
theorem S7{α:Type}[Inhabited α]{l:List α}{k:Nat}(h:k<l.length):l.take (k+1)=l.take k++[gD l k]:=by
  rw[RV h,List.take_append_getElem h]
theorem J1{day:Int}{p:aP}{gs:List PGaz}{d:PDeed}(h:d∈js day p gs):mK d.it.kind=true:=(pB.1 (yc.1 h).2).1
theorem Vu{X:List PDeed}(h:X.Pairwise Vp){k j:Nat}(hk:k<j)(hj:j<X.length):Vp (gD X k) (gD X j):=by
  rw[RV hj,RV (show k<X.length by omega)]
  exact FZ.1 h k j (by omega) hj hk
theorem Yo{gs:List PGaz}(ok:OkG gs)(day:Int)(p:aP):StpC day p gs (js day p gs) (fun k=>cj ot ((js day p gs).take k)):=by
  obtain⟨hl,hi,ho⟩:=ok.force day p
  have hup:=Rz day p gs
  have ham:∀d,d∈js day p gs->mK d.it.kind=true:=fun d h=>J1 h
  have hac:∀d,d∈js day p gs->∃a,a∈eg gs/\a.number=d.act/\a.day=d.day:=fun d h=>NO h
  generalize js day p gs=X at *
  have hr:=VQ gs day p X ho
  have hB:∀k,OkB (cj ot (X.take k)):=fun k=>AR Eg fun d hd=>hi d (pE hd)
  have hmem:∀k,k<X.length->gD X k∈X:=fun k hk=>gY hk
  have hd:∀k,kP 27 [.ls ((X.take k).map aK)] (.tuple [eU (cj ot (X.take k)),.ls ((fZ ot (X.take k)).map gj)]):=fun k=>RT _ (by rw[BP];omega) fun d h=>hi d (pE h)
  have hp:∀k,k<X.length->kP 75 [xm (gD X k).act (gD X k).item,.ls (gs.map aA)] (.tuple [JP (gD X k).act (gD X k).item (gD X k).day,.bool true]):=fun k hk=>by
    obtain⟨a,h1,h2,h3⟩:=hac _ (hmem k hk)
    exact PN gs (eg gs) _ _ _ (nl ok.lens.1 (by decide)) ok.all.1 (fun b hb e=>by rw[Oo hb h1 (e.trans h2.symm),h3]) ⟨a,h1,h2⟩
  have hz:∀k,k<X.length->X≠[]:=fun k hk e=>by rw[e]at hk;cases hk
  have hlt:∀k j,k<j->j<X.length->xp (gD X k) (gD X j).act (gD X j).item (gD X j).day = -1:=fun k j h1 h2=>(JI ..).1 (Vu hup h1 h2)
  have heq:∀j,xp (gD X j) (gD X j).act (gD X j).item (gD X j).day=0:=fun j=>(JI ..).2.1 rfl rfl rfl
  have hgt:∀k j,j<k->k<X.length->xp (gD X k) (gD X j).act (gD X j).item (gD X j).day=1:=fun k j h1 h2=>(JI ..).2.2 (by have:=Vu hup h1 h2;unfold Vp at this;omega)
  refine⟨fun k hk=>?_,fun k hk=>?_,ho,hl⟩
  · refine Oc gs day p _ _ _ (LX gs day p X (X.take k) _ _ _ _ _ _ hr (hp k hk) ?_ (hd k))
    refine Mk X _ _ _ _ k hk hl (vT X (hz k hk) hl) (L1 X _ _ _ _ _ k (fun d=>EL d _ _ _ _ _ VV) hk hl (fun j hj=>?_) fun j h1 h2=>?_)
    · rw[hlt j k hj hk];rfl
    · rcases Nat.eq_or_lt_of_le h1 with h|h
      · rw[<-h,heq];rfl
      · rw[hgt j k h h2];rfl
  · refine Io gs day p _ _ _ (LX gs day p X (X.take (k+1)) _ _ _ _ _ _ hr (hp k hk) ?_ (hd (k+1)))
    have hA:∀j,j<k+1->aj (aj (au 0 (xp (gD X j) (gD X k).act (gD X k).item (gD X k).day)))=false:=fun j hj=>by
      rcases Nat.eq_or_lt_of_le (Nat.le_of_lt_succ hj)with h|h
      · rw[h,heq];rfl
      · rw[hlt j k h hk];rfl
    rcases Nat.eq_or_lt_of_le (Nat.succ_le_of_lt hk)with h|h
    · have e:X.take (k+1)=X:=tW (by omega)
      rw[e]
      exact Vy X _ _ _ _ (hz k hk) hl (vT X (hz k hk) hl) (U1 X _ _ _ _ _ (fun d=>EL d _ _ _ _ _ Ki) hl fun j hj=>hA j (by omega))
    · refine Mk X _ _ _ _ (k+1) h hl (vT X (hz k hk) hl) (L1 X _ _ _ _ _ (k+1) (fun d=>EL d _ _ _ _ _ Ki) h hl hA fun j h1 h2=>?_)
      rw[hgt j k (by omega) h2];rfl
theorem Vb(u v:TUnit)(d:PDeed)(e:Int)(he:ab e 0=false)(hA:kP 54 [eU u,aK d] (.tuple [eU v,iV e])):kP 53 [eU u,aK d] (.ls []):=by
  exact bB Tryz.func53<|Kp 4 hA<|Kt 7 (cM he)<|Kf 0 bA
theorem Vc(u v x:TUnit)(d:PDeed)(id:PId)(e2:Int)(l:List PId)(hk:ab d.it.kind 0=true)(hA:kP 54 [eU u,aK d] (.tuple [eU v,iV 0]))(hF:kP 14 [eU u,.ls (d.it.at_.map az)] (.tuple [aV id,iV e2]))(hS:kP 91 [eU d.it.unit,iV d.act,iV d.item] (eU x))(hI:kP 63 [eU x] (.ls (l.map aV))):kP 53 [eU u,aK d] (.ls (l.map aV)):=by
  exact bB Tryz.func53<|Kp 4 hA<|Kp 12 hF<|Kt 10 hk<|Kp 6 hS<|Mp hI<|Kf 0<|bx<|aW<|l.map aV
theorem Va(u v x:TUnit)(d:PDeed)(id:PId)(e2:Int)(b:Bool)(l:List PId)(hk:ab d.it.kind 0=false)(hk1:ab d.it.kind 1=true)(hA:kP 54 [eU u,aK d] (.tuple [eU v,iV 0]))(hF:kP 14 [eU u,.ls (d.it.at_.map az)] (.tuple [aV id,iV e2]))(hX:kP 21 [eU u,aV id] (.tuple [eU x,.bool b]))(hI:kP 63 [eU x] (.ls (l.map aV))):kP 53 [eU u,aK d] (.ls (l.map aV)):=by
  exact bB Tryz.func53<|Kp 4 hA<|Kp 12 hF<|Kh 10 hk<|Kt 1 hk1<|Kp 1 hX<|Kp 6 hI<|Kf 0<|bx<|aW<|l.map aV
theorem Vd(u v:TUnit)(d:PDeed)(id:PId)(e2:Int)(hk:ab d.it.kind 0=false)(hk1:ab d.it.kind 1=false)(hA:kP 54 [eU u,aK d] (.tuple [eU v,iV 0]))(hF:kP 14 [eU u,.ls (d.it.at_.map az)] (.tuple [aV id,iV e2])):kP 53 [eU u,aK d] (.ls ([id].map aV)):=by
  let q:=[av [iV id.a,iV id.i,iV id.n]];exact bB Tryz.func53<|Kp 4 hA<|Kp 12 hF<|Kh 10 hk<|Kh 1 hk1<|Kf 2 (fw q _<|by rfl:Le _ (AV.ps q true))
theorem Rj{u:TUnit}(hu:OkB u)(p:PId):nU (bT p u)<=1024:=by
  have hn:=hu.n
  cases h:bp p u with
  |true=>have:=dA (jK h).1;omega
  |false=>unfold bT;rw[h];exact bH (by decide:nU bd<=1) (by decide)
theorem Mm{u:TUnit}{d:PDeed}(h1:OkB u)(h2:vg d.it)(e:Int):(s9 u d e).length<2^40:=by
  unfold s9 ng
  have ht:=h2.2.2.2.2.2.2.2.2.1
  cases ab e 0
  · exact(by decide:0<2^40)
  · cases ab d.it.kind 0
    · cases ab d.it.kind 1
      · exact(by decide:1<2^40)
      · show(cH _).length<_
        rw[<-kY];have:=Rj h1 (ar u d.it.at_).1;omega
    · show(cH _).length<_
      rw[<-kY,yO];omega
theorem Su(u:TUnit)(d:PDeed)(h1:OkB u)(h2:vg d.it)(h3:mK d.it.kind=true):kP 53 [eU u,aK d] (.ls ((s9 u d (fX u d).2).map aV)):=by
  have hA:=A9 u d h1 h2 h3
  have hF:=tL h1 d.it.at_ h2.2.1
  cases he:ab (fX u d).2 0 with
  |false=>unfold s9;rw[he];exact Vb u _ d _ he hA
  | true=>
    rw[iB he]at hA
    unfold s9 ng;rw[he]
    cases hk:ab d.it.kind 0 with
    | true=>
      have ht:=h2.2.2.2.2.2.2.2.2
      exact Vc u _ _ d _ _ _ hk hA hF (Fo d.act d.item d.it.unit (bH ht.1 (by decide)) (Ff ht) fun x hx=>⟨bH (ht.2 x hx).1 (by decide),bH (ht.2 x hx).2.1 (by decide)⟩) (GM _ (by rw[yO];have:=ht.1;omega))
    | false=>
      cases hk1:ab d.it.kind 1 with
      |true=>exact Va u _ _ d _ _ _ _ hk hk1 hA hF (pb h1 _) (GM _ (by have:=Rj h1 (ar u d.it.at_).1;omega))
      |false=>exact Vd u _ d _ _ hk hk1 hA hF
def Sx(d:PDeed):PRef:=⟨d.act,d.item⟩
noncomputable def Ip(id:PId)(u:TUnit)(d:PDeed):Bool:=(s9 u d (fX u d).2).any (bW id)
noncomputable def nq(id:PId):TUnit->List PDeed->List PRef
  |_,[]=>[]
  |u,d::r=>(bif Ip id u d then[Sx d]else[])++nq id (ld u d) r
theorem AC(id:PId):∀(l:List PDeed)(u:TUnit),(nq id u l).length<=l.length
  |[],_=>af _
  | d::r,u=>by
    have:=AC id r (ld u d)
    rw[nq,lA,lC]
    cases Ip id u d
    · show 0+_<=_;omega
    · show 1+_<=_;omega
theorem OV{id:PId}{u v:TUnit}{l r:List PDeed}{xs:List PRef}(h:nq id u l=xs++nq id v r):xs.length<=l.length:=by
  have z:=congrArg List.length h
  rw[lA]at z
  have:=AC id l u
  omega
theorem V8{id:PId}{u:TUnit}{d:PDeed}{r:List PDeed}(h:mK d.it.kind=true)(h2:(s9 u d (fX u d).2).any (bW id)=false):nq id u (d::r)=nq id (fX u d).1 r:=by
  rw[nq,ld,h,Ip,h2];rfl
theorem V7{id:PId}{u:TUnit}{d:PDeed}{r:List PDeed}(h:mK d.it.kind=true)(h2:(s9 u d (fX u d).2).any (bW id)=true):nq id u (d::r)=Sx d::nq id (fX u d).1 r:=by
  rw[nq,ld,h,Ip,h2];rfl
theorem XL(w:TUnit)(hw:OkB w)(h0:kP 51 [] (eU w))(id:PId)(day:Int)(p:aP)(gs:List PGaz)(X:List PDeed)(hl:X.length<2^30)(ho:∀d,d∈X->vg d.it/\mK d.it.kind=true)(hO:kP 20 [iV day,.str p,.ls (gs.map aA)] (.ls (X.map aK))):kP 19 [aV id,iV day,.str p,.ls (gs.map aA)] (.ls ((nq id w X).map jz)):=by
  have rr0 b' (h:((nq id w X).map jz)=b':=by first|rfl|(rw[hj0.2];rfl)|(rw[hj0.2.2];simp only[nq,ej])|exact aX (fun _=>rfl) _):=h;exact bB Tryz.func19<|Kp 2 h0<|Kp 4 hO<|Kl 0 18 (ln aK X)<|Mg 0<|WW TUnit Nat Nat (List PRef) aK X w [4,9,10,17,18,19] (fun a _ b=>([bX 0 0 0 0,ak,bX 1 0 0 0,aW<|X.map aK,nV X.length,nV a],[aZ 3 false 0 [av [iV id.a,iV id.i,iV id.n]],aZ 8 false 0 [av [iV b.act,iV b.item,iV b.n,iV b.kind,ax b.label,aW<|b.head.map aQ,aW<|b.words.map aQ,aW<|b.kids.map aU]]])) (fun a _ b c e f=>([bX 0 0 0 0,aH 2 c 0 e none,bX 1 0 0 0,aW<|X.map aK,nV X.length,nV a],[aZ 3 false 0 [av [iV id.a,iV id.i,iV id.n]],aZ 8 false 0 [av [iV b.act,iV b.item,iV b.n,iV b.kind,ax b.label,aW<|b.head.map aQ,aW<|b.words.map aQ,aW<|b.kids.map aU]],aZ 2 true c<|f.map jz])) (fun a b=>OkB b/\nq id w X=nq id b a) (fun a b _ c e=>OkB b/\c=e.length/\nq id w X=e++nq id b a) (by(exact⟨hw,rfl⟩)) (fun _ _ _ _ _ _ a hj0=>Kh 0 a<|Kf 1 (Le.lsn<|rr0 []:Le _ (ak))) (fun a _ b c _ e f g i j k _ l hj0=>have c:=ho _<|aN c j;Kt 0 k<|Mx l<|Kp 4 (Su b e (by exact hj0.1) (by exact c.1)<|by exact c.2)<|Kp 0 (yz (s9 b e (fX b e).2) id<|by exact Mm hj0.1 c.1 _)<|Mb ((s9 b e (fX b e).2).any<|bW id) (fun _=>Kp 10 (A9 b e (by exact hj0.1) (by exact c.1)<|by exact c.2)<|Kl 4 42 (dB a)<|Mg 0<|M0 (.ren [0,1,3,2] [] [4,9,10,17,18,19])<|M1 (.frz 3 [4,9,10,17,18,19]) (ju rt rt rt ti)<|Mf<|i (fX b e).1 0 1 [PRef.mk e.act e.item]<|by exact⟨(lk ⟨hj0.1,c.1,c.2⟩).2,rfl,hj0.2.trans (V7 c.2 (by assumption))⟩) fun _=>Kp 1 (A9 b e (by exact hj0.1) (by exact c.1)<|by exact c.2)<|Kl 4 42 (dB a)<|K1 0 (.frz 2 [4,9,10,17,18,19]) (co rt rt ti)<|Mf<|g (fX b e).1<|by exact⟨(lk ⟨hj0.1,c.1,c.2⟩).2,hj0.2.trans (V8 c.2 (by assumption))⟩) (fun _ _ _ a b c _ _ _ e hj0=>Kh 0 e<|Mg 1<|M2 (.fsl 0 [] 8<|c.map jz) ti (co (aJ a) (tA jz c b (oA:(c).length=b))<|aX XB c)<|Ml 8 (fw (c.map jz) false<|aX XB c)<|Mf<|cY<|rr0<|c.map jz) fun a _ b c e f g _ i j _ k l n _ o hj0=>have g:=ho _<|aN g l;Kt 0 n<|Mx o<|Kp 4 (Su b i (by exact hj0.1) (by exact g.1)<|by exact g.2)<|Kp 0 (yz (s9 b i (fX b i).2) id<|by exact Mm hj0.1 g.1 _)<|Mb ((s9 b i (fX b i).2).any<|bW id) (fun _=>K1 6 .app (co (aJ c) (by(rw[lM];exact hj0.2.1):e=(f.map jz).length) (by(have z:=OV hj0.2.2;have z2:=hj0.2.1;refine aD (m:=2^31) ?_ ?_ ?_<;>omega):small (e+1) 16=true))<|M1 (.obj 2<|aZ 2 true (c+1)<|(f++[PRef.mk i.act i.item]).map jz) (congrArg (aZ 2 true<|c+1)<|dw (f:=jz) (l:=f) (ws:=[PRef.mk i.act i.item]))<|Kp 2 (A9 b i (by exact hj0.1) (by exact g.1)<|by exact g.2)<|Kl 4 42 (dB a)<|K1 0 (.frz 3 [4,9,10,17,18,19]) (ju (tR 2 true (c+1) 3<|aX XB<|f++[PRef.mk i.act i.item]) rt rt ti)<|Mf<|k (fX b i).1 (c+1) (e+1) (f++[PRef.mk i.act i.item])<|by exact⟨(lk ⟨hj0.1,g.1,g.2⟩).2,by(have:=hj0.2.1;simp only[lA,lC,lN];omega),hj0.2.2.trans (by rw[V7 g.2 (by assumption)];simp[Sx])⟩) fun _=>Kp 1 (A9 b i (by exact hj0.1) (by exact g.1)<|by exact g.2)<|Kl 4 42 (dB a)<|K1 0 (.frz 3 [4,9,10,17,18,19]) (ju (tR 2 true c 3<|aX XB f) rt rt ti)<|Mf<|k (fX b i).1 c e f<|by exact⟨(lk ⟨hj0.1,g.1,g.2⟩).2,hj0.2.1,hj0.2.2.trans (by rw[V8 g.2 (by assumption)])⟩
theorem L6(id:PId):∀(l:List PDeed)(u:TUnit)(k:Nat),k<l.length->Ip id (cj u (l.take k)) (gD l k)=true->Sx (gD l k)∈nq id u l
  | d::r,u,0,_,h=>by
    rw[nq]
    have h:Ip id u d=true:=h
    rw[h];exact FQ _ (ly.2 rfl)
  | d::r,u,k+1,hk,h=>by
    rw[nq]
    exact BE _ (L6 id r (ld u d) k (Nat.lt_of_succ_lt_succ hk) h)
def ZG(d:PDeed)(r:PRef):Bool:=ab r.act d.act&&ab r.item d.item
theorem UY{f:PRef->Bool}{cs:List PRef}{n:Nat}{b:Bool}(h:b=(cs.take n).any f)(hn:cs.length<=n)(hb:b=false):cs.any f=false:=by
  rw[tW hn]at h;exact h▸hb
theorem QC{f:PRef->Bool}{cs:List PRef}{n:Nat}{b:Bool}(hn:n<cs.length)(h:b=(cs.take n).any f):(b||f (gD cs n))=(cs.take (n+1)).any f:=by
  have e:cs.take (n+1)=cs.take n++[gD cs n]:=by rw[show gD cs n=cs[n] by simp[gD,List.getD,ko hn],List.take_append_getElem hn]
  rw[e,List.any_append,h];simp
theorem Y8{f:PRef->Bool}{cs:List PRef}{n:Nat}{b:Bool}(hn:n<cs.length)(h:b=(cs.take n).any f)(hb:b=true):true=(cs.take (n+1)).any f:=by
  rw[<-QC hn h,hb];rfl
theorem Y9{f:PRef->Bool}{cs:List PRef}{n:Nat}{b:Bool}(hn:n<cs.length)(h:b=(cs.take n).any f)(hb:b=false):f (gD cs n)=(cs.take (n+1)).any f:=by
  rw[<-QC hn h,hb];rfl
theorem Wq(id:PId)(day:Int)(p:aP)(gs:List PGaz)(haw:kP 17 [] (.bool true))(hw:kP 18 [.ls (gs.map aA),.str p] (.bool false)):kP 5 [aV id,iV day,.str p,.ls (gs.map aA)] (.bool true):=by
  exact bB Tryz.func5<|Kp 1 haw<|Kp 3 hw<|Kf 4<|bx<|ez true
theorem Yv(day:Int)(p:aP)(gs:List PGaz)(haw:kP 17 [] (.bool true))(hw:kP 18 [.ls (gs.map aA),.str p] (.bool true)):kP 5 [aV ⟨0,0,0⟩,iV day,.str p,.ls (gs.map aA)] (.bool true):=by
  exact bB Tryz.func5<|Kp 1 haw<|Kp 3 hw<|Kf 7<|bx<|ez true
theorem Wz(id:PId)(day:Int)(p:aP)(gs:List PGaz)(X:List PDeed)(cs:List PRef)(bk:Nat->TUnit)(b:Nat->Bool)(xs ys:Nat->TUnit)(hne:(ab id.a 0&&(ab id.i 0&&ab id.n 0))=false)(haw:kP 17 [] (.bool true))(hw:kP 18 [.ls (gs.map aA),.str p] (.bool true))(hl:X.length<2^30)(hl2:cs.length<2^30)(hC:kP 19 [aV id,iV day,.str p,.ls (gs.map aA)] (.ls (cs.map jz)))(hO:kP 20 [iV day,.str p,.ls (gs.map aA)] (.ls (X.map aK)))
    (cb:∀k,k<X.length->kP 15 [iV day,.str p,xm (gD X k).act (gD X k).item,.ls (gs.map aA)] (eU (bk k)))
    (ct:∀k,k<X.length->kP 22 [iV day,.str p,xm (gD X k).act (gD X k).item,.ls (gs.map aA)] (eU (bk (k+1))))
    (hF1:∀k,k<X.length->kP 21 [eU (bk k),aV id] (.tuple [eU (xs k),.bool (b k)]))
    (hF2:∀k,k<X.length->cs.any (ZG (gD X k))=false->kP 21 [eU (bk (k+1)),aV id] (.tuple [.agg [iV (ys k).act,iV (ys k).item,iV (ys k).n,iV (ys k).kind,.str (xs k).label,.ls ((xs k).head.map aQ),.ls ((xs k).words.map aQ),.ls ((ys k).kids.map aU)],.bool (b k)]))
    (hh:∀k,(xs k).head.length<2^40/\(xs k).words.length<2^40):
    kP 5 [aV id,iV day,.str p,.ls (gs.map aA)] (.bool true):=by
  have rr0 b' (h:(true)=b':=by(exfalso;simp_all[RA];done)):=h;let q:=[iV id.a,iV id.i,iV id.n];exact bB Tryz.func5<|Kp 1 haw<|Kp 3 hw<|Kv 3 (lQ ((Tryz.prog).underlying 26) id.a id.i id.n 0 0 0<|aa [aZ 3 false 0 [av q]])<|Kh 0 hne<|Kp 3 hC<|Kp 3 hO<|Mg 1<|Zp (0:Nat) [1,2,3,4,9,10,11] (fun a=>([iV day,ax p,aW<|gs.map aA,bX 0 0 0 0,aW<|cs.map jz,aW<|X.map aK,nV a],[aZ 3 false 0 [av [iV id.a,iV id.i,iV id.n]]])) (fun a=>a<=X.length) (fun a=>X.length-a) (by exact bE _) fun a c d=>have:=c;Kl 2 41 (ln aK X)<|Ka 0 (Int.ofNat a) (Int.ofNat X.length) (fun _ _=>Kx 1 (bQ aK (by(simp only[oN,lM,lS]at *;omega):a<(X).length))<|Kx 3 (bQ aK (by(simp only[oN,lM,lS]at *;omega):a<(X).length))<|Mg 6<|J3 (0:Nat) false [1,2,3,4,9,10,11,12,13,14] (fun c d=>([iV day,ax p,aW<|gs.map aA,bX 0 0 0 0,aW<|cs.map jz,aW<|X.map aK,nV a,bX 1 0 0 0,ez d,nV c],[aZ 3 false 0 [av [iV id.a,iV id.i,iV id.n]],aZ 2 false 0 [av [iV (gD X a).act,iV (gD X a).item]]])) (fun c d=>c<=cs.length/\d=(cs.take c).any (ZG<|gD X a)) (fun a _=>cs.length-a) (by exact⟨bE _,rfl⟩) fun c e f g=>have f:=f;Kl 2 58 (ln jz cs)<|Ka 0 (Int.ofNat c) (Int.ofNat cs.length) (fun _ _=>Kb 1 e (fun d=>Mt d<|Mt d<|Mt d<|Mt d<|Mt d<|MV d<|Kl 2 61 (iT c)<|Kf 0<|g (c+1) true (by exact⟨by(simp only[oN]at *;omega),Y8 (by(simp only[oN]at *;omega)) f.2 (by assumption)⟩)<|by(simp only[oN]at *;omega)) fun d=>Kh 0 d<|Kh 0 d<|Mx (bQ jz (by(simp only[oN,lM,lS]at *;omega):c<(cs).length))<|Mh d<|Kh 0 d<|Kh 0 d<|Mv (yy (d:=(Tryz.prog).underlying 43) (n:=2) (l:=(0,1)::(1,1)::[]) (xs:=[iV (gD cs c).act,iV (gD cs c).item]) (ys:=[iV (gD X a).act,iV (gD X a).item]) (H:=AHeap.mk 1000000 Tr.nil) rfl<|og (e:=ab (gD cs c).act (gD X a).act) rfl rfl rfl<|Ag (e:=ab (gD cs c).item (gD X a).item) rfl rfl rfl rfl)<|My d<|Kl 2 61 (iT c)<|Kf 0<|g (c+1) (ab (gD cs c).act (gD X a).act &&ab (gD cs c).item (gD X a).item) (by exact⟨by(simp only[oN]at *;omega),Y9 (by(simp only[oN]at *;omega)) f.2 (by assumption)⟩)<|by(simp only[oN]at *;omega)) fun _ _=>Kb 0 e (fun _=>Kl 1 44 (iT a)<|K1 0 (.frz 1 [1,2,3,4,9,10,11]) (et rt ti)<|Mf<|d (a+1) (by(simp only[oN]at *;omega))<|by(simp only[oN]at *;omega)) fun _=>Kp 3 (cb a<|by(simp only[oN]at *;omega))<|Kp 0 (hF1 a<|by(simp only[oN]at *;omega))<|Kp 9 (ct a<|by(simp only[oN]at *;omega))<|Kp 0 (hF2 a (by(simp only[oN]at *;omega))<|by exact UY f.2 (by(simp only[oN]at *;omega)) (by assumption))<|Kn 9 (b a==b a) (fun a=>Mt (cM a)<|Mt (cM a)<|Mt (cM a)<|Mt (cM a)<|MV (cM a)<|Ky 5<|rr0 false) fun c=>Kh 0 (ca c)<|Kh 0 (ca c)<|Kh 0 (ca c)<|Kh 0 (ca c)<|Kw 0 (ca c)<|Kn 0 (dP (xs a).label (xs a).label) (fun a=>Mt (cM a)<|Mt (cM a)<|Mt (cM a)<|Mt (cM a)<|Mt (cM a)<|MV (cM a)<|Ky 3<|rr0 false) fun c=>Kh 0 (ca c)<|Kh 0 (ca c)<|Kh 0 (ca c)<|Kh 0 (ca c)<|Mp (F3 (xs a).head<|by exact(hh _).1)<|Mh (ca c)<|Kw 0 (ca c)<|Kp 4 (F3 (xs a).words<|by exact(hh _).2)<|Kl 4 44 (iT a)<|K1 0 (.frz 1 [1,2,3,4,9,10,11]) (et rt ti)<|Mf<|d (a+1) (by(simp only[oN]at *;omega))<|by(simp only[oN]at *;omega)) fun _ _=>Kf 0<|bx<|ez true
theorem Yy{id:PId}{X:List PDeed}{k:Nat}(hk:k<X.length)(h:(nq id ot X).any (ZG (gD X k))=false):id∉s9 (cj ot (X.take k)) (gD X k) (fX (cj ot (X.take k)) (gD X k)).2:=fun hm=>by
  have h1:Ip id (cj ot (X.take k)) (gD X k)=true:=List.any_eq_true.2 ⟨id,hm,ip id⟩
  exact List.any_eq_false.1 h _ (L6 id X ot k hk h1) (by unfold ZG Sx;rw[bz,bz];rfl)
theorem yA(id:PId)(day:Int)(p:aP)(gs:List PGaz)(hf:pH gs)(haw:kP 17 [] (.bool true)):kP 5 [aV id,iV day,.str p,.ls (gs.map aA)] (.bool true):=by
  have hw:=UF gs p hf
  cases hb:N3 gs p with
  |false=>rw[hb]at hw;exact Wq id day p gs haw hw
  | true=>
    rw[hb]at hw
    cases hz:(ab id.a 0&&(ab id.i 0&&ab id.n 0))with
    | true=>
      obtain⟨a,i,n⟩:=id
      simp only[bq]at hz
      obtain rfl:=iB hz.1
      obtain rfl:=iB hz.2.1
      obtain rfl:=iB hz.2.2
      exact Yv day p gs haw hw
    | false=>
      have ok:=(WI hf hb).1
      obtain⟨hl,hi,ho⟩:=ok.force day p
      have hs:=Yo ok day p
      have hB:∀k,OkB (cj ot ((js day p gs).take k)):=fun k=>AR Eg fun d hd=>hi d (pE hd)
      have ham:∀d,d∈js day p gs->mK d.it.kind=true:=fun d h=>J1 h
      have hc:=XL ot Eg RC id day p gs _ hl (fun d hd=>⟨hi d hd,J1 hd⟩) ho
      generalize js day p gs=X at *
      have hw2:∀k,(bT id (cj ot (X.take k))).head.length<2^40/\(bT id (cj ot (X.take k))).words.length<2^40:=fun k=>by
        cases h:bp id (cj ot (X.take k))with
        |true=>have:=(hB k).w _ (jK h).1;omega
        |false=>unfold bT;rw[h];exact⟨(by decide:(0:Nat)<2^40),(by decide:(0:Nat)<2^40)⟩
      refine Wz id day p gs X (nq id ot X) (fun k=>cj ot (X.take k)) (fun k=>bp id (cj ot (X.take k))) (fun k=>bT id (cj ot (X.take k))) (fun k=>bT id (cj ot (X.take (k+1)))) hz haw hw hl (nl (AC ..) hl) hc hs.o hs.b hs.t (fun k _=>pb (hB k) id) (fun k hk hn=>?_) hw2
      have hgd:=gY hk
      have hu:=YQ (hB k) (hi _ hgd) (ham _ hgd)
      have e:cj ot (X.take (k+1))=(fX (cj ot (X.take k)) (gD X k)).1:=by
        rw[S7 hk,Dk];show ld _ _=_;unfold ld;rw[ham _ hgd];rfl
      rw[<-e]at hu
      obtain⟨e1,e2,e3,e4⟩:=Un.find (hB k) (hB (k+1)) hu (Yy hk hn)
      have z:=pb (hB (k+1)) id
      rw[show eU (bT id (cj ot (X.take (k+1))))=.agg (cU (bT id (cj ot (X.take (k+1)))))from rfl]at z
      unfold cU at z
      rw[<-e1,<-e2,<-e3,<-e4]at z
      exact z
noncomputable abbrev ZH:AV:=.agg [iV 0,iV 0,iV 0,iV 0,.str [],.nils,.nils,.ps [.agg [iV 1,iV 0,iV 1,iV 2,.str [49],.nils,.ps [.agg [.str [97],iV 1,iV 0,iV 0],.agg [.str [99],iV 2,iV 0,iV 0]] false,.ps [] true]] false]
abbrev Vt:List PWord:=[⟨[97],1,0,0⟩,⟨[99],2,0,0⟩]
theorem VZ:kD 86 [ZH,.map 0] (aa [.map [] 0]) (.tuple []) (aa [.map (bD bZ (tally Vt []) 0) (tally Vt []).length]):=by
  exact wcq Tryz.func86 (.go 4<|.un 0<|.go 5<|.un 1<|.go 12<|.frz 1 [] .fin) fun a=>et (et rt ti) a
theorem I6(p q:PPair):kP 88 [fq p,fq q] (iV (lq p q)):=by
  have rr0 b' (h:(lq p q)=b':=by(unfold lq;simp only[*];rfl)):=h;exact bB Tryz.func88<|Ka 7 p.a q.a (fun _ _=>Kf 0<|li<|rr0 (-1)) fun _ _=>Kf 0<|li<|rr0 1
theorem Tp:Go.Sort.SWO (vD lq):=by
  have key:∀a b:PPair,vD lq a b=au a.a b.a:=fun a b=>zw a b
  refine⟨fun x=>?_,fun x y z h1 h2=>?_,fun x y z h1 h2=>?_⟩
  · rw[key];exact kq (Int.le_refl _)
  · rw[key]at *;have:=ap h1;have:=ap h2;exact m0 (by omega)
  · rw[key]at *;have:=aB h1;have:=aB h2;exact kq (by omega)
theorem Wu(a b:PPair):vD lq b a=false↔a.a<=b.a:=by
  have:vD lq b a=au b.a a.a:=zw b a
  rw[this]
  exact⟨aB,kq⟩
theorem GW(l:List PPair)(ep n:Nat)(hn:n=l.length)(hz:0<l.length)(hb:l.length<2^40):
    kC 87 [.slice 0 ep 0 n none,.func (.func 88) [] []] (aa [.row 2 true ep (l.map fq)])
      (fun v h=>∃l':List PPair,(l'.Perm l/\l'.Pairwise fun x y=>x.a<=y.a)/\v=.tuple []/\h=aa [.row 2 true ep (l'.map fq)]):=by
  subst hn
  refine(r9 (f:=87) (g:=88) (sz:=2) jq (Go.Proofs.Tryz.lpair.f6.enters rfl) (Go.Proofs.enters_of Tryz.func88 (by kernel_rfl) rfl)
    (fun m enc cf blk off cap d w hk h1 hO hc hH hblk hsz=>Go.Proofs.AnyQ.slices_SortFunc Go.Proofs.Tryz.lpair 2 Tryz.isAgg108 Tryz.sizeOf108 enc hk h1 cf hO 88 #[] blk off cap d w (Go.Proofs.enters_of Tryz.func88 (by kernel_rfl) rfl) hc hH hblk hsz)
    fq lq Tp (fun a=>⟨_,rfl⟩) (fun a=>rfl) l (fun a _ b _=>I6 a b) (h:=aa [.row 2 true ep (l.map fq)]) (op:=true) rfl hz (by omega)).mono fun v h ⟨l',⟨h1,h2⟩,h3,h4⟩=>
      ⟨l',⟨h1,h2.imp fun{a b} h=>(Wu a b).1 h⟩,h3,h4.trans rfl⟩
theorem DN:kP 87 [.nils,.func (.func 88) [] []] (.tuple []):=
  oX (Go.Proofs.Tryz.lpair.f6.enters rfl) fun p cap fv w=>Go.Proofs.AnyF.slices_SortFunc_none {Go.Proofs.Tryz.lpair with} p cap fv w
def ET(M:List (Int×Int))(n:Nat)(s:List Nat)(l:List PPair):Prop:=n=l.length/\0<n/\l=s.map (fun i=>pQ (gD M i))/\s.Nodup/\∀i,i∈s->i<M.length
theorem IF{M:List (Int×Int)}{i:Nat}(h:i<M.length):ET M 1 ([]++[i]) [⟨(gD M i).1,(gD M i).2⟩]:=
  ⟨rfl,by decide,rfl,List.nodup_cons.2 ⟨List.not_mem_nil,List.nodup_nil⟩,fun j hj=>by rw[ly.1 hj];exact h⟩
theorem NZ{M:List (Int×Int)}{n i:Nat}{s:List Nat}{l:List PPair}(h:ET M n s l)(hi:i<M.length)(hs:¬i∈s):ET M (n+1) (s++[i]) (l++[⟨(gD M i).1,(gD M i).2⟩]):=by
  obtain⟨h1,h2,h3,h4,h5⟩:=h
  refine⟨by rw[lA,<-h1];rfl,yb _,by rw[h3,pA];rfl,zf h4 hs,fun j hj=>?_⟩
  rcases iy.1 hj with k|k
  · exact h5 j k
  · rw[ly.1 k];exact hi
theorem Wi{M:List (Int×Int)}{n:Nat}{s:List Nat}{l:List PPair}(h:ET M n s l)(hM:M.length<=2^30):n=l.length/\0<l.length/\l.length<=2^30/\s.length<=M.length:=by
  obtain⟨h1,h2,h3,h4,h5⟩:=h
  have h6:=qm _ s h4 h5
  exact⟨h1,h1▸h2,by rw[h3,lM];omega,h6⟩
theorem Tq{M:List (Int×Int)}{n i:Nat}{s:List Nat}{l:List PPair}(h:ET M n s l)(hi:i<M.length)(hs:¬i∈s):s.length<M.length:=Pr h.2.2.2.1 h.2.2.2.2 hi hs
theorem WV{ws:List PWord}{M:List (Int×Int)}{n:Nat}{s:List Nat}{l y:List PPair}(hM:tally ws []=M)(h:ET M n s l)(hd:∀i,i<M.length->i∈s)(hy:y.Perm l/\y.Pairwise fun x y=>x.a<=y.a):
    (lV ws).map fq=(y.take n).map fq:=by
  obtain⟨h1,h2,h3,h4,h5⟩:=h
  rw[<-IE hM hy.1 hy.2 h3 h4 h5 hd,tW (by rw[hy.1.length_eq,h1];exact af _)]
def PZ(M:List (Int×Int))(x0:Unit):Prop:=True
noncomputable def Fk(M:List (Int×Int))(x0:Unit):List AV×List AObj:=([AV.nils,AV.ptr 1 0 0 0],[AObj.map (bD bZ M 0) M.length,AObj.miter (AV.map 0) M.length []])
def PQ(M:List (Int×Int))(x0:Nat×Nat×List Nat×List PPair):Prop:=ET M x0.2.1 x0.2.2.1 x0.2.2.2
noncomputable def O9(M:List (Int×Int))(x0:Nat×Nat×List Nat×List PPair):List AV×List AObj:=([AV.slice 2 x0.1 0 x0.2.1 none,AV.ptr 1 0 0 0],[AObj.map (bD bZ M 0) M.length,AObj.miter (AV.map 0) M.length x0.2.2.1,AObj.row 2 true x0.1 (x0.2.2.2.map fq)])
theorem WK:kP 48 [ZH] (.ls ((lV Vt).map fq)):=by
  have hc:=VZ
  have hML:(tally Vt []).length<=2^30:=(by decide)
  generalize hM:tally Vt []=M at hc hML
  have rr0 b' (h:((lV Vt).map fq)=b':=by first|(rw[FH hM ‹_›];rfl)|exact WV hM hx0 ‹_› hy3):=h;exact bB Tryz.func48<|Mg 5<|M0 (.ren [1,0] [] [3,8,9])<|M1 (.frz 1 [3,8,9]) (et rt ti)<|Me hc<|Mg 2<|MM Unit (Nat×Nat×List Nat×List PPair) [4,12] (Fk M) (O9 M) (PZ M) (PQ M) (fun _=>M.length) (fun a=>M.length-a.2.2.1.length) (.inl ()) (aJ<|Fk M ()) (by trivial:True) (fun _ hx0 a=>have hx0:=hx0;Mw (.nxt Nat (fun a=>iV (gD M a).1) (fun a=>bZ (gD M a).2) (fun a=>a) (fun a=>a<M.length/\¬a∈[]) (.go 2<|.pure (b8 [])<|.go 1 .fin) fun a=>.go 1<|.ent (b8 [iV (gD M a).1,iV (gD M a).2])<|.go 10 .fin)<|co (Ai (f:=bZ) (l:=M) (seen:=[])) (fun a=>(fun(_:∀(i1:Nat),i1<M.length->i1∈[])=>et DN (Le.lsn<|rr0 []:Le _ (ak)))<|Al (f:=bZ) (l:=M) a) fun(b:Nat)(c:b<M.length/\¬b∈[])=>(fun(_:b<M.length)=>et (xW (f:=bZ) (l:=M) (s:=[]) (i:=b) oA)<|a (.inr (0,1,[]++[b],[PPair.mk (gD M b).1 (gD M b).2])) (by exact IF c.1:ET M (1:Nat) ([]++[b]) [PPair.mk (gD M b).1 (gD M b).2]) (by(simp only[lA,lC,lN];omega):M.length-([]++[b]).length<M.length)) c.1) fun a hx0 b=>have hx0:=hx0;have:=Wi hx0 hML;Mw (.nxt Nat (fun a=>iV (gD M a).1) (fun a=>bZ (gD M a).2) (fun a=>a) (fun b=>b<M.length/\¬b∈a.2.2.1) (.go 2<|.ren [2,0,1] [2,0] [4,24]<|.frz 1 [4,24]<|.eff (List PPair) (fun _=>b8 []) (fun b=>aa [aZ 2 true a.1<|b.map fq]) (fun b=>b.Perm a.2.2.2/\List.Pairwise (fun a b=>a.a<=b.a) b) fun b=>let a:=List.map fq<|b.take a.2.1;.go 1<|.fsl 0 [] 2 a<|.le 2 (aW a) .fin) fun b=>.go 1<|.ent (b8 [iV (gD M b).1,iV (gD M b).2])<|.go 8<|.app<|.obj 2 (aZ 2 true (a.1+1)<|(a.2.2.2++[PPair.mk (gD M b).1 (gD M b).2]).map fq)<|.go 0 .fin)<|co (Ai (f:=bZ) (l:=M) (seen:=a.2.2.1)) (fun b=>(fun(_:∀(i2:Nat),i2<M.length->i2∈a.2.2.1)=>Hy (tS 2 true a.1<|aX V3 a.2.2.2) (tN M.length<|aE (f:=bZ) (fun _=>rfl) M 0) (et (tR 2 true a.1 1<|aX V3 a.2.2.2) ti) (GW a.2.2.2 a.1 a.2.1 oA oA oA) fun(b:List PPair)(hy3:b.Perm a.2.2.2/\List.Pairwise (fun x y=>x.a<=y.a) b)=>let c:=List.map fq<|b.take a.2.1;ju ti (co (aJ a.1) (yG (f:=fq) (l:=b) (n:=a.2.1))<|aX V3<|b.take a.2.1) (fw c false<|aX V3<|b.take a.2.1)<|cY<|rr0 c)<|Al (f:=bZ) (l:=M) b) fun(c:Nat)(d:c<M.length/\¬c∈a.2.2.1)=>(fun(_:c<M.length)=>ju (xW (f:=bZ) (l:=M) (s:=a.2.2.1) (i:=c) oA) (co (aJ a.1) (by(simp only[lM];omega):a.2.1=(a.2.2.2.map fq).length) (by(refine aD (m:=2^31) ?_ ?_ ?_<;>omega):small (a.2.1+1) 16=true)) (congrArg (aZ 2 true<|a.1+1)<|dw (f:=fq) (l:=a.2.2.2) (ws:=[PPair.mk (gD M c).1 (gD M c).2]))<|b (.inr (a.1+1,a.2.1+1,a.2.2.1++[c],a.2.2.2++[PPair.mk (gD M c).1 (gD M c).2])) (by exact NZ hx0 d.1 d.2:ET M (a.2.1+1) (a.2.2.1++[c]) (a.2.2.2++[PPair.mk (gD M c).1 (gD M c).2])) (by(have:=Tq hx0 d.1 d.2;simp only[lA,lC,lN];omega):M.length-(a.2.2.1++[c]).length<M.length-a.2.2.1.length)) d.1
end Go.Proofs.YtdhkhecalpkngaaGreatDoor
