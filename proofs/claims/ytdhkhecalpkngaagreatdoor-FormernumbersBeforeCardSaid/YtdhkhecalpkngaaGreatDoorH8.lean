/- Functions walked: what each of them answers, for If an address denotes exactly one unit on the book before an item reference, LastHolder returns that unit, and every unit that LastHolder returns is among the Holders: part 8. Conditions: those that each theorem names. -/
import Derived.Test.YtdhkhecalpkngaaGreatDoorH7
namespace Go.Proofs.YtdhkhecalpkngaaGreatDoor
open Go Go.Ev
theorem Vv(X:List PDeed)(g:Nat)(a i y:Int)(m:Nat)(hm:m<X.length)(hs:X.length<2^30)(hc:kD 113 [.ls (X.map aK)] (av []) (.slice 0 0 0 X.length none) (av [eT 0 X]))(hd:kD 112 [.slice 0 0 0 X.length none,oX g a i y] (av [eT 0 X]) (.slice 0 0 0 m none) (av [MH X m])):kP 76 [.ls (X.map aK),Bx a i y,vQ g] (.ls ((X.take m).map aK)):=by
  have e3:(X.take m).length=m:=by rw[tg];omega
  let q:=List.map aK (X.take m);exact bo Tryz.func76<|K1 3 (.frz 0 [4,5,7]) ti<|Me hc<|Ke 0 hd<|Mg 0<|M2 (.fsl 0 [] 6 q) ti (ch (ax 0) (Fg (ys:=List.replicate (X.length-m) zD) (by(rw[lM];exact e3):((X.take m).map aK).length=m))<|aX xg<|X.take m)<|Ml 6 (fY q false<|aX xg<|X.take m)<|Mf<|bY<|aW q
theorem Vk(X:List PDeed)(g:Nat)(a i y:Int)(hz:X≠[])(hs:X.length<2^30)(hc:kD 113 [.ls (X.map aK)] (av []) (.slice 0 0 0 X.length none) (av [eT 0 X]))(hd:kD 112 [.slice 0 0 0 X.length none,oX g a i y] (av [eT 0 X]) (.slice 0 0 0 X.length none) (av [eT 0 X])):kP 76 [.ls (X.map aK),Bx a i y,vQ g] (.ls (X.map aK)):=by
  let q:=List.map aK X;exact bo Tryz.func76<|K1 3 (.frz 0 [4,5,7]) ti<|Me hc<|Ke 0 hd<|Mg 0<|M2 (.fsl 0 [] 6 q) ti (ch (ax 0) (tA aK X X.length rfl)<|aX xg X)<|Ml 6 (fY q false<|aX xg X)<|Mf<|bY<|aW q
theorem Pm(gs:List PGaz)(L:List PAct)(a i y:Int)(hL:L.length<10000)(ha:kP 77 [.ls (gs.map am)] (.ls (L.map ay)))(hd:∀b,b∈L->b.number=a->b.day=y)(hx:∃b,b∈L/\b.number=a):kP 75 [lE a i,.ls (gs.map am)] (.tuple [Bx a i y,.bool true]):=by
  have rr0 b' (h:(y)=b':=by(rw[hd _ (aI zD0 hr0) (iR ‹_›)])):=h;exact bo Tryz.func75<|Kp 3 ha<|Kl 0 10 (ln ay L)<|Mg 0<|tw ay L [2,4,9,10,11] (fun c _=>([au 0 0 0 0,au 1 0 0 0,aW<|L.map ay,nV L.length,nV c],[aZ 2 false 0 [az [iV a,iV i]],aZ 28 false 0 [az [iV 0,iV 0,iV 0,iV 0,ak,ak,iV 0,iV 0,iV 0,iV 0,iV 0,iV 0,aV [],ak,ak,ak,ak,ak,aV [],aV [],iV 0,iV 0,aV [],iV 0,iV 0,iV 0,aV [],ak]]])) (fun c=>∃b,b∈c/\b.number=a) (by(exact hx)) (fun _ _ zD0 _ hr0 _ c=>Mw .abs (by simp at c:False)) fun c _ zD0 _ d f g hr0 j _ k l=>Kt 0 j<|Mx k<|Kj 7 d.number a (fun _ _=>Kf 8 (eF<|.cons (aO (lc<|lc<|.cons (li<|rr0 d.day)<|lc<|lc<|lc<|lc<|lc<|lc<|lc<|lc<|lc<|lc<|lc<|lc<|lc<|lc<|lc<|lc<|lc<|lc<|lc<|lc<|lc<|lc<|lc<|lc<|lc .nil)<|by kernel_rfl)<|lc .nil:Le _ (dg [az [iV a,iV i,iV d.day,iV 0,ak,ak,iV 0,iV 0,iV 0,iV 0,iV 0,iV 0,aV [],ak,ak,ak,ak,ak,aV [],aV [],iV 0,iV 0,aV [],iV 0,iV 0,iV 0,aV [],ak],dQ true]))) fun _ _=>Kl 0 27 (dU c)<|K1 0 (.frz 2 [2,4,9,10,11]) (ch rt rt ti)<|Mf<|g<|by(obtain⟨b,hb,e⟩:=l;rcases fk.1 hb with h|h;exact absurd (h▸e) (by assumption);exact⟨b,h,e⟩)
noncomputable abbrev ahA(a i:Int):AV:=.func (.func 79) [] [.pptr [lE a i] 0 0]
noncomputable abbrev SG(a i y:Int):AV:=.func (.func 82) [] [.pptr [Bx a i y] 0 0]
theorem XR(a i:Int)(b:PAct):kP 79 [ay b,.pptr [lE a i] 0 0] (.bool (ae b.number a)):=by
  exact wk Tryz.func79 (.go 7 .fin)<|bY<|dQ<|ae b.number a
theorem XP(a i y:Int)(d:PDeed):kP 82 [aK d,.pptr [Bx a i y] 0 0] (.bool (aw (aB (rq d a i y) 0))):=by
  have h:=LN d a i y
  exact bo Tryz.func82<|Kp 3 h<|Kf 1<|bY<|dQ<|aw<|aB (rq d a i y) 0
theorem uA(a i:Int)(l:List PAct)(hl:l.length<2^40):kP 78 [.ls (l.map ay),ahA a i] (iV (cM (fun b=>ae b.number a) l 0)):=by
  have rr0 b' (h:(cM (fun b=>ae b.number a) l 0)=b':=by first|exact lh zD0 hr0 hj0 ‹_› |exact hj0):=h;exact bo Tryz.func78<|Kl 2 7 (ln ay l)<|Mg 0<|tw ay l [0,1,7,8] (fun c _=>([aW<|l.map ay,bQ (aT 79) [] [AV.pptr [az [iV a,iV i]] 0 0],nV l.length,nV c],[])) (fun c=>cM (fun b=>ae b.number a) l (0:Nat)=cM (fun b=>ae b.number a) c (l.length-c.length)) (by(exact Nr)) (fun _ _ zD0 _ hr0 c hj0=>Kh 0 c<|Kf 0<|li<|rr0 (-1)) fun c _ zD0 _ d e f hr0 g _ j hj0=>Kt 0 g<|Kx 4 j<|Kp 0 (XR a i d)<|Mb (ae d.number a) (fun d=>have:=iR d;Kf 1<|li<|rr0<|Int.ofNat c) fun d=>have:=C8 d;Kl 0 18 (dU c)<|Kf 0<|f<|by exact jp zD0 hr0 hj0 (by assumption)
theorem R5(w:PDeed)(r:List PDeed)(hl:r.length<2^30):kD 81 [.ls ((w::r).map aK)] (av []) (.slice 0 0 0 (r.length+1) none) (av [eT 0 (w::r)]):=by
  exact CQ Tryz.func81<|Mg 1<|Mz 3 (fun(a:((w::r).map aK:List AV)=[])=>Mw .abs<|ja _ _ a)<|Mg 3<|M2 .apl (et (by exact ja _ _:List.map aK (w::r)≠[])<|fM 28 aK (w::r) fun _=>rfl) (by(refine dK (m:=2^31) ?_ ?_ ?_<;>first|omega|(simp only[lM,lC];omega)):small ((w::r).map aK).length 392=true)<|Kf 0<|et (by simp:(AV.slice 0 0 0 ((w::r).map aK).length none)=(AV.slice 0 0 0 (r.length+1) none))<|ax<|av [aZ 28 true 0<|(w::r).map aK]
theorem Dq(X:List PDeed)(hz:X≠[])(hl:X.length<2^30):kD 81 [.ls (X.map aK)] (av []) (.slice 0 0 0 X.length none) (av [eT 0 X]):=by
  cases X with
  |nil=>exact absurd rfl hz
  |cons w r=>exact R5 w r (by simp only[lC]at hl;omega)
theorem Ux(X:List PDeed)(a i y:Int)(q:PDeed->Bool)(m:Nat)(hq:∀d,kP 82 [aK d,.pptr [Bx a i y] 0 0] (.bool (q d)))(hm:m<X.length)(hs:X.length<2^30)(hA:∀k,k<m->q (gD X k)=false)(hB:q (gD X m)=true):kD 121 [.slice 0 0 0 X.length none,SG a i y] (av [eT 0 X]) (nV m) (av [eT 0 X]):=by
  have hk:∀x,x<=m->q (gD X x)=true->x=m:=fun x h1 h2=>by
    rcases eA x m with h|h
    · rw[hA x h]at h2;cases h2
    · omega
  have hk2:∀x,x<=m->q (gD X x)=false->x+1<=m:=fun x h1 h2=>by
    rcases eA x m with h|h
    · exact h
    · rw[show x=m by omega,hB]at h2;cases h2
  let q1:=av [aZ 28 true 0 (X.map aK)];exact CQ Tryz.func121<|Mg 3<|XT (0:Nat) [0,1,7,8] (fun b=>([aD 0 0 0 X.length none,bQ (aT 82) [] [AV.pptr [az [iV a,iV i,iV y,iV 0,ak,ak,iV 0,iV 0,iV 0,iV 0,iV 0,iV 0,aV [],ak,ak,ak,ak,ak,aV [],aV [],iV 0,iV 0,aV [],iV 0,iV 0,iV 0,aV [],ak]] 0 0],nV X.length,nV b],[aZ 28 true 0<|X.map aK])) (fun b=>b<=m) (fun b=>X.length-b) (by exact bD _) fun b c e=>have c:=c;Ka 0 (Int.ofNat b) (Int.ofNat X.length) (fun _ _=>K1 4 .rix (et (ax 0) (oA:b<X.length))<|Mr (et (ax 0)<|bJ aK (oA:b<(X).length))<|Mp (hq<|gD X b)<|Mb (q<|gD X b) (fun _=>Kf 1<|et (by(rw[hk _ c (by assumption)]):(nV b)=(nV m))<|ax q1) fun _=>Kl 0 18 (iF b)<|Kf 0<|e (b+1) (by exact hk2 _ c (by assumption))<|by(omega)) fun _ _=>Kf 0<|et (by(exfalso;(simp only[oN]at *;omega)):(iV (-1))=(nV m))<|ax q1
theorem Uz(X:List PDeed)(a i y:Int)(q:PDeed->Bool)(hq:∀d,kP 82 [aK d,.pptr [Bx a i y] 0 0] (.bool (q d)))(hs:X.length<2^30)(hA:∀k,k<X.length->q (gD X k)=false):kD 121 [.slice 0 0 0 X.length none,SG a i y] (av [eT 0 X]) (iV (-1)) (av [eT 0 X]):=by
  exact dE Tryz.func121 fun b=>Mg 3<|XT (0:Nat) [0,1,7,8] (fun b=>([aD 0 0 0 X.length none,bQ (aT 82) [] [AV.pptr [az [iV a,iV i,iV y,iV 0,ak,ak,iV 0,iV 0,iV 0,iV 0,iV 0,iV 0,aV [],ak,ak,ak,ak,ak,aV [],aV [],iV 0,iV 0,aV [],iV 0,iV 0,iV 0,aV [],ak]] 0 0],nV X.length,nV b],[aZ 28 true 0<|X.map aK])) (fun b=>b<=X.length) (fun b=>X.length-b) (by exact bD _) fun c e f=>have:=e;Ka 0 (Int.ofNat c) (Int.ofNat X.length) (fun _ _=>K1 4 .rix (et (ax 0) (by(simp only[oN,lM,lS]at *;omega):c<X.length))<|Mr (et (ax 0)<|bJ aK (by(simp only[oN,lM,lS]at *;omega):c<(X).length))<|Mp (hq<|gD X c)<|Mb (q<|gD X c) (fun _=>Kf 1<|et (by(have z:=hA c (by(simp only[oN]at *;omega));simp_all;done):(nV c)=(iV (-1)))<|ax<|av [aZ 28 true 0<|X.map aK]) fun _=>Kl 0 18 (iF c)<|Kf 0<|f (c+1) (by(simp only[oN]at *;omega))<|by(simp only[oN]at *;omega)) fun _ _=>Kf 0 b
theorem UR(X:List PDeed)(a i y:Int)(m:Nat)(hq:∀k,m<=k->k<X.length->kP 82 [aK (gD X k),.pptr [Bx a i y] 0 0] (.bool true))(hm:m<X.length)(hs:X.length<2^30)(hf:kD 121 [.slice 0 0 0 X.length none,SG a i y] (av [eT 0 X]) (nV m) (av [eT 0 X])):kD 80 [.slice 0 0 0 X.length none,SG a i y] (av [eT 0 X]) (.slice 0 0 0 m none) (av [MH X m]):=by
  have e1:ae (Int.ofNat m) (-1)=false:=by rw[nL];exact decide_eq_false (by simp only[oN];omega)
  have e3:(X.take m).length=m:=by rw[tg];omega
  let q:=av [aZ 28 true 0 (X.map aK)];let q1:=aD 0 0 m (X.length-m) none;exact dE Tryz.func80 fun b=>Ke 2 hf<|Kl 5 15 (iF m)<|Mg 0<|XT (m+1) [0,1,5,6] (fun b=>([aD 0 0 0 X.length none,bQ (aT 82) [] [AV.pptr [az [iV a,iV i,iV y,iV 0,ak,ak,iV 0,iV 0,iV 0,iV 0,iV 0,iV 0,aV [],ak,ak,ak,ak,ak,aV [],aV [],iV 0,iV 0,aV [],iV 0,iV 0,iV 0,aV [],ak]] 0 0],nV m,nV b],[aZ 28 true 0<|X.map aK])) (fun b=>m+1<=b/\b<=X.length) (fun b=>X.length-b) (by exact⟨by(omega),by(omega)⟩) fun c d e=>have:=d;Ka 3 (Int.ofNat c) (Int.ofNat X.length) (fun _ _=>K1 1 .rix (et (ax 0) (by(simp only[oN,lM,lS]at *;omega):c<X.length))<|Mr (et (ax 0)<|bJ aK (by(simp only[oN,lM,lS]at *;omega):c<(X).length))<|Kp 3 (hq c (by(omega))<|by(simp only[oN]at *;omega))<|Kl 3 21 (iF c)<|K1 0 (.frz 1 [0,1,5,6]) (et (tR 28 true 0 1<|aX xg X) ti)<|Mf<|e (c+1) (by exact⟨by(omega),by(simp only[oN]at *;omega)⟩)<|by(simp only[oN]at *;omega)) fun _ _=>Ko 1 (by exact yJ (xs:=X.map aK) (l:=m) (h:=X.length) (by kernel_rfl) (by rfl) (by rfl) (by omega) (by rw[lM];omega) (by omega) (by omega):bv q (dV (28) q ((some (AV.slice 0 0 0 X.length none))) ((some (nV m))) (none) (none))=some (ARes.val q1 q))<|Mo (by exact AH rfl (by kernel_rfl) (VS (by omega)):fy (wx (28) (AV.agg [iV 0,iV 0,iV 0,iV 0,AV.nils,AV.nils,iV 0,iV 0,iV 0,iV 0,iV 0,iV 0,AV.str [],AV.nils,AV.nils,AV.nils,AV.nils,AV.nils,AV.str [],AV.str [],iV 0,iV 0,AV.str [],iV 0,iV 0,iV 0,AV.str [],AV.nils]) q ((some q1)))=some (ARes.val (AV.tuple []) (av [AObj.row 28 true 0 ((X.take m).map aK++List.replicate (X.length-m) zD)])))<|K1 1 .slc (ch (ax 0) (oA:0<=m) (by(simp only[oN,lM,lS,lA,lR,lC,lN]at * <;>omega):m<=((X.take m).map aK++List.replicate (X.length-m) zD).length))<|Kf 0 b
theorem RB(X:List PDeed)(a i y:Int)(q:PDeed->Bool)(m:Nat)(hq:∀d,kP 82 [aK d,.pptr [Bx a i y] 0 0] (.bool (q d)))(hm:m<X.length)(hs:X.length<2^30)(hA:∀k,k<m->q (gD X k)=false)(hB:∀k,m<=k->k<X.length->q (gD X k)=true):kD 80 [.slice 0 0 0 X.length none,SG a i y] (av [eT 0 X]) (.slice 0 0 0 m none) (av [MH X m]):=
  UR X a i y m (fun k h1 h2=>hB k h1 h2▸hq (gD X k)) hm hs (Ux X a i y q m hq hm hs hA (hB m (ah _) hm))
theorem RA(X:List PDeed)(a i y:Int)(q:PDeed->Bool)(hq:∀d,kP 82 [aK d,.pptr [Bx a i y] 0 0] (.bool (q d)))(hs:X.length<2^30)(hA:∀k,k<X.length->q (gD X k)=false):kD 80 [.slice 0 0 0 X.length none,SG a i y] (av [eT 0 X]) (.slice 0 0 0 X.length none) (av [eT 0 X]):=by
  have hf:=Uz X a i y q hq hs hA
  exact dE Tryz.func80 fun b=>Ke 2 hf<|Kf 5 b
theorem Y7(gs:List PGaz)(L:List PAct)(X:List PDeed)(a i:Int)(ha:kP 77 [.ls (gs.map am)] (.ls (L.map ay)))(hL:L.length<2^30)(h0:aB (cM (fun b=>ae b.number a) L 0) 0=true):kP 42 [.ls (X.map aK),lE a i,.ls (gs.map am)] (.ls (([]:List PDeed).map aK)):=by
  have hi:=uA a i L (by omega)
  exact bo Tryz.func42<|Kp 2 ha<|K1 2 (.frz 0 [0,4,7,12,13]) ti<|Mp hi<|Kt 2 h0<|Kf 0 bA
theorem Y6(gs:List PGaz)(L:List PAct)(X:List PDeed)(a i:Int)(k m:Nat)(ha:kP 77 [.ls (gs.map am)] (.ls (L.map ay)))(hL:L.length<2^30)(h0:cM (fun b=>ae b.number a) L 0=Int.ofNat k)(hk:k<L.length)(hm:m<X.length)(hs:X.length<2^30)
    (hc:kD 81 [.ls (X.map aK)] (av []) (.slice 0 0 0 X.length none) (av [eT 0 X]))(hd:kD 80 [.slice 0 0 0 X.length none,SG a i (gD L k).day] (av [eT 0 X]) (.slice 0 0 0 m none) (av [MH X m])):kP 42 [.ls (X.map aK),lE a i,.ls (gs.map am)] (.ls ((X.take m).map aK)):=by
  have hi:=uA a i L (by omega)
  rw[h0]at hi
  have e3:(X.take m).length=m:=by rw[tg];omega
  have g1:aB (Int.ofNat k) 0=false:=kw (by simp only[oN];omega)
  let q:=List.map aK (X.take m);exact bo Tryz.func42<|Kp 2 ha<|K1 2 (.frz 0 [0,4,7,12,13]) ti<|Mp hi<|Kx 9 (bJ ay (oA:k<(L).length))<|K1 5 (.frz 0 [9,27]) ti<|Me hc<|Ke 0 hd<|Mg 0<|M2 (.fsl 0 [] 6 q) ti (ch (ax 0) (Fg (ys:=List.replicate (X.length-m) zD) (by(rw[lM];exact e3):((X.take m).map aK).length=m))<|aX xg<|X.take m)<|Ml 6 (fY q false<|aX xg<|X.take m)<|Mf<|bY<|aW q
theorem Y4(gs:List PGaz)(L:List PAct)(X:List PDeed)(a i:Int)(k:Nat)(ha:kP 77 [.ls (gs.map am)] (.ls (L.map ay)))(hL:L.length<2^30)(h0:cM (fun b=>ae b.number a) L 0=Int.ofNat k)(hk:k<L.length)(hs:X.length<2^30)
    (hc:kD 81 [.ls (X.map aK)] (av []) (.slice 0 0 0 X.length none) (av [eT 0 X]))(hd:kD 80 [.slice 0 0 0 X.length none,SG a i (gD L k).day] (av [eT 0 X]) (.slice 0 0 0 X.length none) (av [eT 0 X])):kP 42 [.ls (X.map aK),lE a i,.ls (gs.map am)] (.ls (X.map aK)):=by
  have hi:=uA a i L (by omega)
  rw[h0]at hi
  have g1:aB (Int.ofNat k) 0=false:=kw (by simp only[oN];omega)
  let q:=List.map aK X;exact bo Tryz.func42<|Kp 2 ha<|K1 2 (.frz 0 [0,4,7,12,13]) ti<|Mp hi<|Kx 9 (bJ ay (oA:k<(L).length))<|K1 5 (.frz 0 [9,27]) ti<|Me hc<|Ke 0 hd<|Mg 0<|M2 (.fsl 0 [] 6 q) ti (ch (ax 0) (tA aK X X.length rfl)<|aX xg X)<|Ml 6 (fY q false<|aX xg X)<|Mf<|bY<|aW q
noncomputable abbrev fz(x:PId):AObj:=.row 3 false 0 [aJ x]
noncomputable abbrev ql:AObj:=.row 3 false 0 [.agg [iV 0,iV 0,iV 0]]
noncomputable abbrev bE(p:List PStep):AObj:=.row 1 false 0 [.ls (p.map aY)]
noncomputable abbrev H0(a i:Int):AObj:=.row 2 false 0 [lE a i]
noncomputable abbrev qP(b:Bool):AObj:=.row 1 false 0 [.bool b]
noncomputable def nb(p:List PStep)(s:PId×Bool)(u:TUnit):PId×Bool:=match ae (ab u p).2 0 with|true=>((ab u p).1,true)|false=>s
noncomputable def zL(p:List PStep):List PDeed->TUnit->PId×Bool->PId×Bool
  |[],_,s=>s
  |d::r,u,s=>zL p r (bi u d).1 (nb p s (bi u d).1)
theorem EW{p:List PStep}{s:PId×Bool}{u:TUnit}(h:ae (ab u p).2 0=true):nb p s u=((ab u p).1,true):=by unfold nb;rw[h]
theorem I8{p:List PStep}{s:PId×Bool}{u:TUnit}(h:ae (ab u p).2 0=false):nb p s u=s:=by unfold nb;rw[h]
theorem YH(p:List PStep)(a i:Int)(u:TUnit)(s:PId×Bool)(q:TUnit)(h1:kP 14 [eU u,.ls (p.map aY)] (.tuple [aJ (ab u p).1,iV (ab u p).2]))(e:ae (ab u p).2 0=true):kD 43 [eU u,.ptr 0 0 0 0,.ptr 3 0 0 0,.ptr 4 0 0 0] (av [bE p,H0 a i,ql,fz s.1,qP s.2,bU q]) (.tuple []) (av [bE p,H0 a i,ql,fz (ab u p).1,qP true,bU q]):=by
  exact dE Tryz.func43 fun b=>Kp 2 h1<|Kt 7 e<|K1 2 (.frz 6 []) (BA rt rt rt rt rt rt ti)<|Mf b
theorem YI(p:List PStep)(a i:Int)(u:TUnit)(s:PId×Bool)(q:TUnit)(h1:kP 14 [eU u,.ls (p.map aY)] (.tuple [aJ (ab u p).1,iV (ab u p).2]))(e:ae (ab u p).2 0=false):kD 43 [eU u,.ptr 0 0 0 0,.ptr 3 0 0 0,.ptr 4 0 0 0] (av [bE p,H0 a i,ql,fz s.1,qP s.2,bU q]) (.tuple []) (av [bE p,H0 a i,ql,fz s.1,qP s.2,bU q]):=by
  exact dE Tryz.func43 fun b=>Kp 2 h1<|Kh 7 e<|M1 (.frz 6 []) (BA rt rt rt rt rt rt ti)<|Mf b
theorem WL(p:List PStep)(a i:Int)(u:TUnit)(s:PId×Bool)(q:TUnit)(h1:kP 14 [eU u,.ls (p.map aY)] (.tuple [aJ (ab u p).1,iV (ab u p).2])):kD 43 [eU u,.ptr 0 0 0 0,.ptr 3 0 0 0,.ptr 4 0 0 0] (av [bE p,H0 a i,ql,fz s.1,qP s.2,bU q]) (.tuple []) (av [bE p,H0 a i,ql,fz (nb p s u).1,qP (nb p s u).2,bU q]):=by
  cases e:ae (ab u p).2 0 with
  |true=>rw[EW e];exact YH p a i u s q h1 e
  |false=>rw[I8 e];exact YI p a i u s q h1 e
theorem YF(p:List PStep)(a i:Int)(u:TUnit)(s:PId×Bool)(q:TUnit)(d:PDeed)(h1:kP 14 [eU u,.ls (p.map aY)] (.tuple [aJ (ab u p).1,iV (ab u p).2]))(e:ae (ab u p).2 0=true):kD 43 [eU u,.ptr 0 0 0 0,.ptr 3 0 0 0,.ptr 4 0 0 0] (av [bE p,H0 a i,ql,fz s.1,qP s.2,bU q,cJ d]) (.tuple []) (av [bE p,H0 a i,ql,fz (ab u p).1,qP true,bU q,cJ d]):=by
  exact dE Tryz.func43 fun b=>Kp 2 h1<|Kt 7 e<|K1 2 (.frz 7 []) (UD rt rt rt rt rt rt rt ti)<|Mf b
theorem YG(p:List PStep)(a i:Int)(u:TUnit)(s:PId×Bool)(q:TUnit)(d:PDeed)(h1:kP 14 [eU u,.ls (p.map aY)] (.tuple [aJ (ab u p).1,iV (ab u p).2]))(e:ae (ab u p).2 0=false):kD 43 [eU u,.ptr 0 0 0 0,.ptr 3 0 0 0,.ptr 4 0 0 0] (av [bE p,H0 a i,ql,fz s.1,qP s.2,bU q,cJ d]) (.tuple []) (av [bE p,H0 a i,ql,fz s.1,qP s.2,bU q,cJ d]):=by
  exact dE Tryz.func43 fun b=>Kp 2 h1<|Kh 7 e<|M1 (.frz 7 []) (UD rt rt rt rt rt rt rt ti)<|Mf b
theorem WI(p:List PStep)(a i:Int)(u:TUnit)(s:PId×Bool)(q:TUnit)(d:PDeed)(h1:kP 14 [eU u,.ls (p.map aY)] (.tuple [aJ (ab u p).1,iV (ab u p).2])):kD 43 [eU u,.ptr 0 0 0 0,.ptr 3 0 0 0,.ptr 4 0 0 0] (av [bE p,H0 a i,ql,fz s.1,qP s.2,bU q,cJ d]) (.tuple []) (av [bE p,H0 a i,ql,fz (nb p s u).1,qP (nb p s u).2,bU q,cJ d]):=by
  cases e:ae (ab u p).2 0 with
  |true=>rw[EW e];exact YF p a i u s q d h1 e
  |false=>rw[I8 e];exact YG p a i u s q d h1 e
theorem oD:kP 51 [] (eU oR):=by
  exact wk Tryz.func51 (.go 2 .fin) (aO (lc<|lc<|lc<|lc<|lc<|.cons bA<|.cons bA<|.cons bA .nil)<|by kernel_rfl:Le _ (AV.agg [iV 0,iV 0,iV 0,iV 0,AV.str [],AV.nils,AV.nils,AV.nils]))
theorem S6(w:TUnit)(hw:OkB w)(h0:kP 51 [] (eU w))(p:List PStep)(a i:Int)(Y:List PDeed)(s:PId×Bool)(hl:Y.length<2^30)(ho:∀d,d∈Y->ta d.it/\mK d.it.kind=true)(hp:∀u,OkB u->kP 14 [eU u,.ls (p.map aY)] (.tuple [aJ (ab u p).1,iV (ab u p).2])):kD 30 [.ls (Y.map aK),.func (.func 43) [] [.ptr 0 0 0 0,.ptr 3 0 0 0,.ptr 4 0 0 0]] (av [bE p,H0 a i,ql,fz s.1,qP s.2]) (.tuple []) (av [bE p,H0 a i,ql,fz (zL p Y w (nb p s w)).1,qP (zL p Y w (nb p s w)).2]):=by
  have ha:=WL p a i w s w (hp w hw)
  exact CQ Tryz.func30<|Mp h0<|Ke 3 ha<|Kl 1 12 (ln aK Y)<|Mg 0<|Su aK Y w (nb p s w).1 (nb p s w).2 [1,4,11,12,13] (fun b _ c e f=>([bQ (aT 43) [] [au 0 0 0 0,au 3 0 0 0,au 4 0 0 0],au 5 0 0 0,aW<|Y.map aK,nV Y.length,nV b],[aZ 1 false 0 [aW<|p.map aY],aZ 2 false 0 [az [iV a,iV i]],aZ 3 false 0 [az [iV 0,iV 0,iV 0]],aZ 3 false 0 [az [iV e.a,iV e.i,iV e.n]],aZ 1 false 0 [dQ f],aZ 8 false 0 [az [iV c.act,iV c.item,iV c.n,iV c.kind,aV c.label,aW<|c.head.map aQ,aW<|c.words.map aQ,aW<|c.kids.map aq]]])) (fun b c e f=>OkB c/\zL p Y w (nb p s w)=zL p b c (e,f)) (by(exact⟨hw,rfl⟩)) (fun _ _ _ b c _ _ _ e f=>Kh 0 e<|M1 (.frz 5 []) (wK rt rt rt rt rt ti)<|Mf<|et (ax<|dg []) (by(rw[f.2];rfl):(av [AObj.row 1 false 0 [AV.ls (p.map aY)],AObj.row 2 false 0 [AV.agg [iV a,iV i]],AObj.row 3 false 0 [AV.agg [iV 0,iV 0,iV 0]],AObj.row 3 false 0 [AV.agg [iV b.a,iV b.i,iV b.n]],AObj.row 1 false 0 [AV.bool c]])=(av [bE p,H0 a i,ql,fz (zL p Y w (nb p s w)).1,qP (zL p Y w (nb p s w)).2]))) fun b _ c e f g _ h j k l m _ n o=>have g:=ho _<|aI g l;Kt 0 m<|Mx n<|Kp 4 (A9 c h (by exact o.1) (by exact g.1)<|by exact g.2)<|Ke 5 (WI p a i (bi c h).1 (e,f) (bi c h).1 h<|by exact hp _ (dt ⟨o.1,g.1,g.2⟩).2)<|Kl 0 26 (dU b)<|K1 0 (.frz 6 [1,4,11,12,13]) (BA rt rt rt rt rt rt ti)<|Mf<|k (bi c h).1 (nb p (e,f) (bi c h).1).1 (nb p (e,f) (bi c h).1).2<|by exact⟨(dt ⟨o.1,g.1,g.2⟩).2,o.2⟩
theorem UZ(gs:List PGaz)(day:Int)(f:bZ)(p:List PStep)(a i:Int)(X Y:List PDeed)(s:PId×Bool)(ho:kP 20 [iV day,.str f,.ls (gs.map am)] (.ls (X.map aK)))(ha:kP 42 [.ls (X.map aK),lE a i,.ls (gs.map am)] (.ls (Y.map aK)))
    (hs:kD 30 [.ls (Y.map aK),.func (.func 43) [] [.ptr 0 0 0 0,.ptr 3 0 0 0,.ptr 4 0 0 0]] (av [bE p,H0 a i,ql,fz bN,qP false]) (.tuple []) (av [bE p,H0 a i,ql,fz s.1,qP s.2])):kP 16 [iV day,.str f,.ls (p.map aY),lE a i,.ls (gs.map am)] (.tuple [aJ s.1,.bool s.2]):=by
  let q:=[iV s.1.a,iV s.1.i,iV s.1.n];exact bo Tryz.func16<|Kp 9 ho<|Kp 1 ha<|Mg 0<|M3 (.efx false (dg [])<|av [aZ 1 false 0 [aW<|p.map aY],aZ 2 false 0 [az [iV a,iV i]],aZ 3 false 0 [az [iV 0,iV 0,iV 0]],aZ 3 false 0 [az q],aZ 1 false 0 [dQ s.2]]) (wK rt rt rt rt rt ti) ti hs<|Kf 3<|bY<|dg [az q,dQ s.2]
noncomputable abbrev di(out:List PId):List (PId×Bool):=out.map fun y=>(y,true)
noncomputable def gi(out:List PId)(x:PId):Bool:=(j8 bK x (di out)).isSome
noncomputable def xM(out:List PId)(x:PId):List PId:=match gi out x with|true=>out|false=>out++[x]
theorem JI{out:List PId}{x:PId}(h:gi out x=true):xM out x=out:=by unfold xM;rw[h]
theorem EN{out:List PId}{x:PId}(h:gi out x=false):xM out x=out++[x]:=by unfold xM;rw[h]
theorem FN{K V:Type}{keq:K->K->Bool}{k:K}{v:V}:∀{l:List (K×V)},j8 keq k l=none->fp keq k v l=l++[(k,v)]
  |[],_=>rfl
  | (j,u)::r,h=>by
    rw[j8]at h
    cases q:keq k j with
    |true=>rw[q]at h;cases h
    |false=>rw[q]at h;rw[fp,q,FN (l:=r) h];rfl
noncomputable abbrev cq(b:Bool):AV:=.bool b
noncomputable abbrev eM(out:List PId):AObj:=.map (aC aJ cq (di out) 0) out.length
noncomputable abbrev fP(ep:Nat)(out:List PId):AObj:=.row 3 true ep (out.map aJ)
noncomputable abbrev co:AObj:=.row 1 false 0 [.map 1]
noncomputable abbrev eP:AObj:=.row 1 false 0 [.func (.func 72) [] [.ptr 2 0 0 0,.ptr 3 0 0 0]]
theorem qF(out:List PId)(x:PId):eD (some (.bool false)) false (bx true 3 [(0,1),(1,1),(2,1)] (.agg [iV x.a,iV x.i,iV x.n]) (aC aJ cq (di out) 0) 0)=some (.bool (gi out x)):=by
  have h:=s7 (f:=cq) fG (some (.bool false)) false x (di out)
  refine h.trans ?_
  unfold gi
  cases q:j8 bK x (di out)with
  |none=>rfl
  | some v=>
    have:v=true:=by
      obtain⟨e,e1,e2⟩:=Aw q
      obtain⟨y,_,rfl⟩:=jf.1 e1
      exact e2.symm
    subst this;rfl
theorem Fa(out:List PId)(x:PId)(h:gi out x=false):qj (aC aJ cq (di out) 0) out.length (.agg [iV x.a,iV x.i,iV x.n]) (.bool true) (bx true 3 [(0,1),(1,1),(2,1)] (.agg [iV x.a,iV x.i,iV x.n]) (aC aJ cq (di out) 0) 0)=some (aC aJ cq (di (out++[x])) 0,(out++[x]).length):=by
  have hn:j8 bK x (di out)=none:=by
    unfold gi at h
    cases q:j8 bK x (di out)with
    |none=>rfl
    |some v=>rw[q]at h;cases h
  have z:=vc (f:=cq) fG x true (di out)
  rw[FN hn]at z
  have e:(di out).length=out.length:=cQ ..
  have e2:di out++[(x,true)]=di (out++[x]):=by simp[di]
  rw[e2,e]at z
  have e3:(di (out++[x])).length=(out++[x]).length:=cQ ..
  rw[e3]at z
  exact z
theorem Zt(p:List PStep)(q u:TUnit)(x:PId):kD 72 [aJ x,.ptr 2 0 0 0,.ptr 3 0 0 0] (av [bE p,eM [],co,gN,eP,bU q,bU u,fz x]) (.tuple []) (av [bE p,eM [x],co,fD 8 0 1,eP,bU q,bU u,fz x,fP 0 [x]]):=by
  have hk:=qF [] x
  have hu:=Fa [] x rfl
  exact Z0 Tryz.func72 (.go 13<|.ren [0,1,2,3,4,5,6,7,9,8] [] []<|.frz 9 [] .fin) fun a=>et (Ah rt rt rt rt rt rt rt rt rt ti) a
theorem Zs(p:List PStep)(q u:TUnit)(d:PDeed)(x:PId):kD 72 [aJ x,.ptr 2 0 0 0,.ptr 3 0 0 0] (av [bE p,eM [],co,gN,eP,bU q,cJ d,bU u,fz x]) (.tuple []) (av [bE p,eM [x],co,fD 9 0 1,eP,bU q,cJ d,bU u,fz x,fP 0 [x]]):=by
  have hk:=qF [] x
  have hu:=Fa [] x rfl
  exact Z0 Tryz.func72 (.go 13<|.ren [0,1,2,3,4,5,6,7,8,10,9] [] []<|.frz 10 [] .fin) fun a=>et (Rz rt rt rt rt rt rt rt rt rt rt ti) a
theorem Zn(p:List PStep)(q u:TUnit)(ep n:Nat)(out:List PId)(x:PId)(hx:By (gi out x) true):kD 72 [aJ x,.ptr 2 0 0 0,.ptr 3 0 0 0] (av [bE p,eM out,co,fD 7 ep n,eP,bU q,bU u,fP ep out,fz x]) (.tuple []) (av [bE p,eM out,co,fD 7 ep n,eP,bU q,bU u,fP ep out,fz x]):=by
  have hk:=qF out x
  rw[show gi out x=_ from hx]at hk
  have ht:bV (aC aJ cq (di out) 0)=0:=aP fG (fun _=>rfl) _ _
  exact dE Tryz.func72 fun a=>K1 2 (.look<|dQ true) hk<|K1 1 (.frz 9 []) (Ah rt (tR 3 true ep 9<|aX Jl out) rt rt rt rt rt (tM out.length 9 (by assumption:bV (aC aJ cq (di out) 0)=0)) rt ti)<|Mf a
theorem Zr(p:List PStep)(q u:TUnit)(ep n:Nat)(out:List PId)(x:PId)(hx:By (gi out x) false)(hn:n=out.length)(hb:n<34359738368):kD 72 [aJ x,.ptr 2 0 0 0,.ptr 3 0 0 0] (av [bE p,eM out,co,fD 7 ep n,eP,bU q,bU u,fP ep out,fz x]) (.tuple []) (av [bE p,eM (out++[x]),co,fD 7 (ep+1) (n+1),eP,bU q,bU u,fP (ep+1) (out++[x]),fz x]):=by
  have hk:=qF out x
  rw[show gi out x=_ from hx]at hk
  have hu:=Fa out x hx
  have ht:bV (aC aJ cq (di (out++[x])) 0)=0:=aP fG (fun _=>rfl) _ _
  exact dE Tryz.func72 fun a=>K1 2 (.look<|dQ false) hk<|K1 3 (.upd (aC aJ cq (di<|out++[x]) 0) (out++[x]).length) hu<|K1 2 .app (ch (ax ep) (by(rw[lM];exact hn):n=(out.map aJ).length) (by(refine dK (m:=34359738368) ?_ ?_ ?_<;>omega):small (n+1) 24=true))<|M1 (.obj 7<|aZ 3 true (ep+1)<|(out++[x]).map aJ) (congrArg (aZ 3 true<|ep+1)<|dJ (f:=aJ) (l:=out) (ws:=[x]))<|K1 0 (.frz 9 []) (Ah rt (tR 3 true (ep+1) 9<|aX Jl<|out++[x]) rt rt rt rt rt (tM (out++[x]).length 9 (by assumption:bV (aC aJ cq (di (out++[x])) 0)=0)) rt ti)<|Mf a
theorem Zm(p:List PStep)(q u:TUnit)(d:PDeed)(ep n:Nat)(out:List PId)(x:PId)(hx:By (gi out x) true):kD 72 [aJ x,.ptr 2 0 0 0,.ptr 3 0 0 0] (av [bE p,eM out,co,fD 8 ep n,eP,bU q,cJ d,bU u,fP ep out,fz x]) (.tuple []) (av [bE p,eM out,co,fD 8 ep n,eP,bU q,cJ d,bU u,fP ep out,fz x]):=by
  have hk:=qF out x
  rw[show gi out x=_ from hx]at hk
  have ht:bV (aC aJ cq (di out) 0)=0:=aP fG (fun _=>rfl) _ _
  exact dE Tryz.func72 fun a=>K1 2 (.look<|dQ true) hk<|K1 1 (.frz 10 []) (Rz rt (tR 3 true ep 10<|aX Jl out) rt rt rt rt rt rt (tM out.length 10 (by assumption:bV (aC aJ cq (di out) 0)=0)) rt ti)<|Mf a
theorem Zp(p:List PStep)(q u:TUnit)(d:PDeed)(ep n:Nat)(out:List PId)(x:PId)(hx:By (gi out x) false)(hn:n=out.length)(hb:n<34359738368):kD 72 [aJ x,.ptr 2 0 0 0,.ptr 3 0 0 0] (av [bE p,eM out,co,fD 8 ep n,eP,bU q,cJ d,bU u,fP ep out,fz x]) (.tuple []) (av [bE p,eM (out++[x]),co,fD 8 (ep+1) (n+1),eP,bU q,cJ d,bU u,fP (ep+1) (out++[x]),fz x]):=by
  have hk:=qF out x
  rw[show gi out x=_ from hx]at hk
  have hu:=Fa out x hx
  have ht:bV (aC aJ cq (di (out++[x])) 0)=0:=aP fG (fun _=>rfl) _ _
  exact dE Tryz.func72 fun a=>K1 2 (.look<|dQ false) hk<|K1 3 (.upd (aC aJ cq (di<|out++[x]) 0) (out++[x]).length) hu<|K1 2 .app (ch (ax ep) (by(rw[lM];exact hn):n=(out.map aJ).length) (by(refine dK (m:=34359738368) ?_ ?_ ?_<;>omega):small (n+1) 24=true))<|M1 (.obj 8<|aZ 3 true (ep+1)<|(out++[x]).map aJ) (congrArg (aZ 3 true<|ep+1)<|dJ (f:=aJ) (l:=out) (ws:=[x]))<|K1 0 (.frz 10 []) (Rz rt (tR 3 true (ep+1) 10<|aX Jl<|out++[x]) rt rt rt rt rt rt (tM (out++[x]).length 10 (by assumption:bV (aC aJ cq (di (out++[x])) 0)=0)) rt ti)<|Mf a
theorem Zl(p:List PStep)(q u:TUnit)(d:PDeed)(ep n:Nat)(out:List PId)(x:PId)(hx:By (gi out x) true):kD 72 [aJ x,.ptr 2 0 0 0,.ptr 3 0 0 0] (av [bE p,eM out,co,fD 6 ep n,eP,bU q,fP ep out,cJ d,bU u,fz x]) (.tuple []) (av [bE p,eM out,co,fD 6 ep n,eP,bU q,fP ep out,cJ d,bU u,fz x]):=by
  have hk:=qF out x
  rw[show gi out x=_ from hx]at hk
  have ht:bV (aC aJ cq (di out) 0)=0:=aP fG (fun _=>rfl) _ _
  exact dE Tryz.func72 fun a=>K1 2 (.look<|dQ true) hk<|K1 1 (.frz 10 []) (Rz rt rt rt (tR 3 true ep 10<|aX Jl out) rt rt rt rt (tM out.length 10 (by assumption:bV (aC aJ cq (di out) 0)=0)) rt ti)<|Mf a
theorem Zo(p:List PStep)(q u:TUnit)(d:PDeed)(ep n:Nat)(out:List PId)(x:PId)(hx:By (gi out x) false)(hn:n=out.length)(hb:n<34359738368):kD 72 [aJ x,.ptr 2 0 0 0,.ptr 3 0 0 0] (av [bE p,eM out,co,fD 6 ep n,eP,bU q,fP ep out,cJ d,bU u,fz x]) (.tuple []) (av [bE p,eM (out++[x]),co,fD 6 (ep+1) (n+1),eP,bU q,fP (ep+1) (out++[x]),cJ d,bU u,fz x]):=by
  have hk:=qF out x
  rw[show gi out x=_ from hx]at hk
  have hu:=Fa out x hx
  have ht:bV (aC aJ cq (di (out++[x])) 0)=0:=aP fG (fun _=>rfl) _ _
  exact dE Tryz.func72 fun a=>K1 2 (.look<|dQ false) hk<|K1 3 (.upd (aC aJ cq (di<|out++[x]) 0) (out++[x]).length) hu<|K1 2 .app (ch (ax ep) (by(rw[lM];exact hn):n=(out.map aJ).length) (by(refine dK (m:=34359738368) ?_ ?_ ?_<;>omega):small (n+1) 24=true))<|M1 (.obj 6<|aZ 3 true (ep+1)<|(out++[x]).map aJ) (congrArg (aZ 3 true<|ep+1)<|dJ (f:=aJ) (l:=out) (ws:=[x]))<|K1 0 (.frz 10 []) (Rz rt rt rt (tR 3 true (ep+1) 10<|aX Jl<|out++[x]) rt rt rt rt (tM (out++[x]).length 10 (by assumption:bV (aC aJ cq (di (out++[x])) 0)=0)) rt ti)<|Mf a
noncomputable def af(out W:List PId):List PId:=W.foldl xM out
theorem mV(out:List PId)(x:PId)(r:List PId):af out (x::r)=af (xM out x) r:=rfl
theorem Sm(out:List PId)(x:PId):out.length<=(xM out x).length/\(xM out x).length<=out.length+1:=by
  cases h:gi out x with
  |true=>rw[JI h];omega
  |false=>rw[EN h,lA,List.length_singleton];omega
structure AddI(out0 W r:List PId)(ep n:Nat)(out:List PId):Prop where
  hn:n=out.length
  he:ep+1=n
  le:n+r.length<=out0.length+W.length
  f:af out0 W=af out r
theorem AddI.first{w:PId}{W r:List PId}{n:Nat}(h:w::r=W)(hn:n=1):AddI [] W r 0 n [w]:=by
  subst h;subst hn
  exact⟨rfl,rfl,by simp only[lC,lN];omega,rfl⟩
theorem AddI.old{out0 W r out:List PId}{w:PId}{ep n:Nat}(h:AddI out0 W (w::r) ep n out)(q:gi out w=true):AddI out0 W r ep n out:=by
  have:=h.le
  exact⟨h.hn,h.he,by simp only[lC]at this;omega,by rw[h.f,mV,JI q]⟩
theorem AddI.new{out0 W r out:List PId}{w:PId}{ep n e2 n2:Nat}(h:AddI out0 W (w::r) ep n out)(q:gi out w=false)(h1:e2=ep+1)(h2:n2=n+1):AddI out0 W r e2 n2 (out++[w]):=by
  have:=h.le
  have:=h.hn
  have:=h.he
  exact⟨by rw[lA,List.length_singleton];omega,by omega,by simp only[lC]at *;omega,by rw[h.f,mV,EN q]⟩
theorem AddI.done{out0 W out:List PId}{ep n:Nat}(h:AddI out0 W [] ep n out):out=af out0 W/\n=(af out0 W).length/\ep=(af out0 W).length -1:=by
  have e:af out0 W=out:=h.f
  have:=h.hn
  have:=h.he
  rw[e];exact⟨rfl,by omega,by omega⟩
theorem YV(p:List PStep)(q u:TUnit)(hf:kP 39 [eU u,.ls (p.map aY)] (.ls (([]:List PId).map aJ))):kD 38 [eU u,.ptr 0 0 0 0,.ptr 4 0 0 0] (av [bE p,eM [],co,gN,eP,bU q]) (.tuple []) (av [bE p,eM [],co,gN,eP,bU q]):=by
  let q1:=[aZ 1 false 0 [aW (p.map aY)],AObj.map [] 0,aZ 1 false 0 [AV.map 1],aZ 1 false 0 [ak],aZ 1 false 0 [bQ (aT 72) [] [au 2 0 0 0,au 3 0 0 0]],aZ 8 false 0 [az [iV q.act,iV q.item,iV q.n,iV q.kind,aV q.label,aW (q.head.map aQ),aW (q.words.map aQ),aW (q.kids.map aq)]],aZ 8 false 0 [az [iV u.act,iV u.item,iV u.n,iV u.kind,aV u.label,aW (u.head.map aQ),aW (u.words.map aQ),aW (u.kids.map aq)]]];let q2:=[au 4 0 0 0,aW [],iV 0,iV 0];exact dE Tryz.func38 fun a=>Kp 2 hf<|Mg 1<|Vh [2,8,9,10] (q2,q1) True 0 ti fun _ _=>K1 1 (.frz 6 []) (BA rt rt rt rt rt rt ti)<|Mf a
theorem YU(p:List PStep)(q u:TUnit)(W:List PId)(hf:kP 39 [eU u,.ls (p.map aY)] (.ls (W.map aJ)))(hW:W≠[])(hl:W.length<=4194304):kD 38 [eU u,.ptr 0 0 0 0,.ptr 4 0 0 0] (av [bE p,eM [],co,gN,eP,bU q]) (.tuple []) (av [bE p,eM (af [] W),co,fD 6 ((af [] W).length -1) (af [] W).length,eP,bU q,fP ((af [] W).length -1) (af [] W)]):=by
  have ht:∀out:List PId,bV (aC aJ cq (di out) 0)=0:=fun out=>aP fG (fun _=>rfl) _ _
  exact CQ Tryz.func38<|Kp 2 hf<|Kl 0 9 (ln aJ W)<|Mg 0<|kB Nat Nat (List PId) aJ W [2,8,9,10] (fun a _=>([au 4 0 0 0,aW<|W.map aJ,nV W.length,nV a],[aZ 1 false 0 [aW<|p.map aY],AObj.map [] 0,aZ 1 false 0 [AV.map 1],aZ 1 false 0 [ak],aZ 1 false 0 [bQ (aT 72) [] [au 2 0 0 0,au 3 0 0 0]],aZ 8 false 0 [az [iV q.act,iV q.item,iV q.n,iV q.kind,aV q.label,aW<|q.head.map aQ,aW<|q.words.map aQ,aW<|q.kids.map aq]],aZ 8 false 0 [az [iV u.act,iV u.item,iV u.n,iV u.kind,aV u.label,aW<|u.head.map aQ,aW<|u.words.map aQ,aW<|u.kids.map aq]]])) (fun a _ b c d=>([au 4 0 0 0,aW<|W.map aJ,nV W.length,nV a],[aZ 1 false 0 [aW<|p.map aY],AObj.map (aC aJ cq (di d) 0) d.length,aZ 1 false 0 [AV.map 1],aZ 1 false 0 [aD 7 b 0 c none],aZ 1 false 0 [bQ (aT 72) [] [au 2 0 0 0,au 3 0 0 0]],aZ 8 false 0 [az [iV q.act,iV q.item,iV q.n,iV q.kind,aV q.label,aW<|q.head.map aQ,aW<|q.words.map aQ,aW<|q.kids.map aq]],aZ 8 false 0 [az [iV u.act,iV u.item,iV u.n,iV u.kind,aV u.label,aW<|u.head.map aQ,aW<|u.words.map aQ,aW<|u.kids.map aq]],aZ 3 true b<|d.map aJ])) (fun a=>a=W) (fun a b c d=>AddI [] W a b c d) (by rfl) (fun _ _ _ _ _ a b=>Kh 0 a<|Mw .abs (by(exfalso;exact hW b.symm):False)) (fun a _ _ _ b c _ d _ e _ f g=>Kt 0 e<|Mx f<|Ke 4 (Zt p q u b)<|Kl 0 17 (dU a)<|Mg 0<|M0 (.ren [0,1,2,3,4,5,6,8,7] [] [2,8,9,10])<|M1 (.frz 8 [2,8,9,10]) (X5 rt rt rt rt rt rt rt rt ti)<|Mf<|d 0 1 [b]<|by exact AddI.first g rfl) (fun _ _ a b c _ _ _ d e=>Kh 0 d<|M2 (.ren [0,1,2,3,4,5,7,6] [1,7] []) (tN c.length (by exact ht _:bV (aC aJ cq (di c) 0)=0)) (tS 3 true a<|aX Jl c)<|M1 (.frz 7 []) (UD (tR 3 true a 7<|aX Jl c) rt rt rt rt (tM c.length 7 (by exact ht _:bV (aC aJ cq (di c) 0)=0)) rt ti)<|Mf<|et (ax<|dg []) (by(obtain⟨z1,z2,z3⟩:=e.done;rw[z3,z2,z1];try rfl;done):(av [AObj.row 1 false 0 [AV.ls (p.map aY)],AObj.map (aC aJ cq (di c) 0) c.length,AObj.row 1 false 0 [AV.map 1],AObj.row 1 false 0 [AV.slice 6 a 0 b none],AObj.row 1 false 0 [AV.func (Fn.func 72) [] [AV.ptr 2 0 0 0,AV.ptr 3 0 0 0]],AObj.row 8 false 0 [AV.agg [iV q.act,iV q.item,iV q.n,iV q.kind,AV.str q.label,AV.ls (q.head.map aQ),AV.ls (q.words.map aQ),AV.ls (q.kids.map aq)]],AObj.row 3 true a (c.map aJ)])=(av [bE p,eM (af [] W),co,fD 6 ((af [] W).length -1) (af [] W).length,eP,bU q,fP ((af [] W).length -1) (af [] W)]))) fun a _ b c d _ _ e f _ g _ h _ i j=>Kt 0 h<|Mx i<|Ks 4 (gi d e) (fun h=>Me (Zn p q u b c d e h)<|Kl 0 17 (dU a)<|K1 0 (.frz 8 [2,8,9,10]) (X5 (tR 3 true b 8<|aX Jl d) rt rt rt rt rt (tM d.length 8 (by exact ht _:bV (aC aJ cq (di d) 0)=0)) rt ti)<|Mf<|g b c d<|by exact j.old (by assumption)) fun h=>Me (Zr p q u b c d e h (by exact j.hn)<|by(have z1:=j.le;simp only[lC,lN]at z1;omega))<|Kl 0 17 (dU a)<|K1 0 (.frz 8 [2,8,9,10]) (X5 (tR 3 true (b+1) 8<|aX Jl<|d++[e]) rt rt rt rt rt (tM (d++[e]).length 8 (by exact ht _:bV (aC aJ cq (di (d++[e])) 0)=0)) rt ti)<|Mf<|g (b+1) (c+1) (d++[e])<|by exact j.new (by assumption) rfl rfl
theorem Vn(p:List PStep)(q u:TUnit)(d:PDeed)(hf:kP 39 [eU u,.ls (p.map aY)] (.ls (([]:List PId).map aJ))):kD 38 [eU u,.ptr 0 0 0 0,.ptr 4 0 0 0] (av [bE p,eM [],co,gN,eP,bU q,cJ d]) (.tuple []) (av [bE p,eM [],co,gN,eP,bU q,cJ d]):=by
  let q1:=[az [iV d.act,iV d.item,iV d.day,iV d.it.kind,aW (d.it.at_.map aY),aW (d.it.to.map aY),iV d.it.where_,iV d.it.nth_,iV d.it.unit.act,iV d.it.unit.item,iV d.it.unit.n,iV d.it.unit.kind,aV d.it.unit.label,aW (d.it.unit.head.map aQ),aW (d.it.unit.words.map aQ),aW (d.it.unit.kids.map aq),aW (d.it.old.map nK),aW (d.it.new.map nK),aV d.it.label,aV d.it.for_,iV d.it.start.kind,iV d.it.start.day,aV d.it.start.event,iV d.it.act,iV d.it.item,iV d.it.day,aV d.it.event,aW (d.it.by_.map NO)]];let q2:=[aZ 1 false 0 [aW (p.map aY)],AObj.map [] 0,aZ 1 false 0 [AV.map 1],aZ 1 false 0 [ak],aZ 1 false 0 [bQ (aT 72) [] [au 2 0 0 0,au 3 0 0 0]],aZ 8 false 0 [az [iV q.act,iV q.item,iV q.n,iV q.kind,aV q.label,aW (q.head.map aQ),aW (q.words.map aQ),aW (q.kids.map aq)]],aZ 28 false 0 q1,aZ 8 false 0 [az [iV u.act,iV u.item,iV u.n,iV u.kind,aV u.label,aW (u.head.map aQ),aW (u.words.map aQ),aW (u.kids.map aq)]]];let q3:=[au 4 0 0 0,aW [],iV 0,iV 0];exact dE Tryz.func38 fun a=>Kp 2 hf<|Mg 1<|Vh [2,8,9,10] (q3,q2) True 0 ti fun _ _=>K1 1 (.frz 7 []) (UD rt rt rt rt rt rt rt ti)<|Mf a
theorem YY(p:List PStep)(q u:TUnit)(d:PDeed)(W:List PId)(hf:kP 39 [eU u,.ls (p.map aY)] (.ls (W.map aJ)))(hW:W≠[])(hl:W.length<=4194304):kD 38 [eU u,.ptr 0 0 0 0,.ptr 4 0 0 0] (av [bE p,eM [],co,gN,eP,bU q,cJ d]) (.tuple []) (av [bE p,eM (af [] W),co,fD 7 ((af [] W).length -1) (af [] W).length,eP,bU q,cJ d,fP ((af [] W).length -1) (af [] W)]):=by
  have ht:∀out:List PId,bV (aC aJ cq (di out) 0)=0:=fun out=>aP fG (fun _=>rfl) _ _
  exact CQ Tryz.func38<|Kp 2 hf<|Kl 0 9 (ln aJ W)<|Mg 0<|kB Nat Nat (List PId) aJ W [2,8,9,10] (fun a _=>([au 4 0 0 0,aW<|W.map aJ,nV W.length,nV a],[aZ 1 false 0 [aW<|p.map aY],AObj.map [] 0,aZ 1 false 0 [AV.map 1],aZ 1 false 0 [ak],aZ 1 false 0 [bQ (aT 72) [] [au 2 0 0 0,au 3 0 0 0]],aZ 8 false 0 [az [iV q.act,iV q.item,iV q.n,iV q.kind,aV q.label,aW<|q.head.map aQ,aW<|q.words.map aQ,aW<|q.kids.map aq]],aZ 28 false 0 [az [iV d.act,iV d.item,iV d.day,iV d.it.kind,aW<|d.it.at_.map aY,aW<|d.it.to.map aY,iV d.it.where_,iV d.it.nth_,iV d.it.unit.act,iV d.it.unit.item,iV d.it.unit.n,iV d.it.unit.kind,aV d.it.unit.label,aW<|d.it.unit.head.map aQ,aW<|d.it.unit.words.map aQ,aW<|d.it.unit.kids.map aq,aW<|d.it.old.map nK,aW<|d.it.new.map nK,aV d.it.label,aV d.it.for_,iV d.it.start.kind,iV d.it.start.day,aV d.it.start.event,iV d.it.act,iV d.it.item,iV d.it.day,aV d.it.event,aW<|d.it.by_.map NO]],aZ 8 false 0 [az [iV u.act,iV u.item,iV u.n,iV u.kind,aV u.label,aW<|u.head.map aQ,aW<|u.words.map aQ,aW<|u.kids.map aq]]])) (fun a _ b c e=>([au 4 0 0 0,aW<|W.map aJ,nV W.length,nV a],[aZ 1 false 0 [aW<|p.map aY],AObj.map (aC aJ cq (di e) 0) e.length,aZ 1 false 0 [AV.map 1],aZ 1 false 0 [aD 8 b 0 c none],aZ 1 false 0 [bQ (aT 72) [] [au 2 0 0 0,au 3 0 0 0]],aZ 8 false 0 [az [iV q.act,iV q.item,iV q.n,iV q.kind,aV q.label,aW<|q.head.map aQ,aW<|q.words.map aQ,aW<|q.kids.map aq]],aZ 28 false 0 [az [iV d.act,iV d.item,iV d.day,iV d.it.kind,aW<|d.it.at_.map aY,aW<|d.it.to.map aY,iV d.it.where_,iV d.it.nth_,iV d.it.unit.act,iV d.it.unit.item,iV d.it.unit.n,iV d.it.unit.kind,aV d.it.unit.label,aW<|d.it.unit.head.map aQ,aW<|d.it.unit.words.map aQ,aW<|d.it.unit.kids.map aq,aW<|d.it.old.map nK,aW<|d.it.new.map nK,aV d.it.label,aV d.it.for_,iV d.it.start.kind,iV d.it.start.day,aV d.it.start.event,iV d.it.act,iV d.it.item,iV d.it.day,aV d.it.event,aW<|d.it.by_.map NO]],aZ 8 false 0 [az [iV u.act,iV u.item,iV u.n,iV u.kind,aV u.label,aW<|u.head.map aQ,aW<|u.words.map aQ,aW<|u.kids.map aq]],aZ 3 true b<|e.map aJ])) (fun a=>a=W) (fun a b c e=>AddI [] W a b c e) (by rfl) (fun _ _ _ _ _ a b=>Kh 0 a<|Mw .abs (by(exfalso;exact hW b.symm):False)) (fun a _ _ _ b c _ e _ f _ g h=>Kt 0 f<|Mx g<|Ke 4 (Zs p q u d b)<|Kl 0 17 (dU a)<|Mg 0<|M0 (.ren [0,1,2,3,4,5,6,7,9,8] [] [2,8,9,10])<|M1 (.frz 9 [2,8,9,10]) (Ah rt rt rt rt rt rt rt rt rt ti)<|Mf<|e 0 1 [b]<|by exact AddI.first h rfl) (fun _ _ a b c _ _ _ e f=>Kh 0 e<|M2 (.ren [0,1,2,3,4,5,6,8,7] [1,8] []) (tN c.length (by exact ht _:bV (aC aJ cq (di c) 0)=0)) (tS 3 true a<|aX Jl c)<|M1 (.frz 8 []) (X5 (tR 3 true a 8<|aX Jl c) rt rt rt rt rt (tM c.length 8 (by exact ht _:bV (aC aJ cq (di c) 0)=0)) rt ti)<|Mf<|et (ax<|dg []) (by(obtain⟨z1,z2,z3⟩:=f.done;rw[z3,z2,z1];try rfl;done):(av [AObj.row 1 false 0 [AV.ls (p.map aY)],AObj.map (aC aJ cq (di c) 0) c.length,AObj.row 1 false 0 [AV.map 1],AObj.row 1 false 0 [AV.slice 7 a 0 b none],AObj.row 1 false 0 [AV.func (Fn.func 72) [] [AV.ptr 2 0 0 0,AV.ptr 3 0 0 0]],AObj.row 8 false 0 [AV.agg [iV q.act,iV q.item,iV q.n,iV q.kind,AV.str q.label,AV.ls (q.head.map aQ),AV.ls (q.words.map aQ),AV.ls (q.kids.map aq)]],AObj.row 28 false 0 [AV.agg [iV d.act,iV d.item,iV d.day,iV d.it.kind,AV.ls (d.it.at_.map aY),AV.ls (d.it.to.map aY),iV d.it.where_,iV d.it.nth_,iV d.it.unit.act,iV d.it.unit.item,iV d.it.unit.n,iV d.it.unit.kind,AV.str d.it.unit.label,AV.ls (d.it.unit.head.map aQ),AV.ls (d.it.unit.words.map aQ),AV.ls (d.it.unit.kids.map aq),AV.ls (d.it.old.map nK),AV.ls (d.it.new.map nK),AV.str d.it.label,AV.str d.it.for_,iV d.it.start.kind,iV d.it.start.day,AV.str d.it.start.event,iV d.it.act,iV d.it.item,iV d.it.day,AV.str d.it.event,AV.ls (d.it.by_.map NO)]],AObj.row 3 true a (c.map aJ)])=(av [bE p,eM (af [] W),co,fD 7 ((af [] W).length -1) (af [] W).length,eP,bU q,cJ d,fP ((af [] W).length -1) (af [] W)]))) fun a _ b c e _ _ f g _ h _ i _ j k=>Kt 0 i<|Mx j<|Ks 4 (gi e f) (fun i=>Me (Zm p q u d b c e f i)<|Kl 0 17 (dU a)<|K1 0 (.frz 9 [2,8,9,10]) (Ah (tR 3 true b 9<|aX Jl e) rt rt rt rt rt rt (tM e.length 9 (by exact ht _:bV (aC aJ cq (di e) 0)=0)) rt ti)<|Mf<|h b c e<|by exact k.old (by assumption)) fun i=>Me (Zp p q u d b c e f i (by exact k.hn)<|by(have z1:=k.le;simp only[lC,lN]at z1;omega))<|Kl 0 17 (dU a)<|K1 0 (.frz 9 [2,8,9,10]) (Ah (tR 3 true (b+1) 9<|aX Jl<|e++[f]) rt rt rt rt rt rt (tM (e++[f]).length 9 (by exact ht _:bV (aC aJ cq (di (e++[f])) 0)=0)) rt ti)<|Mf<|h (b+1) (c+1) (e++[f])<|by exact k.new (by assumption) rfl rfl
theorem Z2(p:List PStep)(q u:TUnit)(d:PDeed)(W:List PId)(hf:kP 39 [eU u,.ls (p.map aY)] (.ls (W.map aJ)))(hl:W.length<=4194304)(ep n:Nat)(out:List PId)(hn:n=out.length)(he:ep+1=n)(hb:n<=30300000000):kD 38 [eU u,.ptr 0 0 0 0,.ptr 4 0 0 0] (av [bE p,eM out,co,fD 6 ep n,eP,bU q,fP ep out,cJ d]) (.tuple []) (av [bE p,eM (af out W),co,fD 6 ((af out W).length -1) (af out W).length,eP,bU q,fP ((af out W).length -1) (af out W),cJ d]):=by
  have ht:∀out:List PId,bV (aC aJ cq (di out) 0)=0:=fun out=>aP fG (fun _=>rfl) _ _
  have h0:AddI out W W ep n out:=⟨hn,he,by omega,rfl⟩
  exact CQ Tryz.func38<|Kp 2 hf<|Kl 0 9 (ln aJ W)<|Mg 0<|Su aJ W ep n out [2,8,9,10] (fun a _ b c e=>([au 4 0 0 0,aW<|W.map aJ,nV W.length,nV a],[aZ 1 false 0 [aW<|p.map aY],AObj.map (aC aJ cq (di e) 0) e.length,aZ 1 false 0 [AV.map 1],aZ 1 false 0 [aD 6 b 0 c none],aZ 1 false 0 [bQ (aT 72) [] [au 2 0 0 0,au 3 0 0 0]],aZ 8 false 0 [az [iV q.act,iV q.item,iV q.n,iV q.kind,aV q.label,aW<|q.head.map aQ,aW<|q.words.map aQ,aW<|q.kids.map aq]],aZ 3 true b<|e.map aJ,aZ 28 false 0 [az [iV d.act,iV d.item,iV d.day,iV d.it.kind,aW<|d.it.at_.map aY,aW<|d.it.to.map aY,iV d.it.where_,iV d.it.nth_,iV d.it.unit.act,iV d.it.unit.item,iV d.it.unit.n,iV d.it.unit.kind,aV d.it.unit.label,aW<|d.it.unit.head.map aQ,aW<|d.it.unit.words.map aQ,aW<|d.it.unit.kids.map aq,aW<|d.it.old.map nK,aW<|d.it.new.map nK,aV d.it.label,aV d.it.for_,iV d.it.start.kind,iV d.it.start.day,aV d.it.start.event,iV d.it.act,iV d.it.item,iV d.it.day,aV d.it.event,aW<|d.it.by_.map NO]],aZ 8 false 0 [az [iV u.act,iV u.item,iV u.n,iV u.kind,aV u.label,aW<|u.head.map aQ,aW<|u.words.map aQ,aW<|u.kids.map aq]]])) (fun a b c e=>AddI out W a b c e) (by(exact h0)) (fun _ _ a b c _ _ _ e f=>Kh 0 e<|M1 (.frz 8 []) (X5 rt (tR 3 true a 8<|aX Jl c) rt rt rt rt (tM c.length 8 (by exact ht _:bV (aC aJ cq (di c) 0)=0)) rt ti)<|Mf<|et (ax<|dg []) (by(obtain⟨z1,z2,z3⟩:=f.done;rw[z3,z2,z1];try rfl;done):(av [AObj.row 1 false 0 [AV.ls (p.map aY)],AObj.map (aC aJ cq (di c) 0) c.length,AObj.row 1 false 0 [AV.map 1],AObj.row 1 false 0 [AV.slice 6 a 0 b none],AObj.row 1 false 0 [AV.func (Fn.func 72) [] [AV.ptr 2 0 0 0,AV.ptr 3 0 0 0]],AObj.row 8 false 0 [AV.agg [iV q.act,iV q.item,iV q.n,iV q.kind,AV.str q.label,AV.ls (q.head.map aQ),AV.ls (q.words.map aQ),AV.ls (q.kids.map aq)]],AObj.row 3 true a (c.map aJ),AObj.row 28 false 0 [AV.agg [iV d.act,iV d.item,iV d.day,iV d.it.kind,AV.ls (d.it.at_.map aY),AV.ls (d.it.to.map aY),iV d.it.where_,iV d.it.nth_,iV d.it.unit.act,iV d.it.unit.item,iV d.it.unit.n,iV d.it.unit.kind,AV.str d.it.unit.label,AV.ls (d.it.unit.head.map aQ),AV.ls (d.it.unit.words.map aQ),AV.ls (d.it.unit.kids.map aq),AV.ls (d.it.old.map nK),AV.ls (d.it.new.map nK),AV.str d.it.label,AV.str d.it.for_,iV d.it.start.kind,iV d.it.start.day,AV.str d.it.start.event,iV d.it.act,iV d.it.item,iV d.it.day,AV.str d.it.event,AV.ls (d.it.by_.map NO)]]])=(av [bE p,eM (af out W),co,fD 6 ((af out W).length -1) (af out W).length,eP,bU q,fP ((af out W).length -1) (af out W),cJ d]))) fun a _ b c e _ _ f g h _ i _ j k=>Kt 0 i<|Mx j<|Ks 4 (gi e f) (fun i=>Me (Zl p q u d b c e f i)<|Kl 0 17 (dU a)<|K1 0 (.frz 9 [2,8,9,10]) (Ah rt rt (tR 3 true b 9<|aX Jl e) rt rt rt rt (tM e.length 9 (by exact ht _:bV (aC aJ cq (di e) 0)=0)) rt ti)<|Mf<|h b c e<|by exact k.old (by assumption)) fun i=>Me (Zo p q u d b c e f i (by exact k.hn)<|by(have z1:=k.le;simp only[lC,lN]at z1;omega))<|Kl 0 17 (dU a)<|K1 0 (.frz 9 [2,8,9,10]) (Ah rt rt (tR 3 true (b+1) 9<|aX Jl<|e++[f]) rt rt rt rt (tM (e++[f]).length 9 (by exact ht _:bV (aC aJ cq (di (e++[f])) 0)=0)) rt ti)<|Mf<|h (b+1) (c+1) (e++[f])<|by exact k.new (by assumption) rfl rfl
noncomputable def bh(u:TUnit)(p:List PStep):List PId:=(dl u p).map bw
noncomputable def qL(p:List PStep):List PDeed->TUnit->List PId->List PId
  |[],_,out=>out
  |d::r,u,out=>qL p r (bi u d).1 (af out (bh (bi u d).1 p))
theorem jG:∀(W out:List PId),out.length<=(af out W).length/\(af out W).length<=out.length+W.length
  |[],_=>⟨ah _,ah _⟩
  | x::r,out=>by
    have h1:=jG r (xM out x)
    have h2:=Sm out x
    rw[mV,lC];omega
theorem Dh{W:List PId}(h:W≠[]):0<(af [] W).length:=by
  cases W with
  |nil=>exact absurd rfl h
  | cons x r=>
    have h1:=jG r (xM [] x)
    have e:(xM [] x).length=1:=by rw[EN (show gi [] x=false from rfl)];rfl
    rw[mV];omega
noncomputable abbrev Ff:AV:=.func (.func 38) [] [.ptr 0 0 0 0,.ptr 4 0 0 0]
theorem tE1(p:List PStep)(q u:TUnit)(hf:kP 39 [eU u,.ls (p.map aY)] (.ls ((bh u p).map aJ)))(hW:By (bh u p).isEmpty true):kD 38 [eU u,.ptr 0 0 0 0,.ptr 4 0 0 0] (av [bE p,eM [],co,gN,eP,bU q]) (.tuple []) (av [bE p,eM [],co,gN,eP,bU q]):=by
  rw[qU.1 hW]at hf
  exact YV p q u hf
theorem tE2(p:List PStep)(q u:TUnit)(d:PDeed)(hf:kP 39 [eU u,.ls (p.map aY)] (.ls ((bh u p).map aJ)))(hW:By (bh u p).isEmpty true):kD 38 [eU u,.ptr 0 0 0 0,.ptr 4 0 0 0] (av [bE p,eM [],co,gN,eP,bU q,cJ d]) (.tuple []) (av [bE p,eM [],co,gN,eP,bU q,cJ d]):=by
  rw[qU.1 hW]at hf
  exact Vn p q u d hf
theorem Z3(p:List PStep)(q u:TUnit)(d:PDeed)(hf:kP 39 [eU u,.ls (p.map aY)] (.ls ((bh u p).map aJ)))(hW:(bh u p).isEmpty=true):kD 38 [eU u,.ptr 0 0 0 0,.ptr 4 0 0 0] (av [bE p,eM [],co,gN,eP,bU q,cJ d]) (.tuple []) (av [bE p,eM [],co,gN,eP,bU q,cJ d]):=by
  rw[qU.1 hW]at hf
  exact Vn p q u d hf
theorem ZO{l:List PId}(h:By l.isEmpty false):l≠[]:=fun e=>by subst e;cases h
theorem tA1(p:List PStep)(q u:TUnit)(hf:kP 39 [eU u,.ls (p.map aY)] (.ls ((bh u p).map aJ)))(hW:By (bh u p).isEmpty false)(hl:(bh u p).length<=4194304):kD 38 [eU u,.ptr 0 0 0 0,.ptr 4 0 0 0] (av [bE p,eM [],co,gN,eP,bU q]) (.tuple []) (av [bE p,eM (af [] (bh u p)),co,fD 6 ((af [] (bh u p)).length -1) (af [] (bh u p)).length,eP,bU q,fP ((af [] (bh u p)).length -1) (af [] (bh u p))]):=YU p q u _ hf (ZO hW) hl
theorem tA2(p:List PStep)(q u:TUnit)(d:PDeed)(hf:kP 39 [eU u,.ls (p.map aY)] (.ls ((bh u p).map aJ)))(hW:By (bh u p).isEmpty false)(hl:(bh u p).length<=4194304):kD 38 [eU u,.ptr 0 0 0 0,.ptr 4 0 0 0] (av [bE p,eM [],co,gN,eP,bU q,cJ d]) (.tuple []) (av [bE p,eM (af [] (bh u p)),co,fD 7 ((af [] (bh u p)).length -1) (af [] (bh u p)).length,eP,bU q,cJ d,fP ((af [] (bh u p)).length -1) (af [] (bh u p))]):=YY p q u d _ hf (ZO hW) hl
theorem tB(p:List PStep)(q u:TUnit)(d:PDeed)(hf:kP 39 [eU u,.ls (p.map aY)] (.ls ((bh u p).map aJ)))(hl:(bh u p).length<=4194304)(ep n:Nat)(out:List PId)(hn:n=out.length)(he:ep+1=n)(hb:n<=30300000000):kD 38 [eU u,.ptr 0 0 0 0,.ptr 4 0 0 0] (av [bE p,eM out,co,fD 6 ep n,eP,bU q,fP ep out,cJ d]) (.tuple []) (av [bE p,eM (af out (bh u p)),co,fD 6 ((af out (bh u p)).length -1) (af out (bh u p)).length,eP,bU q,fP ((af out (bh u p)).length -1) (af out (bh u p)),cJ d]):=Z2 p q u d _ hf hl ep n out hn he hb
structure HldI(p:List PStep)(H:List PId)(N:Nat)(r:List PDeed)(u:TUnit)(ep n:Nat)(out:List PId):Prop where
  ok:OkB u
  hn:n=out.length
  he:ep+1=n
  le:n+4194304*r.length<=N
  f:H=qL p r u out
theorem HldI.step{p:List PStep}{H:List PId}{N:Nat}{r:List PDeed}{d:PDeed}{u:TUnit}{ep n:Nat}{out:List PId}(h:HldI p H N (d::r) u ep n out)(h1:OkB (bi u d).1)(hl:(bh (bi u d).1 p).length<=4194304):HldI p H N r (bi u d).1 ((af out (bh (bi u d).1 p)).length -1) (af out (bh (bi u d).1 p)).length (af out (bh (bi u d).1 p)):=by
  have:=h.hn
  have:=h.he
  have z:=h.le
  have:=jG (bh (bi u d).1 p) out
  rw[lC]at z
  exact⟨h1,rfl,by omega,by omega,h.f⟩
theorem HldI.first{p:List PStep}{H:List PId}{N:Nat}{r:List PDeed}{u:TUnit}(h1:OkB u)(hW:By (bh u p).isEmpty false)(hl:(bh u p).length<=4194304)(hN:4194304*(r.length+1)<=N)(f:H=qL p r u (af [] (bh u p))):HldI p H N r u ((af [] (bh u p)).length -1) (af [] (bh u p)).length (af [] (bh u p)):=by
  have:=jG (bh u p) []
  have:=Dh (ZO hW)
  exact⟨h1,rfl,by omega,by simp only[lN]at *;omega,f⟩
theorem HldI.done{p:List PStep}{H:List PId}{N:Nat}{u:TUnit}{ep n:Nat}{out:List PId}(h:HldI p H N [] u ep n out):out=H/\n=H.length/\ep=H.length-1:=by
  have e:H=out:=h.f
  have:=h.hn
  have:=h.he
  rw[e];exact⟨rfl,by omega,by omega⟩
structure Hld0(p:List PStep)(H:List PId)(N:Nat)(r:List PDeed)(u:TUnit):Prop where
  ok:OkB u
  le:4194304*r.length<=N
  f:H=qL p r u []
theorem Hld0.step{p:List PStep}{H:List PId}{N:Nat}{r:List PDeed}{d:PDeed}{u:TUnit}(h:Hld0 p H N (d::r) u)(h1:OkB (bi u d).1)(hW:(bh (bi u d).1 p).isEmpty=true):Hld0 p H N r (bi u d).1:=by
  have z:=h.le
  rw[lC]at z
  have f:=h.f
  rw[qL,qU.1 hW]at f
  exact⟨h1,by omega,f⟩
theorem Hld0.go{p:List PStep}{H:List PId}{N:Nat}{r:List PDeed}{d:PDeed}{u:TUnit}(h:Hld0 p H N (d::r) u)(h1:OkB (bi u d).1)(hW:(bh (bi u d).1 p).isEmpty=false)(hl:(bh (bi u d).1 p).length<=4194304):HldI p H N r (bi u d).1 ((af [] (bh (bi u d).1 p)).length -1) (af [] (bh (bi u d).1 p)).length (af [] (bh (bi u d).1 p)):=by
  have z:=h.le
  rw[lC]at z
  exact HldI.first h1 hW hl (by omega) h.f
theorem WW(w:TUnit)(hw:OkB w)(h0:kP 51 [] (eU w))(p:List PStep)(Y:List PDeed)(H:List PId)(hl:Y.length<=7200)(ho:∀d,d∈Y->ta d.it/\mK d.it.kind=true)(hp:∀u,OkB u->kP 39 [eU u,.ls (p.map aY)] (.ls ((bh u p).map aJ)))(hq:∀u,OkB u->(bh u p).length<=4194304)(hW:By (bh w p).isEmpty true)(hH:H=qL p Y w [])(hn:H≠[]):kD 30 [.ls (Y.map aK),Ff] (av [bE p,eM [],co,gN,eP]) (.tuple []) (av [bE p,eM H,co,fD 5 (H.length-1) H.length,eP,fP (H.length-1) H]):=by
  have ha:=tE1 p w w (hp w hw) hW
  exact CQ Tryz.func30<|Mp h0<|Ke 3 ha<|Kl 1 12 (ln aK Y)<|Mg 0<|V3 TUnit Nat Nat (List PId) aK Y w [1,4,11,12,13] (fun a _ b=>([bQ (aT 38) [] [au 0 0 0 0,au 4 0 0 0],au 5 0 0 0,aW<|Y.map aK,nV Y.length,nV a],[aZ 1 false 0 [aW<|p.map aY],AObj.map [] 0,aZ 1 false 0 [AV.map 1],aZ 1 false 0 [ak],aZ 1 false 0 [bQ (aT 72) [] [au 2 0 0 0,au 3 0 0 0]],aZ 8 false 0 [az [iV b.act,iV b.item,iV b.n,iV b.kind,aV b.label,aW<|b.head.map aQ,aW<|b.words.map aQ,aW<|b.kids.map aq]]])) (fun a _ b c e f=>([bQ (aT 38) [] [au 0 0 0 0,au 4 0 0 0],au 5 0 0 0,aW<|Y.map aK,nV Y.length,nV a],[aZ 1 false 0 [aW<|p.map aY],AObj.map (aC aJ cq (di f) 0) f.length,aZ 1 false 0 [AV.map 1],aZ 1 false 0 [aD 6 c 0 e none],aZ 1 false 0 [bQ (aT 72) [] [au 2 0 0 0,au 3 0 0 0]],aZ 8 false 0 [az [iV b.act,iV b.item,iV b.n,iV b.kind,aV b.label,aW<|b.head.map aQ,aW<|b.words.map aQ,aW<|b.kids.map aq]],aZ 3 true c<|f.map aJ])) (fun a b=>Hld0 p H (30203183104:Nat) a b) (fun a b c e f=>HldI p H (30203183104:Nat) a b c e f) (by(exact⟨hw,by omega,hH⟩)) (fun _ _ _ _ _ _ a b=>Kh 0 a<|Mw .abs (by(exfalso;exact hn b.f):False)) (fun a _ b c _ e f g h i j _ k l=>have c:=ho _<|aI c i;Kt 0 j<|Mx k<|Kp 4 (A9 b e (by exact l.ok) (by exact c.1)<|by exact c.2)<|Ks 5 (bh (bi b e).1 p).isEmpty (fun h=>Me (tE2 p (bi b e).1 (bi b e).1 e (by exact hp _ (dt ⟨l.ok,c.1,c.2⟩).2) h)<|Kl 0 26 (dU a)<|K1 0 (.frz 6 [1,4,11,12,13]) (BA rt rt rt rt rt rt ti)<|Mf<|g (bi b e).1<|by exact l.step (dt ⟨l.ok,c.1,c.2⟩).2 (by assumption)) fun g=>Me (tA2 p (bi b e).1 (bi b e).1 e (by exact hp _ (dt ⟨l.ok,c.1,c.2⟩).2) g<|by exact hq _ (dt ⟨l.ok,c.1,c.2⟩).2)<|Kl 0 26 (dU a)<|Mg 0<|M2 (.ren [0,1,2,3,4,5,7,6] [1,7] [1,4,11,12,13]) (tN (af []<|bh (bi b e).1 p).length (by exact aP fG (fun _=>rfl) _ _:bV (aC aJ cq (di (af [] (bh (bi b e).1 p))) 0)=0)) (tS 3 true ((af []<|bh (bi b e).1 p).length -1)<|aX Jl<|af []<|bh (bi b e).1 p)<|M1 (.frz 7 [1,4,11,12,13]) (UD (tR 3 true ((af []<|bh (bi b e).1 p).length -1) 7<|aX Jl<|af []<|bh (bi b e).1 p) rt rt rt rt (tM (af []<|bh (bi b e).1 p).length 7 (by exact aP fG (fun _=>rfl) _ _:bV (aC aJ cq (di (af [] (bh (bi b e).1 p))) 0)=0)) rt ti)<|Mf<|h (bi b e).1 ((af []<|bh (bi b e).1 p).length -1) (af []<|bh (bi b e).1 p).length (af []<|bh (bi b e).1 p)<|by exact l.go (dt ⟨l.ok,c.1,c.2⟩).2 (by assumption) (hq _ (dt ⟨l.ok,c.1,c.2⟩).2)) (fun _ _ _ a b c _ _ _ e f=>Kh 0 e<|M2 (.ren [0,1,2,3,4,6,5] [1,6] []) (tN c.length (by exact aP fG (fun _=>rfl) _ _:bV (aC aJ cq (di c) 0)=0)) (tS 3 true a<|aX Jl c)<|M1 (.frz 6 []) (BA (tR 3 true a 6<|aX Jl c) rt rt rt (tM c.length 6 (by exact aP fG (fun _=>rfl) _ _:bV (aC aJ cq (di c) 0)=0)) rt ti)<|Mf<|et (ax<|dg []) (by(obtain⟨z1,z2,z3⟩:=f.done;rw[z3,z2,z1];try rfl;done):(av [AObj.row 1 false 0 [AV.ls (p.map aY)],AObj.map (aC aJ cq (di c) 0) c.length,AObj.row 1 false 0 [AV.map 1],AObj.row 1 false 0 [AV.slice 5 a 0 b none],AObj.row 1 false 0 [AV.func (Fn.func 72) [] [AV.ptr 2 0 0 0,AV.ptr 3 0 0 0]],AObj.row 3 true a (c.map aJ)])=(av [bE p,eM H,co,fD 5 (H.length-1) H.length,eP,fP (H.length-1) H]))) fun a _ b c e f g _ h i _ j k l _ m n=>have g:=ho _<|aI g k;Kt 0 l<|Mx m<|Kp 4 (A9 b h (by exact n.ok) (by exact g.1)<|by exact g.2)<|Ke 5 (tB p (bi b h).1 (bi b h).1 h (by exact hp _ (dt ⟨n.ok,g.1,g.2⟩).2) (by exact hq _ (dt ⟨n.ok,g.1,g.2⟩).2) c e f (by exact n.hn) (by exact n.he)<|by(have z1:=n.le;omega))<|Kl 0 26 (dU a)<|K1 0 (.frz 7 [1,4,11,12,13]) (UD (tR 3 true ((af f<|bh (bi b h).1 p).length -1) 7<|aX Jl<|af f<|bh (bi b h).1 p) rt rt rt rt (tM (af f<|bh (bi b h).1 p).length 7 (by exact aP fG (fun _=>rfl) _ _:bV (aC aJ cq (di (af f (bh (bi b h).1 p))) 0)=0)) rt ti)<|Mf<|j (bi b h).1 ((af f<|bh (bi b h).1 p).length -1) (af f<|bh (bi b h).1 p).length (af f<|bh (bi b h).1 p)<|by exact n.step (dt ⟨n.ok,g.1,g.2⟩).2 (hq _ (dt ⟨n.ok,g.1,g.2⟩).2)
def Fm(p:List PStep)(Y:List PDeed)(H:List PId)(x0:Nat×List PDeed×TUnit×Nat×Nat×List PId):Prop:=(Y).drop x0.1=x0.2.1/\HldI p H (30203183104:Nat) x0.2.1 x0.2.2.1 x0.2.2.2.1 x0.2.2.2.2.1 x0.2.2.2.2.2
noncomputable def wG(p:List PStep)(Y:List PDeed)(H:List PId)(x0:Nat×List PDeed×TUnit×Nat×Nat×List PId):List AV×List AObj:=([AV.func (Fn.func 38) [] [AV.ptr 0 0 0 0,AV.ptr 4 0 0 0],AV.ptr 5 0 0 0,AV.ls (Y.map aK),nV Y.length,nV x0.1],[AObj.row 1 false 0 [AV.ls (p.map aY)],AObj.map (aC aJ cq (di x0.2.2.2.2.2) 0) x0.2.2.2.2.2.length,AObj.row 1 false 0 [AV.map 1],AObj.row 1 false 0 [AV.slice 6 x0.2.2.2.1 0 x0.2.2.2.2.1 none],AObj.row 1 false 0 [AV.func (Fn.func 72) [] [AV.ptr 2 0 0 0,AV.ptr 3 0 0 0]],AObj.row 8 false 0 [AV.agg [iV x0.2.2.1.act,iV x0.2.2.1.item,iV x0.2.2.1.n,iV x0.2.2.1.kind,AV.str x0.2.2.1.label,AV.ls (x0.2.2.1.head.map aQ),AV.ls (x0.2.2.1.words.map aQ),AV.ls (x0.2.2.1.kids.map aq)]],AObj.row 3 true x0.2.2.2.1 (x0.2.2.2.2.2.map aJ)])
theorem WX(w:TUnit)(hw:OkB w)(h0:kP 51 [] (eU w))(p:List PStep)(Y:List PDeed)(H:List PId)(hl:Y.length<=7200)(ho:∀d,d∈Y->ta d.it/\mK d.it.kind=true)(hp:∀u,OkB u->kP 39 [eU u,.ls (p.map aY)] (.ls ((bh u p).map aJ)))(hq:∀u,OkB u->(bh u p).length<=4194304)(hW:By (bh w p).isEmpty false)(hH:H=qL p Y w (af [] (bh w p))):kD 30 [.ls (Y.map aK),Ff] (av [bE p,eM [],co,gN,eP]) (.tuple []) (av [bE p,eM H,co,fD 5 (H.length-1) H.length,eP,fP (H.length-1) H]):=by
  have ha:=tA1 p w w (hp w hw) hW (hq w hw)
  have hs:=HldI.first (N:=30203183104) hw hW (hq w hw) (by omega) hH
  exact CQ Tryz.func30<|Mp h0<|Ke 3 ha<|Kl 1 12 (ln aK Y)<|Mg 0<|ML (Nat×List PDeed×TUnit×Nat×Nat×List PId) [1,4,11,12,13] (wG p Y H) (Fm p Y H) (fun a=>a.2.1.length) (0,Y,(w,(af []<|bh w p).length -1,(af []<|bh w p).length,af []<|bh w p)) (ax<|wG p Y H (0,Y,(w,(af []<|bh w p).length -1,(af []<|bh w p).length,af []<|bh w p))) (et (rfl:List.drop 0 (Y)=Y) (by(exact hs):(HldI p H (30203183104:Nat) Y w ((af [] (bh w p)).length -1) (af [] (bh w p)).length (af [] (bh w p))))) fun a b c=>Mc a.2.1 (fun c=>have e:=fN b.1 c;have b:=ie (J:=fun a b=>HldI p H (30203183104:Nat) a b.1 b.2.1 b.2.2.1 b.2.2.2) (a:=a.2.2) c b.2;Kh 0 e<|M2 (.ren [0,1,2,3,4,6,5] [1,6] []) (tN a.2.2.2.2.2.length (by exact aP fG (fun _=>rfl) _ _:bV (aC aJ cq (di a.2.2.2.2.2) 0)=0)) (tS 3 true a.2.2.2.1<|aX Jl a.2.2.2.2.2)<|M1 (.frz 6 []) (BA (tR 3 true a.2.2.2.1 6<|aX Jl a.2.2.2.2.2) rt rt rt (tM a.2.2.2.2.2.length 6 (by exact aP fG (fun _=>rfl) _ _:bV (aC aJ cq (di a.2.2.2.2.2) 0)=0)) rt ti)<|Mf<|et (ax<|dg []) (by(obtain⟨z1,z2,z3⟩:=b.done;rw[z3,z2,z1];try rfl;done):(av [AObj.row 1 false 0 [AV.ls (p.map aY)],AObj.map (aC aJ cq (di a.2.2.2.2.2) 0) a.2.2.2.2.2.length,AObj.row 1 false 0 [AV.map 1],AObj.row 1 false 0 [AV.slice 5 a.2.2.2.1 0 a.2.2.2.2.1 none],AObj.row 1 false 0 [AV.func (Fn.func 72) [] [AV.ptr 2 0 0 0,AV.ptr 3 0 0 0]],AObj.row 3 true a.2.2.2.1 (a.2.2.2.2.2.map aJ)])=(av [bE p,eM H,co,fD 5 (H.length-1) H.length,eP,fP (H.length-1) H]))) fun e f g=>have h:=fT b.1 g;have:=aA h;have i:=fL (enc:=aK) b.1 g;have j:=cb (J:=fun a b=>HldI p H (30203183104:Nat) a b.1 b.2.1 b.2.2.1 b.2.2.2) (a:=a.2.2) g b.2;have k:=ho _<|aI b.1 g;Kt 0 h<|Mx i<|Kp 4 (A9 a.2.2.1 e (by exact j.ok) (by exact k.1)<|by exact k.2)<|Ke 5 (tB p (bi a.2.2.1 e).1 (bi a.2.2.1 e).1 e (by exact hp _ (dt ⟨j.ok,k.1,k.2⟩).2) (by exact hq _ (dt ⟨j.ok,k.1,k.2⟩).2) a.2.2.2.1 a.2.2.2.2.1 a.2.2.2.2.2 (by exact j.hn) (by exact j.he)<|by(have z1:=j.le;omega))<|Kl 0 26 (dU a.1)<|K1 0 (.frz 7 [1,4,11,12,13]) (UD (tR 3 true ((af a.2.2.2.2.2<|bh (bi a.2.2.1 e).1 p).length -1) 7<|aX Jl<|af a.2.2.2.2.2<|bh (bi a.2.2.1 e).1 p) rt rt rt rt (tM (af a.2.2.2.2.2<|bh (bi a.2.2.1 e).1 p).length 7 (by exact aP fG (fun _=>rfl) _ _:bV (aC aJ cq (di (af a.2.2.2.2.2 (bh (bi a.2.2.1 e).1 p))) 0)=0)) rt ti)<|Mf<|c (a.1+1,f,((bi a.2.2.1 e).1,(af a.2.2.2.2.2<|bh (bi a.2.2.1 e).1 p).length -1,(af a.2.2.2.2.2<|bh (bi a.2.2.1 e).1 p).length,af a.2.2.2.2.2<|bh (bi a.2.2.1 e).1 p)) (et (bH b.1 g) (by exact j.step (dt ⟨j.ok,k.1,k.2⟩).2 (hq _ (dt ⟨j.ok,k.1,k.2⟩).2):(HldI p H (30203183104:Nat) f (bi a.2.2.1 e).1 ((af a.2.2.2.2.2 (bh (bi a.2.2.1 e).1 p)).length -1) (af a.2.2.2.2.2 (bh (bi a.2.2.1 e).1 p)).length (af a.2.2.2.2.2 (bh (bi a.2.2.1 e).1 p)))))<|fZ g
theorem Hld0.nil{p:List PStep}{N:Nat}{r:List PDeed}{d:PDeed}{u:TUnit}(h:Hld0 p [] N (d::r) u):By (bh (bi u d).1 p).isEmpty true:=by
  have mono:∀(r:List PDeed)(u:TUnit)(out:List PId),out.length<=(qL p r u out).length:=fun r=>by
    induction r with
    |nil=>exact fun _ _=>ah _
    |cons d r ih=>exact fun u out=>bO (jG _ out).1 (ih _ _)
  cases q:(bh (bi u d).1 p).isEmpty with
  |true=>rfl
  | false=>
    have z:=Dh (ZO q)
    have z2:=mono r (bi u d).1 (af [] (bh (bi u d).1 p))
    have f:=h.f
    rw[qL]at f
    rw[<-f]at z2
    simp only[lN]at z2;omega
theorem WJ(w:TUnit)(hw:OkB w)(h0:kP 51 [] (eU w))(p:List PStep)(Y:List PDeed)(hl:Y.length<=7200)(ho:∀d,d∈Y->ta d.it/\mK d.it.kind=true)(hp:∀u,OkB u->kP 39 [eU u,.ls (p.map aY)] (.ls ((bh u p).map aJ)))(hW:By (bh w p).isEmpty true)(hH:[]=qL p Y w []):kD 30 [.ls (Y.map aK),Ff] (av [bE p,eM [],co,gN,eP]) (.tuple []) (av [bE p,eM [],co,gN,eP]):=by
  have ha:=tE1 p w w (hp w hw) hW
  exact dE Tryz.func30 fun a=>Mp h0<|Ke 3 ha<|Kl 1 12 (ln aK Y)<|Mg 0<|L5 aK Y w [1,4,11,12,13] (fun a _ b=>([bQ (aT 38) [] [au 0 0 0 0,au 4 0 0 0],au 5 0 0 0,aW<|Y.map aK,nV Y.length,nV a],[aZ 1 false 0 [aW<|p.map aY],AObj.map [] 0,aZ 1 false 0 [AV.map 1],aZ 1 false 0 [ak],aZ 1 false 0 [bQ (aT 72) [] [au 2 0 0 0,au 3 0 0 0]],aZ 8 false 0 [az [iV b.act,iV b.item,iV b.n,iV b.kind,aV b.label,aW<|b.head.map aQ,aW<|b.words.map aQ,aW<|b.kids.map aq]]])) (fun a b=>Hld0 p [] (30203183104:Nat) a b) (by(exact⟨hw,by omega,hH⟩)) (fun _ _ _ _ _ _ b _=>Kh 0 b<|M1 (.frz 5 []) (wK rt rt rt rt rt ti)<|Mf a) fun a _ b c _ e f g h i _ j k=>have c:=ho _<|aI c h;Kt 0 i<|Mx j<|Kp 4 (A9 b e (by exact k.ok) (by exact c.1)<|by exact c.2)<|Ke 5 (Z3 p (bi b e).1 (bi b e).1 e (by exact hp _ (dt ⟨k.ok,c.1,c.2⟩).2)<|by exact k.nil)<|Kl 0 26 (dU a)<|K1 0 (.frz 6 [1,4,11,12,13]) (BA rt rt rt rt rt rt ti)<|Mf<|g (bi b e).1<|by exact k.step (dt ⟨k.ok,c.1,c.2⟩).2 k.nil
theorem XW(gs:List PGaz)(day:Int)(f:bZ)(p:List PStep)(X:List PDeed)(ho:kP 20 [iV day,.str f,.ls (gs.map am)] (.ls (X.map aK)))(hs:kD 30 [.ls (X.map aK),Ff] (av [bE p,eM [],co,gN,eP]) (.tuple []) (av [bE p,eM [],co,gN,eP])):kP 13 [iV day,.str f,.ls (p.map aY),.ls (gs.map am)] (.ls (([]:List PId).map aJ)):=by
  exact bo Tryz.func13<|Kp 11 ho<|Ke 0 hs<|Kf 2 bA
theorem QF(gs:List PGaz)(day:Int)(f:bZ)(p:List PStep)(X:List PDeed)(H:List PId)(ho:kP 20 [iV day,.str f,.ls (gs.map am)] (.ls (X.map aK)))(hs:kD 30 [.ls (X.map aK),Ff] (av [bE p,eM [],co,gN,eP]) (.tuple []) (av [bE p,eM H,co,fD 5 (H.length-1) H.length,eP,fP (H.length-1) H])):kP 13 [iV day,.str f,.ls (p.map aY),.ls (gs.map am)] (.ls (H.map aJ)):=by
  have ht:bV (aC aJ cq (di H) 0)=0:=aP fG (fun _=>rfl) _ _
  let q:=List.map aJ H;exact bo Tryz.func13<|Kp 11 ho<|Ke 0 hs<|Mg 2<|M2 (.fsl 0 [] 8 q) ti (ch (ax<|H.length-1) (tA aJ H H.length rfl)<|aX Jl H)<|Ml 8 (fY q false<|aX Jl H)<|Mf<|bY<|aW q
theorem DO(gs:List PGaz)(day:Int)(p:bZ)(X Y:List PDeed)(g:Nat)(a i y:Int)(u:TUnit)(m:List PFail)(hr:kP 26 [iV day,.str p,.ls (gs.map am)] (.ls (X.map aK)))(hp:kP 75 [lE a i,.ls (gs.map am)] (.tuple [Bx a i y,.bool true]))(ha:kP 76 [.ls (X.map aK),Bx a i y,vQ g] (.ls (Y.map aK)))(hb:kP 27 [.ls (Y.map aK)] (.tuple [eU u,.ls (m.map gn)])):kP 40 [iV day,.str p,lE a i,.ls (gs.map am),vQ g] (eU u):=by
  exact bo Tryz.func40<|Kp 3 hp<|Kp 11 hr<|Kp 4 ha<|Mp hb<|Kf 7<|bY<|az [iV u.act,iV u.item,iV u.n,iV u.kind,aV u.label,aW<|u.head.map aQ,aW<|u.words.map aQ,aW<|u.kids.map aq]
theorem rO(gs:List PGaz)(day:Int)(p:bZ)(a i:Int)(u:TUnit)(h:kP 40 [iV day,.str p,lE a i,.ls (gs.map am),vQ 41] (eU u)):kP 15 [iV day,.str p,lE a i,.ls (gs.map am)] (eU u):=by
  exact bo Tryz.func15<|Kp 5 h<|Kf 0<|bY<|az [iV u.act,iV u.item,iV u.n,iV u.kind,aV u.label,aW<|u.head.map aQ,aW<|u.words.map aQ,aW<|u.kids.map aq]
theorem Pn(gs:List PGaz)(L:List PAct)(a i:Int)(hL:L.length<10000)(ha:kP 77 [.ls (gs.map am)] (.ls (L.map ay)))(hx:∀b,b∈L->ae b.number a=false):kP 75 [lE a i,.ls (gs.map am)] (.tuple [zD,.bool false]):=by
  exact bo Tryz.func75<|Kp 3 ha<|Kl 0 10 (ln ay L)<|Mg 0<|tw ay L [2,4,9,10,11] (fun c _=>([au 0 0 0 0,au 1 0 0 0,aW<|L.map ay,nV L.length,nV c],[aZ 2 false 0 [az [iV a,iV i]],aZ 28 false 0 [az [iV 0,iV 0,iV 0,iV 0,ak,ak,iV 0,iV 0,iV 0,iV 0,iV 0,iV 0,aV [],ak,ak,ak,ak,ak,aV [],aV [],iV 0,iV 0,aV [],iV 0,iV 0,iV 0,aV [],ak]]])) (fun _=>True) (by(trivial)) (fun _ _ _ _ _ c _=>Kh 0 c<|Kf 2<|bY<|dg [az [iV 0,iV 0,iV 0,iV 0,ak,ak,iV 0,iV 0,iV 0,iV 0,iV 0,iV 0,aV [],ak,ak,ak,ak,ak,aV [],aV [],iV 0,iV 0,aV [],iV 0,iV 0,iV 0,aV [],ak],dQ false]) fun c _ d _ e _ f g h _ j _=>have d:=hx _<|aI d g;Kt 0 h<|Mx j<|Kh 7 d<|Kl 0 27 (dU c)<|K1 0 (.frz 2 [2,4,9,10,11]) (ch rt rt ti)<|Mf<|f<|by trivial
theorem Tm(gs:List PGaz)(day:Int)(p:bZ)(g:Nat)(a i:Int)(h0:kP 51 [] (eU oR))(hp:kP 75 [lE a i,.ls (gs.map am)] (.tuple [zD,.bool false])):kP 40 [iV day,.str p,lE a i,.ls (gs.map am),vQ g] (eU oR):=by
  exact bo Tryz.func40<|Kp 3 hp<|Kp 8 h0<|Kf 0<|bY<|az [iV 0,iV 0,iV 0,iV 0,aV [],aW [],aW [],aW []]
def wE:List PStep->Int->Int
  |[],a=>a
  |s::r,a=>wE r (IntKind.i64.wrap (a+Int.ofNat s.label.length))
noncomputable def C3(gs:List PGaz)(f:bZ)(p:List PStep):Bool:=Hw gs 24&&(aw (aB 200 (wE p (Int.ofNat f.length)))&&aw (aB 12 (Int.ofNat p.length)))
theorem RV(gs:List PGaz)(f:bZ)(p:List PStep)(hf:pF gs)(hp:p.length<2^60):kP 6 [.ls (gs.map am),.str f,.ls (p.map aY)] (.bool (C3 gs f p)):=by
  have keepWrap:True:=trivial
  have rr0 b' (h:(C3 gs f p)=b':=by(unfold C3;rw[hj0];simp only[wE,aS,aw,bS, *];first|done|rfl)):=h;exact bo Tryz.func6<|Mg 4<|L5 aY p (Int.ofNat<|List.length f) [0,2,7,8] (fun a _ b=>([aW<|gs.map am,aW<|p.map aY,iV b,nV a],[])) (fun a b=>wE p (Int.ofNat<|List.length f)=wE a b) (by rfl) (fun _ _ a _ _ _ b hj0=>Kl 2 13 (ln aY p)<|Kh 0 b<|Kp 0 (UB gs 24 hf oA oA)<|Kb 0 (Hw gs 24) (fun b=>Kt 0 b<|Ku 0 b<|Kd 0 200 a (fun a _=>Kt 0 (cS a)<|Kl 0 33 (ln aY p)<|Mt (cS a)<|Ku 0 (cS a)<|Kf 0<|ct<|rr0<|aw<|aB 12<|Int.ofNat p.length) fun a _=>Mh (cF a)<|Mh (cF a)<|My (cF a)<|Ky 0<|rr0 false) fun a=>Mh a<|My a<|Ky 2<|rr0 false) fun _ _ a b _ c d e g i _ j hj0=>Kl 2 13 (ln aY p)<|Kt 0 i<|Kx 2 j<|Kl 7 8 (oW (k:=.i64)<|Pk b g oA)<|Mf<|e (IntKind.i64.wrap<|a+Int.ofNat (List.length c.label))<|by(rw[hj0];rfl)
theorem Zb(gs:List PGaz)(day:Int)(f:bZ)(p:List PStep)(a i:Int)(haw:kP 7 [] (.bool true))(hw:kP 6 [.ls (gs.map am),.str f,.ls (p.map aY)] (.bool false)):kP 4 [.ls (gs.map am),iV day,.str f,.ls (p.map aY),lE a i] (.bool true):=by
  exact bo Tryz.func4<|Kp 4 hw<|Kp 1 haw<|Kf 0<|bY<|dQ true
structure BefC(gs:List PGaz)(day:Int)(f:bZ)(p:List PStep)(a i:Int)(u:TUnit)(w:PId)(e:Int)(q:PId)(b:Bool)(H:List PId):Prop where
  kb:kP 15 [iV day,.str f,lE a i,.ls (gs.map am)] (eU u)
  ko:kP 14 [eU u,.ls (p.map aY)] (.tuple [aJ w,iV e])
  kl:kP 16 [iV day,.str f,.ls (p.map aY),lE a i,.ls (gs.map am)] (.tuple [aJ q,.bool b])
  kh:kP 13 [iV day,.str f,.ls (p.map aY),.ls (gs.map am)] (.ls (H.map aJ))
  ks:H.length<2^40
theorem aau(gs:List PGaz)(day:Int)(f:bZ)(p:List PStep)(a i:Int)(u:TUnit)(w:PId)(e:Int)(q:PId)(H:List PId)(haw:kP 7 [] (.bool true))(hw:kP 6 [.ls (gs.map am),.str f,.ls (p.map aY)] (.bool true))(hk:BefC gs day f p a i u w e q false H)(he:ae e 0=false):kP 4 [.ls (gs.map am),iV day,.str f,.ls (p.map aY),lE a i] (.bool true):=by
  obtain⟨k1,k2,k3,k4,k5⟩:=hk
  exact bo Tryz.func4<|Kp 4 hw<|Kp 5 k1<|Kp 0 k2<|Kp 10 k3<|Kh 8 he<|Mh he<|Mh he<|Mh he<|My he<|Kp 7 k4<|Kl 0 61 (ln aJ H)<|K1 0 (.frz 0 [13,15,60,61,62]) ti<|tw aJ H [13,15,60,61,62] (fun b _=>([AV.pptr [az [iV q.a,iV q.i,iV q.n]] 0 0,dQ true,aW<|H.map aJ,nV H.length,nV b],[])) (fun _=>True) (by(trivial)) (fun _ _ _ _ _ b _=>Kh 0 b<|Kp 1 haw<|Kf 1<|bY<|dQ true) fun b _ _ _ _ _ c _ d _ g _=>Kt 0 d<|Mx g<|Kl 7 72 (dU b)<|K1 0 (.frz 0 [13,15,60,61,62]) ti<|Mf<|c<|by trivial
theorem aat(gs:List PGaz)(day:Int)(f:bZ)(p:List PStep)(a i:Int)(u:TUnit)(w:PId)(e:Int)(q:PId)(H:List PId)(haw:kP 7 [] (.bool true))(hw:kP 6 [.ls (gs.map am),.str f,.ls (p.map aY)] (.bool true))(hk:BefC gs day f p a i u w e q true H)(he:ae e 0=false)(ha:H.any (fun x=>bK x q)=true):kP 4 [.ls (gs.map am),iV day,.str f,.ls (p.map aY),lE a i] (.bool true):=by
  obtain⟨k1,k2,k3,k4,k5⟩:=hk
  have rr0 b' (h:(true)=b':=by(exfalso;simp_all;done)):=h;exact bo Tryz.func4<|Kp 4 hw<|Kp 5 k1<|Kp 0 k2<|Kp 10 k3<|Kh 8 he<|Mh he<|Mh he<|Mh he<|My he<|Kp 7 k4<|Kl 0 61 (ln aJ H)<|K1 0 (.frz 0 [13,15,60,61,62]) ti<|SH (0:Nat) H false [13,15,60,61,62] (fun b _ c=>([AV.pptr [az [iV q.a,iV q.i,iV q.n]] 0 0,dQ c,aW<|H.map aJ,nV H.length,nV b],[])) (fun b c d=>(H).drop b=c/\(d||c.any fun b=>bK b q)=true) (fun _ b _=>b.length) (et rfl<|by(exact ha)) fun b c d g j=>Mc c (fun b=>have c:=fN g.1 b;have:=ie (J:=fun b c=>(c||b.any fun b=>bK b q)=true) (a:=d) b g.2;Kh 0 c<|Kb 1 d (fun b=>Mp haw<|MV b<|Kf 0<|bY<|dQ true) fun b=>My b<|Ky 0<|rr0 false) fun c k l=>let m:=[iV c.a,iV c.i,iV c.n];have n:=fT g.1 l;have:=aA n;have o:=fL (enc:=aJ) g.1 l;have r:=cb (J:=fun b c=>(c||b.any fun b=>bK b q)=true) (a:=d) l g.2;Kt 0 n<|Mx o<|Kb 4 d (fun c=>Mt c<|Mt c<|MV c<|Kl 1 72 (iF b)<|K1 0 (.frz 0 [13,15,60,61,62]) ti<|Mf<|j (b+1) k true (et (bH g.1 l)<|by(rw[List.any_cons]at r;simp_all[bK];done))<|fZ l) fun d=>Kh 0 d<|Kh 0 d<|Mv (kH ((Tryz.prog).underlying 26) c.a c.i c.n q.a q.i q.n<|av [aZ 3 false 0 [az m]])<|My d<|Kl 1 72 (iF b)<|K1 0 (.frz 0 [13,15,60,61,62]) ti<|Mf<|j (b+1) k (ae c.a q.a&&(ae c.i q.i&&ae c.n q.n)) (et (bH g.1 l)<|by(rw[List.any_cons]at r;simp_all[bK];done))<|fZ l
theorem aas(gs:List PGaz)(day:Int)(f:bZ)(p:List PStep)(a i:Int)(u:TUnit)(q:PId)(H:List PId)(haw:kP 7 [] (.bool true))(hw:kP 6 [.ls (gs.map am),.str f,.ls (p.map aY)] (.bool true))(hk:BefC gs day f p a i u q 0 q true H)(ha:H.any (fun x=>bK x q)=true):kP 4 [.ls (gs.map am),iV day,.str f,.ls (p.map aY),lE a i] (.bool true):=by
  obtain⟨k1,k2,k3,k4,k5⟩:=hk
  have hr:∀x:Int,ae x x=true:=bg
  have rr0 b' (h:(true)=b':=by(exfalso;simp_all;done)):=h;let q1:=[iV q.a,iV q.i,iV q.n];exact bo Tryz.func4<|Kp 4 hw<|Kp 5 k1<|Kp 0 k2<|Kp 10 k3<|Kv 13 (yi (d:=(Tryz.prog).underlying 26) (n:=3) (l:=(0,1)::(1,1)::(2,1)::[]) (xs:=q1) (ys:=q1) (H:=av [aZ 2 false 0 [az [iV a,iV i]],aZ 3 false 0 [az q1],aZ 3 false 0 [az q1]]) rfl<|Ra rfl rfl (Rk q.a)<|Ra rfl rfl (Rk q.i)<|Ra rfl rfl (Rk q.n) rfl)<|Kp 9 k4<|Kl 0 61 (ln aJ H)<|K1 0 (.frz 0 [13,15,60,61,62]) ti<|SH (0:Nat) H false [13,15,60,61,62] (fun b _ c=>([AV.pptr [az [iV q.a,iV q.i,iV q.n]] 0 0,dQ c,aW<|H.map aJ,nV H.length,nV b],[])) (fun b c d=>(H).drop b=c/\(d||c.any fun b=>bK b q)=true) (fun _ b _=>b.length) (et rfl<|by(exact ha)) fun b c d e g=>Mc c (fun b=>have c:=fN e.1 b;have:=ie (J:=fun b c=>(c||b.any fun b=>bK b q)=true) (a:=d) b e.2;Kh 0 c<|Kb 1 d (fun b=>Mp haw<|MV b<|Kf 0<|bY<|dQ true) fun b=>My b<|Ky 0<|rr0 false) fun c j k=>let l:=[iV c.a,iV c.i,iV c.n];have m:=fT e.1 k;have:=aA m;have n:=fL (enc:=aJ) e.1 k;have o:=cb (J:=fun b c=>(c||b.any fun b=>bK b q)=true) (a:=d) k e.2;Kt 0 m<|Mx n<|Kb 4 d (fun c=>Mt c<|Mt c<|MV c<|Kl 1 72 (iF b)<|K1 0 (.frz 0 [13,15,60,61,62]) ti<|Mf<|g (b+1) j true (et (bH e.1 k)<|by(rw[List.any_cons]at o;simp_all[bK];done))<|fZ k) fun d=>Kh 0 d<|Kh 0 d<|Mv (kH ((Tryz.prog).underlying 26) c.a c.i c.n q.a q.i q.n<|av [aZ 3 false 0 [az l]])<|My d<|Kl 1 72 (iF b)<|K1 0 (.frz 0 [13,15,60,61,62]) ti<|Mf<|g (b+1) j (ae c.a q.a&&(ae c.i q.i&&ae c.n q.n)) (et (bH e.1 k)<|by(rw[List.any_cons]at o;simp_all[bK];done))<|fZ k
theorem R6:kP 81 [.ls (([]:List PDeed).map aK)] (.ls (([]:List PDeed).map aK)):=by
  exact bo Tryz.func81<|Mg 1<|Mz 3 (fun(_:([]:List AV)=[])=>Kf 2 bA)<|Kf 5 (fY [] _<|by rfl:Le _ (AV.ps [] true))
theorem YM(a i y:Int):kP 121 [.ls (([]:List PDeed).map aK),SG a i y] (iV (-1)):=by
  let q:=[aW [],bQ (aT 82) [] [AV.pptr [az [iV a,iV i,iV y,iV 0,ak,ak,iV 0,iV 0,iV 0,iV 0,iV 0,iV 0,aV [],ak,ak,ak,ak,ak,aV [],aV [],iV 0,iV 0,aV [],iV 0,iV 0,iV 0,aV [],ak]] 0 0],iV 0,iV 0];exact bo Tryz.func121<|Mg 3<|Vh [0,1,7,8] (q,[]) True 0 ti fun _ _=>Kf 2<|bY<|iV (-1)
theorem Xm(a i y:Int):kP 80 [.ls (([]:List PDeed).map aK),SG a i y] (.ls (([]:List PDeed).map aK)):=by
  have hf:=YM a i y
  exact bo Tryz.func80<|Kp 2 hf<|Kf 5<|bY<|aW []
theorem Y5(gs:List PGaz)(L:List PAct)(a i:Int)(k:Nat)(ha:kP 77 [.ls (gs.map am)] (.ls (L.map ay)))(hL:L.length<2^30)(h0:cM (fun b=>ae b.number a) L 0=Int.ofNat k)(hk:k<L.length):kP 42 [.ls (([]:List PDeed).map aK),lE a i,.ls (gs.map am)] (.ls (([]:List PDeed).map aK)):=by
  have hi:=uA a i L (by omega)
  rw[h0]at hi
  have g1:aB (Int.ofNat k) 0=false:=kw (by simp only[oN];omega)
  have hc:=R6
  have hd:=Xm a i (gD L k).day
  exact bo Tryz.func42<|Kp 2 ha<|K1 2 (.frz 0 [0,4,7,12,13]) ti<|Mp hi<|Kx 9 (bJ ay (oA:k<(L).length))<|Kp 5 hc<|K1 0 (.frz 0 [28,29]) ti<|Mp hd<|Kf 0<|bY<|aW []
theorem R8:kP 113 [.ls (([]:List PDeed).map aK)] (.ls (([]:List PDeed).map aK)):=by
  exact bo Tryz.func113<|Mg 1<|Mz 3 (fun(_:([]:List AV)=[])=>Kf 2 bA)<|Kf 5 (fY [] _<|by rfl:Le _ (AV.ps [] true))
theorem YN(g:Nat)(a i y:Int):kP 153 [.ls (([]:List PDeed).map aK),oX g a i y] (iV (-1)):=by
  let q:=[aW [],bQ (aT 114) [] [AV.pptr [bQ (aT g) [] []] 0 0,AV.pptr [az [iV a,iV i,iV y,iV 0,ak,ak,iV 0,iV 0,iV 0,iV 0,iV 0,iV 0,aV [],ak,ak,ak,ak,ak,aV [],aV [],iV 0,iV 0,aV [],iV 0,iV 0,iV 0,aV [],ak]] 0 0],iV 0,iV 0];exact bo Tryz.func153<|Mg 3<|Vh [0,1,7,8] (q,[]) True 0 ti fun _ _=>Kf 2<|bY<|iV (-1)
theorem Xn(g:Nat)(a i y:Int):kP 112 [.ls (([]:List PDeed).map aK),oX g a i y] (.ls (([]:List PDeed).map aK)):=by
  have hf:=YN g a i y
  exact bo Tryz.func112<|Kp 2 hf<|Kf 5<|bY<|aW []
theorem Vw(g:Nat)(a i y:Int):kP 76 [.ls (([]:List PDeed).map aK),Bx a i y,vQ g] (.ls (([]:List PDeed).map aK)):=by
  have hc:=R8
  have hd:=Xn g a i y
  exact bo Tryz.func76<|Kp 3 hc<|K1 0 (.frz 0 [8,9]) ti<|Mp hd<|Kf 0<|bY<|aW []
def Nd(l:List PAct):Prop:=(l.map (·.number)).Nodup
theorem S4{out:List PAct}{a:PAct}(h:Nd out):Nd (jg out a):=by
  unfold jg
  cases q:gO a.number (out.map fun b=>(b.number,true))with
  |some v=>exact h
  | none=>
    unfold Nd
    rw[qQ,List.nodup_append]
    refine⟨h,by simp,fun x hx y hy=>?_⟩
    obtain⟨b,hb,rfl⟩:=jf.1 hx
    simp only[eu,wc,qX]at hy
    rw[hy];exact oh (out:=out) q b hb
theorem Fe:∀(ys out:List PAct),Nd out->Nd (ys.foldl jg out)
  |[],_,h=>h
  |_::r,_,h=>Fe r _ (S4 h)
theorem CT:∀(gs:List PGaz)(out:List PAct),Nd out->Nd (bq gs out)
  |[],_,h=>h
  |g::r,_,h=>CT r _ (Fe g.acts _ h)
theorem Ve(gs:List PGaz):(eR gs).Pairwise fun a b=>fj a b=true:=by
  have h1:=(tI jQ (bq gs []) [] .nil).2
  have h2:Nd (eR gs):=((jH gs).map _).nodup_iff.2 (CT gs [] (by simp[Nd]))
  have h3:(eR gs).Pairwise fun a b=>a.number≠b.number:=List.pairwise_map.1 h2
  refine(List.Pairwise.and h1 h3).imp fun{a b} h=>?_
  obtain⟨p,q⟩:=h
  rw[lw]
  rw[<-Bool.not_eq_true,lw]at p
  omega
def SI(d e:PDeed):Prop:=d.day<e.day\/(d.day=e.day/\(d.act<e.act\/(d.act=e.act/\d.item<e.item)))
theorem pm(a:PAct):∀(l:List PItem)(i:Nat),(b7 a l i).Pairwise SI/\∀d,d∈b7 a l i->d.act=a.number/\d.day=a.day/\Int.ofNat i<=d.item
  |[],_=>⟨.nil,fun _ h=>by cases h⟩
  | x::r,i=>by
    obtain⟨h1,h2⟩:=pm a r (i+1)
    refine⟨.cons (fun d hd=>?_) h1,fun d hd=>?_⟩
    · obtain⟨q1,q2,q3⟩:=h2 d hd
      exact .inr ⟨q2.symm,.inr ⟨q1.symm,by simp only[oN]at *;omega⟩⟩
    · rcases fk.1 hd with rfl|hd
      · exact⟨rfl,rfl,Int.le_refl _⟩
      · obtain⟨q1,q2,q3⟩:=h2 d hd
        exact⟨q1,q2,by simp only[oN]at *;omega⟩
theorem xu:∀(L:List PAct),(L.Pairwise fun a b=>fj a b=true)->(kr L).Pairwise SI
  |[],_=>.nil
  | a::r,h=>by
    cases h with
    | cons h1 h2=>
      rw[kr,E9,List.pairwise_append]
      refine⟨(pm a _ 0).1,xu r h2,fun d hd e he=>?_⟩
      obtain⟨b,hb,he⟩:=List.mem_flatMap.1 he
      have z:=(lw a b).1 (h1 b hb)
      obtain⟨p1,p2,_⟩:=(pm a _ 0).2 d hd
      obtain⟨q1,q2,_⟩:=(pm b _ 0).2 e he
      unfold SI;omega
theorem Q8(m:tv)(d:PDeed):(lO m d).act=d.act/\(lO m d).item=d.item/\(lO m d).day=d.day:=by
  unfold lO;split<;>exact⟨rfl,rfl,rfl⟩
theorem Q3(day:Int)(p:bZ)(gs:List PGaz):(lq day p gs).Pairwise SI:=by
  have h:(rY gs).Pairwise SI:=List.pairwise_map.2 ((xu _ (Ve gs)).imp fun{d e} h=>by
    have h1:=Q8 (ao (eR gs) []) d
    have h2:=Q8 (ao (eR gs) []) e
    unfold SI at *;omega)
  exact h.filter _
theorem Oz{gs:List PGaz}{a b:PAct}(ha:a∈eR gs)(hb:b∈eR gs)(e:a.number=b.number):a=b:=
  qT gs [] (fun _ _ h=>by cases h) a b ((jH gs).mem_iff.1 ha) ((jH gs).mem_iff.1 hb) e
theorem Yg(x:Int)(r:List Int):Cg (x::r)=if x=0 then Cg r else x:=by
  rw[Cg]
  cases q:ae x 0 with
  |true=>rw[if_pos (iR q)]
  |false=>rw[if_neg (C8 q)]
theorem Xr(a b:Int):gL a b=if a<b then -1 else if b<a then 1 else 0:=by
  unfold gL
  cases q:aB a b with
  |true=>rw[if_pos (aA q)]
  | false=>
    have:=aE q
    rw[if_neg (by omega)]
    cases q2:aB b a with
    |true=>rw[if_pos (aA q2)]
    |false=>have:=aE q2;rw[if_neg (by omega)]
theorem RM(d:PDeed)(a i y:Int):(d.day<y\/(d.day=y/\(d.act<a\/(d.act=a/\d.item<i)))->rq d a i y= -1)/\(d.day=y->d.act=a->d.item=i->rq d a i y=0)/\(y<d.day\/(y=d.day/\(a<d.act\/(a=d.act/\i<d.item)))->rq d a i y=1):=by
  have e:Cg []=0:=rfl
  unfold rq
  simp only[Yg,Xr,e]
  refine⟨fun h=>?_,fun h1 h2 h3=>?_,fun h=>?_⟩<;>(repeat' split)<;>omega
theorem Fi:∀(p:List PStep)(a:Int)(B:Nat),0<=a->(∀s,s∈p->s.label.length<2^47)->a+2^47*(p.length:Int)<2^63->a<=wE p a/\∀s,s∈p->(s.label.length:Int)<=wE p a
  |[],a,_,_,_,_=>⟨Int.le_refl _,fun s hs=>by cases hs⟩
  | s::r,a,B,h0,hl,hb=>by
    have h1:=hl s (e9 ..)
    rw[lC]at hb
    have e:IntKind.i64.wrap (a+Int.ofNat s.label.length)=a+(s.label.length:Int):=tu (by simp only[oN];omega) (by simp only[oN];omega)
    have ih:=Fi r (a+(s.label.length:Int)) B (by omega) (fun x hx=>hl x (fQ _ hx)) (by omega)
    rw[wE,e]
    refine⟨by omega,fun x hx=>?_⟩
    rcases fk.1 hx with rfl|hx
    · omega
    · exact ih.2 x hx
theorem Jy{gs:List PGaz}{f:bZ}{p:List PStep}(h:C3 gs f p=true)(hs:f.length<2^47)(hl:∀s,s∈p->s.label.length<2^47):Hw gs 24=true/\p.length<2^40/\∀s,s∈p->s.label.length<=2^39:=by
  unfold C3 at h
  obtain⟨h1,h2⟩:=ni.1 h
  obtain⟨h2,h3⟩:=ni.1 h2
  have h2:=aE (m5 h2)
  have h3:=aE (m5 h3)
  simp only[oN]at h2 h3
  have z:=Fi p (f.length:Int) 0 (by omega) hl (by omega)
  exact⟨h1,by omega,fun s hs=>by have:=z.2 s hs;omega⟩
theorem RH{P:PDeed->Bool}(hP:∀d e,SI d e->P e=true->P d=true):∀{X:List PDeed},X.Pairwise SI->∃m,m<=X.length/\(∀k,k<m->P (gD X k)=true)/\∀k,m<=k->k<X.length->P (gD X k)=false
  |[],_=>⟨0,ah _,fun k h=>absurd h (np _),fun k _ h=>absurd h (np _)⟩
  | d::r,h=>by
    obtain⟨p1,p2⟩:=j9.1 h
    obtain⟨m,m1,m2,m3⟩:=RH hP p2
    have e0:gD (d::r) 0=d:=rfl
    have e1:∀k,gD (d::r) (k+1)=gD r k:=fun k=>rfl
    cases q:P d with
    | true=>
      refine⟨m+1,Nat.succ_le_succ m1,fun k hk=>?_,fun k h1 h2=>?_⟩
      · cases k with
        |zero=>exact q
        |succ k=>exact m2 k (Nat.lt_of_succ_lt_succ hk)
      · cases k with
        |zero=>omega
        |succ k=>exact m3 k (Nat.le_of_succ_le_succ h1) (Nat.lt_of_succ_lt_succ h2)
    | false=>
      refine⟨0,bD _,fun k h=>absurd h (np _),fun k _ h2=>?_⟩
      cases k with
      |zero=>exact q
      | succ k=>
        cases w:P (gD (d::r) (k+1))with
        |false=>rfl
        | true=>
          have hm:gD r k∈r:=ig (Nat.lt_of_succ_lt_succ h2)
          have:=hP d (gD r k) (p1 _ hm) w
          rw[q]at this;cases this
theorem SU(a i y:Int)(d e:PDeed)(h:SI d e)(he:aB (rq e a i y) 0=true):aB (rq d a i y) 0=true:=by
  have z:=aA he
  obtain⟨v1,v2,v3⟩:=RM e a i y
  obtain⟨u1,u2,u3⟩:=RM d a i y
  have hb:e.day<y\/(e.day=y/\(e.act<a\/(e.act=a/\e.item<i))):=by
    by_cases c1:e.day<y\/(e.day=y/\(e.act<a\/(e.act=a/\e.item<i)))
    · exact c1
    · by_cases c2:e.day=y/\e.act=a/\e.item=i
      · rw[v2 c2.1 c2.2.1 c2.2.2]at z;omega
      · rw[v3 (by omega)]at z;omega
  unfold SI at h
  rw[u1 (by omega)]
  rfl
structure CutX(X:List PDeed)(a i y:Int)(m:Nat):Prop where
  le:m<=X.length
  lo:∀k,k<m->aB (rq (gD X k) a i y) 0=true
  hi:∀k,m<=k->k<X.length->aB (rq (gD X k) a i y) 0=false
theorem Qs{a:Int}:∀{L:List PAct}{n:Nat},aB (cM (fun b=>ae b.number a) L n) 0=true->∀b,b∈L->ae b.number a=false
  |[],_,_,b,hb=>by cases hb
  | c::r,n,h,b,hb=>by
    rw[kc]at h
    have h:=m5 h
    cases q:ae b.number a with
    |false=>rfl
    |true=>exact absurd q (List.any_eq_false.1 h b hb)
theorem GM{a:Int}:∀(L:List PAct)(n:Nat),aB (cM (fun b=>ae b.number a) L n) 0=false->∃k,cM (fun b=>ae b.number a) L n=Int.ofNat (n+k)/\k<L.length/\(gD L k).number=a
  |[],n,h=>by cases h
  | c::r,n,h=>by
    unfold cM at h ⊢
    cases q:ae c.number a with
    |true=>exact⟨0,rfl,ym _,iR q⟩
    | false=>
      rw[q]at h
      obtain⟨k,h1,h2,h3⟩:=GM r (n+1) h
      exact⟨k+1,by rw[show n+(k+1)=n+1+k by omega];exact h1,Nat.succ_lt_succ h2,h3⟩
end Go.Proofs.YtdhkhecalpkngaaGreatDoor
