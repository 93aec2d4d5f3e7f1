/- Functions walked: what each of them answers, for Every change day is a breakpoint, both lists rise, and Next enumerates the change days: part 2. Conditions: those that each theorem names. -/
import Derived.Test.YtaepacpodblomaaGreatDoorH1
namespace Go.Proofs.YtaepacpodblomaaGreatDoor
open Go Go.Ev
theorem Uq(u:TUnit)(hb:kg []=true):kP 204 [eU u,.ls (([]:List PStep).map az)] (.ls ((dS u []).map aK)):=by
  have hv:=uL [] (by simp) (fun s h=>by grind)
  rw[GH hb]
  have rr0 b' (h:(List.map aK [u])=b':=by(rw[eD,aT];rfl)):=h;let q:=[ab [iV u.act,iV u.item,iV u.n,iV u.kind,ax u.label,aW (u.head.map aQ),aW (u.words.map aQ),aW (u.kids.map aK)]];exact bH Tryz.func204<|Kp 3 hv<|Kf 10 (Le.lsp (rr0 q)<|by rfl:Le _ (AV.ps q true))
def GM(u:TUnit)(s:PStep)(rs:List PStep)(z1000:List TUnit):Prop:=dS u (s::rs)=gk rs z1000∧eW z1000≤2^22
noncomputable def GL(u:TUnit)(s:PStep)(rs:List PStep)(z1000:List TUnit):List AV×List AObj:=([AV.ptr 0 0 0 0,AV.ptr 1 0 0 0],[AObj.row 1 false 0 [AV.ls ((s::rs).map az)],AObj.row 1 false 0 [AV.ls (z1000.map aK)]])
theorem QS(u:TUnit)(s:PStep)(rs:List PStep)(hn:nU u≤2^11)(hl:(s::rs).length<2^40)(hs:∀x,x∈s::rs→x.label.length≤2^39):kP 204 [eU u,.ls ((s::rs).map az)] (.ls ((dS u (s::rs)).map aK)):=by
  have hv:=uL (s::rs) hl hs
  have hk:=HO s
  have hpb:=F5 s u fun x hx=>dM hx
  have hpm:nU u*nU u≤2^11*2^11:=Nat.mul_le_mul hn hn
  have hd:((s::rs).drop 1).length=rs.length:=rfl
  have rr0 b' (h:((dS u (s::rs)).map aK)=b':=by first|rfl|(rw[JJ ‹_›];rfl)|(rw[hj0.1,Iz])):=h;exact bH Tryz.func204<|Kp 3 hv<|Kn 0 (kg<|s::rs) (fun _=>Kf 0 (Le.lsn<|rr0 []:Le _ (af))) fun _=>Mg 0<|Mj (List TUnit) [3,5] (GL u s rs) (GM u s rs) (fun a=>Kl 1 21 (ln az<|s::rs)<|Kp 5 hk<|Kb 0 (ah s.kind 0&&eJ s.label []) (fun _=>Kl 1 31 (Le.lsp (t:=true) (Eq.symm<|TA (f:=aK) (g:=Go.Ev.eU) (ws:=[u]) aT) (aU 0:aq ([ab [iV u.act,iV u.item,iV u.n,iV u.kind,ax u.label,aW (u.head.map aQ),aW (u.words.map aQ),aW (u.kids.map aK)]])=0))<|Mg 0<|M0 (.ren [1,2,0] [] [3,5])<|M1 (.frz 2 [3,5]) (ce rt rt ti)<|Mf<|a [u] (by exact⟨GI (by omega) (by assumption),by grind[bf,l0]⟩:dS u (s::rs)=gk rs [u]∧eW [u]≤2^22)) fun _=>Mg 1<|M0 (.ren [1,2,0] [] [3,5,16,17])<|M1 (.frz 2 [3,5,16,17]) (ce rt rt ti)<|Ms (lQ s u).isEmpty (fun b=>Me (Hz s rs u oA b)<|M1 (.obw 1<|aW []) (WQ bI rfl rfl)<|Mf<|a [] (by exact⟨by rw[wM (by omega) (by assumption),List.isEmpty_iff.1 b],by grind⟩:dS u (s::rs)=gk rs []∧eW []≤2^22)) fun b=>Mq (Rk s rs u oA b) fun b c=>M2 (.fzo 1 2 [3,5]<|b.2.2.map aK) (ce rt rt ti) (ce (aU b.1) (tA aK b.2.2 b.2.1 (oA:(b.2.2).length=b.2.1))<|aX iQ b.2.2)<|Mf<|a b.2.2 (by exact⟨by rw[wM (by omega) (by assumption),c.2],by grind⟩:dS u (s::rs)=gk rs b.2.2∧eW b.2.2≤2^22)) fun a b=>have:dS u (s::rs)=gk rs a∧eW a≤2^22:=b;K1 0 (.slp<|((s::rs).drop 1).map az) (ce (hM 2 az (s::rs) fun _=>rfl) (et (sA:1≤((s::rs).map az).length) (oA:((s::rs).map az).length≤((s::rs).map az).length))<|XI (f:=az) (l:=s::rs) (k:=1))<|Kl 0 34 (ln az<|List.drop 1<|s::rs)<|Mg 0<|M0 (.ren [1,0] [] [5,33,34,35])<|M1 (.frz 1 [5,33,34,35]) (et rt ti)<|H0 az (List.drop 1<|s::rs) a [5,33,34,35] (fun a _ b=>([bz 0 0 0 0,aW<|((s::rs).drop 1).map az,nV ((s::rs).drop 1).length,nV a],[aZ 1 false 0 [aW<|b.map aK]])) (fun a b=>dS u (s::rs)=gk a b∧eW b≤2^22) sA (fun _ _ a _ _ _ b hj0=>Kh 0 b<|Kf 1<|cW<|rr0<|a.map aK) fun a _ b _ _ c d e _ f _ g hj0=>have:b.length≤eW b:=xM _;Kt 0 f<|Mx g<|Kl 5 40 (ln aK b)<|Mg 0<|kh Nat Nat (List TUnit) aK b [5,7,8,33,34,35,39,40,41] (fun d _=>([bz 0 0 0 0,bz 1 0 0 0,af,aW<|((s::rs).drop 1).map az,nV ((s::rs).drop 1).length,nV a,aW<|b.map aK,nV b.length,nV d],[aZ 1 false 0 [aW<|b.map aK],aZ 2 false 0 [ab [iV c.kind,ax c.label]]])) (fun d _ e f g=>([bz 0 0 0 0,bz 1 0 0 0,aM 2 e 0 f none,aW<|((s::rs).drop 1).map az,nV ((s::rs).drop 1).length,nV a,aW<|b.map aK,nV b.length,nV d],[aZ 1 false 0 [aW<|b.map aK],aZ 2 false 0 [ab [iV c.kind,ax c.label]],aZ 8 true e<|g.map aK])) (fun a=>cn c a=cn c b) (fun a _ d e=>d=e.length∧e++cn c a=cn c b∧e.length+eW a<2^30) (by rfl) (fun _ _ _ _ _ b c=>Kh 0 b<|Kl 0 61 bI<|Kl 1 62 (dV a)<|K1 0 (.frz 1 [5,33,34,35]) (et rt ti)<|Mf<|e []<|by exact fA hj0 c) (fun d _ e f g i j k l n _ o _=>have p:=(o).trans<|congrArg some<|aT g;have:=cq (J:=fun a _=>cn c a=cn c b) (a:=()) l f;have:nU g+eW i≤eW b:=oB e l;have:g.kids.length<nU g:=bd g;have:nU g=1+eW g.kids:=iT g;Kt 0 n<|Mx p<|Kl 5 47 (ln aK g.kids)<|K1 0 (.frz 2 [5,7,8,33,34,35,39,40,41,46,47,48]) (ce rt rt ti)<|kh Nat Nat (List TUnit) aK g.kids [5,7,8,33,34,35,39,40,41,46,47,48] (fun e _=>([bz 0 0 0 0,bz 1 0 0 0,af,aW<|((s::rs).drop 1).map az,nV ((s::rs).drop 1).length,nV a,aW<|b.map aK,nV b.length,nV d,aW<|g.kids.map aK,nV g.kids.length,nV e],[aZ 1 false 0 [aW<|b.map aK],aZ 2 false 0 [ab [iV c.kind,ax c.label]]])) (fun e _ f i j=>([bz 0 0 0 0,bz 1 0 0 0,aM 2 f 0 i none,aW<|((s::rs).drop 1).map az,nV ((s::rs).drop 1).length,nV a,aW<|b.map aK,nV b.length,nV d,aW<|g.kids.map aK,nV g.kids.length,nV e],[aZ 1 false 0 [aW<|b.map aK],aZ 2 false 0 [ab [iV c.kind,ax c.label]],aZ 8 true f<|j.map aK])) (fun a=>List.filter (bC c) a++cn c i=cn c b) (fun a _ d e=>d=e.length∧e++(List.filter (bC c) a++cn c i)=cn c b∧e.length+(eW a+eW i)<2^30) (by simp_all[gA]) (fun _ _ _ _ _ a _=>Kh 0 a<|Kl 0 60 (dV d)<|Kf 0<|j sA) (fun a _ d e f j k l n p _ o _=>have o:=(o).trans<|congrArg some<|aT f;have:=cq (J:=fun a _=>List.filter (bC c) a++cn c i=cn c b) (a:=()) n e;have:nU f+eW j≤eW g.kids:=oB d n;Kt 0 p<|Mx o<|Kp 4 (kH f c)<|Mb (bC c f) (fun _=>K1 3 (.obj 3<|aZ 8 true 0<|List.map aK [f]) (congrArg (aZ 8 true 0)<|TA (f:=aK) (g:=Go.Ev.eU) (ws:=[f]) aT)<|Kl 1 59 (dV a)<|K1 0 (.ren [0,1,3,2] [3] [5,7,8,33,34,35,39,40,41,46,47,48]) (tS 8 true 0<|aX iQ [f])<|M1 (.frz 3 [5,7,8,33,34,35,39,40,41,46,47,48]) (jQ (tR 8 true 0 3<|aX iQ [f]) rt rt ti)<|Mf<|l 0 1 [f] gR) fun _=>Kl 0 59 (dV a)<|K1 0 (.frz 2 [5,7,8,33,34,35,39,40,41,46,47,48]) (ce rt rt ti)<|Mf<|k sA) (fun _ _ a e f _ _ _ g _=>Kh 0 g<|Kl 0 60 (dV d)<|Kf 0<|k a e f gR) fun a _ d e f j k l n _ p q r _ o _=>have o:=(o).trans<|congrArg some<|aT l;have k:=cq (J:=fun a d=>d.2.1=d.2.2.length∧d.2.2++(List.filter (bC c) a++cn c i)=cn c b∧d.2.2.length+(eW a+eW i)<2^30) (a:=(d,e,f)) q k;have:nU l+eW n≤eW g.kids:=oB j q;Kt 0 r<|Mx o<|Kp 4 (kH l c)<|Mb (bC c l) (fun _=>K1 2 .app (ce (aU d) (sA:e=(f.map aK).length) (by(refine aN (m:=2^31) ?_ ?_ ?_<;>omega):small (e+1) 120=true))<|M1 (.obj 2<|aZ 8 true (d+1)<|(f++[l]).map aK) (congrArg (aZ 8 true<|d+1)<|xP (f:=aK) (g:=Go.Ev.eU) (l:=f) (ws:=[l]) aT)<|Kl 1 59 (dV a)<|K1 0 (.frz 3 [5,7,8,33,34,35,39,40,41,46,47,48]) (jQ (tR 8 true (d+1) 3<|aX iQ<|f++[l]) rt rt ti)<|Mf<|p (d+1) (e+1) (f++[l])<|by exact Z0 k (by omega)) fun _=>Kl 0 59 (dV a)<|K1 0 (.frz 3 [5,7,8,33,34,35,39,40,41,46,47,48]) (jQ (tR 8 true d 3<|aX iQ f) rt rt ti)<|Mf<|p d e f<|by exact Z1 k (by omega)) (fun _ _ b c f _ _ _ g i=>let j:=List.map aK f;Kh 0 g<|Mg 0<|M2 (.fsl 2 [5,33,34,35] 61 j) (ce rt rt ti) (ce (aU b) (tA aK f c (oA:(f).length=c))<|aX iQ f)<|Ml 61 (fg j false<|aX iQ f)<|Kl 1 62 (dV a)<|K1 0 (.frz 1 [5,33,34,35]) (et rt ti)<|Mf<|e f<|by exact fB hj0 i.2.1) fun d _ e f g i j k l _ n o p _ q _=>have r:=(q).trans<|congrArg some<|aT k;have j:=cq (J:=fun a d=>d.2.1=d.2.2.length∧d.2.2++cn c a=cn c b∧d.2.2.length+eW a<2^30) (a:=(e,f,g)) o j;have:nU k+eW l≤eW b:=oB i o;have:k.kids.length<nU k:=bd k;have:nU k=1+eW k.kids:=iT k;Kt 0 p<|Mx r<|Kl 5 47 (ln aK k.kids)<|K1 0 (.frz 3 [5,7,8,33,34,35,39,40,41,46,47,48]) (jQ (tR 8 true e 3<|aX iQ g) rt rt ti)<|U8 aK k.kids e f g [5,7,8,33,34,35,39,40,41,46,47,48] (fun e _ f g i=>([bz 0 0 0 0,bz 1 0 0 0,aM 2 f 0 g none,aW<|((s::rs).drop 1).map az,nV ((s::rs).drop 1).length,nV a,aW<|b.map aK,nV b.length,nV d,aW<|k.kids.map aK,nV k.kids.length,nV e],[aZ 1 false 0 [aW<|b.map aK],aZ 2 false 0 [ab [iV c.kind,ax c.label]],aZ 8 true f<|i.map aK])) (fun a _ d e=>d=e.length∧e++(List.filter (bC c) a++cn c l)=cn c b∧e.length+(eW a+eW l)<2^30) (by(exact gB j)) (fun _ _ a e f _ _ _ g _=>Kh 0 g<|Kl 0 60 (dV d)<|Kf 0<|n a e f gR) fun a _ d e f g i j n o p r _ q _=>have q:=(q).trans<|congrArg some<|aT j;have i:=cq (J:=fun a d=>d.2.1=d.2.2.length∧d.2.2++(List.filter (bC c) a++cn c l)=cn c b∧d.2.2.length+(eW a+eW l)<2^30) (a:=(d,e,f)) p i;have:nU j+eW n≤eW k.kids:=oB g p;Kt 0 r<|Mx q<|Kp 4 (kH j c)<|Mb (bC c j) (fun _=>K1 2 .app (ce (aU d) (sA:e=(f.map aK).length) (by(refine aN (m:=2^31) ?_ ?_ ?_<;>omega):small (e+1) 120=true))<|M1 (.obj 2<|aZ 8 true (d+1)<|(f++[j]).map aK) (congrArg (aZ 8 true<|d+1)<|xP (f:=aK) (g:=Go.Ev.eU) (l:=f) (ws:=[j]) aT)<|Kl 1 59 (dV a)<|K1 0 (.frz 3 [5,7,8,33,34,35,39,40,41,46,47,48]) (jQ (tR 8 true (d+1) 3<|aX iQ<|f++[j]) rt rt ti)<|Mf<|o (d+1) (e+1) (f++[j])<|by exact Z0 i (by omega)) fun _=>Kl 0 59 (dV a)<|K1 0 (.frz 3 [5,7,8,33,34,35,39,40,41,46,47,48]) (jQ (tR 8 true d 3<|aX iQ f) rt rt ti)<|Mf<|o d e f<|by exact Z1 i (by omega)
theorem UU(u:TUnit)(p:List PStep)(hn:nU u≤2^11)(hl:p.length<2^40)(hs:∀x,x∈p→x.label.length≤2^39):kP 204 [eU u,.ls (p.map az)] (.ls ((dS u p).map aK)):=by
  cases p with
  |nil=>exact Uq u rfl
  |cons s rs=>grind[QS]
theorem Nu(u:TUnit)(p:List PStep)(L:List TUnit)(hf:kP 204 [eU u,.ls (p.map az)] (.ls (L.map aK)))(hL:L.length≤2^22):kP 140 [eU u,.ls (p.map az)] (.ls ((L.map bj).map aV)):=by
  have rr0 b' (h:((L.map bj).map aV)=b':=by first|rfl|(rw[←hj0];rfl)|(rw[←hj0.2.2.1];simp)):=h;exact bH Tryz.func140<|Kp 4 hf<|Kl 0 11 (ln aK L)<|K1 0 (.frz 0 [5,10,11,12]) ti<|kh Nat Nat (List PId) aK L [5,10,11,12] (fun a _=>([af,aW<|L.map aK,nV L.length,nV a],[])) (fun a _ b c d=>([aM 0 b 0 c none,aW<|L.map aK,nV L.length,nV a],[aZ 3 true b<|d.map aV])) (fun a=>a=L) (fun a _ b c=>b=c.length∧(0:Nat)<c.length∧c++List.map bj a=List.map bj L∧c.length+a.length=L.length) (by rfl) (fun _ _ _ _ _ a hj0=>Kh 0 a<|Kf 1 (Le.lsn<|rr0 []:Le _ (af))) (fun a _ _ b c d _ e f g _ i _=>have i:=(i).trans<|congrArg some<|aT c;have hj0:=cq (J:=fun a _=>a=L) (a:=()) f b;Kt 0 g<|Mx i<|Kl 9 21 (jU a)<|Mg 0<|M0 (.ren [1,0] [] [5,10,11,12])<|M1 (.frz 1 [5,10,11,12]) (et rt ti)<|Mf<|e 0 1 [PId.mk c.act c.item c.n]<|by(refine⟨rfl,by simp,?_,?_⟩<;>(rw[←hj0])<;>(first|rfl|grind))) (fun _ _ a b c _ _ _ d hj0=>Kh 0 d<|Mg 1<|M2 (.fsl 0 [] 4<|c.map aV) ti (ce (aU a) (tA aV c b (oA:(c).length=b))<|aX Jb c)<|Ml 4 (fg (c.map aV) false<|aX Jb c)<|Mf<|cW<|rr0<|c.map aV) fun a _ b c d _ e f g _ i j k _ l _=>have l:=(l).trans<|congrArg some<|aT f;have hj0:=cq (J:=fun a b=>b.2.1=b.2.2.length∧(0:Nat)<b.2.2.length∧b.2.2++List.map bj a=List.map bj L∧b.2.2.length+a.length=L.length) (a:=(b,c,d)) j e;Kt 0 k<|Mx l<|K1 6 .app (ce (aU b) (sA:c=(d.map aV).length) (by(refine aN (m:=2^25) ?_ ?_ ?_<;>omega):small (c+1) 24=true))<|M1 (.obj 0<|aZ 3 true (b+1)<|(d++[PId.mk f.act f.item f.n]).map aV) (congrArg (aZ 3 true<|b+1)<|dQ (f:=aV) (l:=d) (ws:=[PId.mk f.act f.item f.n]))<|Kl 1 21 (jU a)<|K1 0 (.frz 1 [5,10,11,12]) (et (tR 3 true (b+1) 1<|aX Jb<|d++[PId.mk f.act f.item f.n]) ti)<|Mf<|i (b+1) (c+1) (d++[PId.mk f.act f.item f.n])<|by(refine⟨by simp_all,by simp,?_,?_⟩<;>first|(rw[←hj0.2.2.1,eD,nH];rfl)|(rw[←hj0.2.2.1];simp;done)|grind)
theorem Nr(u:TUnit)(p:List PStep)(hf:kP 140 [eU u,.ls (p.map az)] (.ls (([]:List PId).map aV))):kP 107 [eU u,.ls (p.map az)] (.tuple [aV bT,iV 7]):=by
  exact bH Tryz.func107<|Kp 4 hf<|Kf 8<|bi<|bO [ab [iV 0,iV 0,iV 0],iV 7]
theorem Nt(u x:TUnit)(p:List PStep)(hf:kP 140 [eU u,.ls (p.map az)] (.ls ([bj x].map aV))):kP 107 [eU u,.ls (p.map az)] (.tuple [aV (bj x),iV 0]):=by
  exact bH Tryz.func107<|Kp 4 hf<|Kf 13<|bi<|bO [ab [iV (bj x).a,iV (bj x).i,iV (bj x).n],iV 0]
theorem Ns(u:TUnit)(p:List PStep)(a b:PId)(r:List PId)(hf:kP 140 [eU u,.ls (p.map az)] (.ls ((a::b::r).map aV))):kP 107 [eU u,.ls (p.map az)] (.tuple [aV bT,iV 8]):=by
  have q1:ah (Int.ofNat (r.length+1+1)) 0=false:=rfl
  have q2:ah (Int.ofNat (r.length+1+1)) 1=false:=rfl
  exact bH Tryz.func107<|Kp 4 hf<|Kl 2 11 (ln aV<|a::b::r)<|Kf 8<|bi<|bO [ab [iV 0,iV 0,iV 0],iV 8]
/-- The way of an address, whatever it finds. -/
theorem Np(u:TUnit)(p:List PStep)(hf:kP 204 [eU u,.ls (p.map az)] (.ls ((dS u p).map aK)))(hn:nU u≤2^11):kP 107 [eU u,.ls (p.map az)] (.tuple [aV (aF u p).1,iV (aF u p).2]):=by
  have ha:=Nu u p (dS u p) hf (JW p hn)
  cases e:dS u p with
  |nil=>grind[GT,Nr]
  | cons x r=>
    cases r with
    |nil=>grind[GS,Nt]
    |cons y r=>grind[GR,Ns]
noncomputable abbrev zU:AV:=.agg [iV 0,iV 0,iV 0,iV 0,.str [],.nils,.nils,.nils]
noncomputable abbrev dF(xs:List AV):AObj:=.row 8 false 0 xs
theorem Uh{L Z:List AV}{n i:Nat}(hn:L.length=n)(hi:i<n):((L++Z).drop (i+1)).take (n-(i+1))=L.drop (i+1):=by
  grind
theorem Ui{L Z:List AV}{n i:Nat}(hn:L.length=n)(hi:i<n):bL (L++Z) (0+i) (L.drop (i+1))=L.eraseIdx i++(L.drop (n-1)++Z):=by
  unfold bL
  grind
theorem Ej{L Z:List AV}{z:AV}{n i:Nat}(hn:L.length=n)(hi:i<n):bL (L.eraseIdx i++(L.drop (n-1)++Z)) (n-1) (List.replicate 1 z)=L.eraseIdx i++(z::Z):=by
  unfold bL
  have h1:(L.eraseIdx i).length=n-1:=by grind
  have h2:(L.drop (n-1)).length=1:=by grind
  grind
theorem YX{a b:Nat}(h:a≠b):ah (Int.ofNat a) (Int.ofNat b)=false:=by
  grind[rj]
theorem Re(L Z:List AV)(n k i:Nat)(hi:i+1<n)(hn:L.length=n)(hs:n≤2^20)(hf:dC 8 L=true)(hZ:Z.length=k)(hT:aq (L++Z)=0):kD 228 [.slice 0 0 0 n (some (n+k)),nV i,nV (i+1)] (av [dF (L++Z)]) (.slice 0 0 0 (n-1) (some (n+k))) (av [dF (L.eraseIdx i++(zU::Z))]):=by
  have hq:ah (Int.ofNat i) (Int.ofNat (i+1))=false:=YX (by omega)
  let q:=AHeap.mk 1000000 (bB (av [aZ 8 false 0 (L++Z)]) ([0]) Tr.nil);let q1:=av [aZ 8 false 0 (L.eraseIdx i++(L.drop (n-1)++Z))];let q2:=av [aZ 8 false 0 (L++Z)];let q3:=(some (aM 0 0 0 n (some (n+k))));let q4:=aM 0 0 (i+1) (n-(i+1)) (some (n+k-(i+1)));let q5:=(some (nV (i+1)));let q6:=(some (nV i));let q7:=(some (nV n));let q8:=AHeap.mk 1 (bB q2 ([0,0]) Tr.nil);let q9:=aM 0 0 0 (n-1) (some (n+k));let q10:=aM 0 0 (n-1) 1 (some (k+1));let q11:=aM 0 0 0 i (some (n+k));exact eV Tryz.func228 fun a=>Ko 5 (by exact Dw (xs:=L++Z) (l:=i) (h:=i+1) (m:=n) (by kernel_rfl) (by rfl) (by rfl) (by rfl) (by omega) (by omega) (by omega) (by omega) (by omega) (by omega) (by omega):bv q2 (dU (8) q2 q3 q6 q5 q7)=some (ARes.val (AV.slice 0 0 i 1 (some (n-i))) q2))<|Kh 2 hq<|Kv 4 (by exact iU (xs:=L++Z) (l:=0) (h:=i) (by kernel_rfl) (by rfl) (by rfl) (by omega) (by omega) (by omega) (by omega) (by omega) (by omega):bv (q) (dU (8) (q) q3 (none) q6 (none))=some (ARes.val q11 q))<|Kv 1 (by exact iU (xs:=L++Z) (l:=i+1) (h:=n) (by kernel_rfl) (by rfl) (by rfl) (by omega) (by omega) (by omega) (by omega) (by omega) (by omega):bv (q) (dU (8) (q) q3 q5 (none) (none))=some (ARes.val q4 q))<|Md rt (gS (tR 8 false 0 1 (oA:aq (L++Z)=0))<|gS (tR 8 false 0 1 (oA:aq (L++Z)=0)) rt) (by exact LM (new:=L.drop (i+1)) rfl (yC rfl (Uh hn (by omega))) (rx hf) (fun e=>by have:=congrArg List.length e;grind) (by grind) (by grind) (aN (m:=2^20) (by grind) (by omega) (by omega)) (by grind) (Ui hn (by omega)):fX (dW (8) (120) (q8) ((some q11)) ((some q4)))=some (ARes.val q9 (AHeap.put q8 0 (AObj.row 8 false 0 (L.eraseIdx i++(L.drop (n-1)++Z))))))<|Ko 4 (by exact iU (xs:=L.eraseIdx i++(L.drop (n-1)++Z)) (l:=n-1) (h:=n) (by kernel_rfl) (by rfl) (by rfl) (by omega) (by omega) (by omega) (by omega) (by omega) (by omega):bv q1 (dU (8) q1 ((some q9)) ((some (nV (n-1)))) q7 (none))=some (ARes.val q10 q1))<|Mo (by exact Jh rfl (by kernel_rfl) (Ej hn (by omega)):fX (vG (8) (AV.agg [iV 0,iV 0,iV 0,iV 0,AV.str [],AV.nils,AV.nils,AV.nils]) q1 ((some q10)))=some (ARes.val (AV.tuple []) (av [AObj.row 8 false 0 (L.eraseIdx i++zU::Z)])))<|Kf 1 a
theorem Rd(L Z:List AV)(k i:Nat)(hn:L.length=i+1)(hs:i<2^20)(hk:0<k)(hZ:Z.length=k)(hT:aq (L++Z)=0):kD 228 [.slice 0 0 0 (i+1) (some (i+1+k)),nV i,nV (i+1)] (av [dF (L++Z)]) (.slice 0 0 0 i (some (i+1+k))) (av [dF (L.eraseIdx i++(zU::Z))]):=by
  have hq:ah (Int.ofNat i) (Int.ofNat (i+1))=false:=YX (by omega)
  have hr:L.eraseIdx i++(L.drop (i+1-1)++Z)=L++Z:=by
    rw[Oc,EN (by omega),ec,←nH,show i+1-1=i from rfl,JH]
  have hc:bL (L++Z) i (List.replicate 1 zU)=L.eraseIdx i++(zU::Z):=by
    have h:=Ej (z:=zU) (Z:=Z) hn (show i<i+1 by omega)
    grind
  let q:=av [aZ 8 false 0 (L++Z)];let q1:=AHeap.mk 1000000 (bB q ([0]) Tr.nil);let q2:=(some (nV (i+1)));let q3:=aM 0 0 0 i (some (i+1+k));let q4:=(some (aM 0 0 0 (i+1) (some (i+1+k))));let q5:=(some (nV i));let q6:=AHeap.mk 1 (bB q ([0,0]) Tr.nil);let q7:=aM 0 0 (i+1) 0 (some k);let q8:=aM 0 0 i 1 (some (k+1));exact eV Tryz.func228 fun a=>Ko 5 (by exact Dw (xs:=L++Z) (l:=i) (h:=i+1) (m:=i+1) (by kernel_rfl) (by rfl) (by rfl) (by rfl) (by omega) (by omega) (by omega) (by omega) (by omega) (by omega) (by omega):bv q (dU (8) q q4 q5 q2 q2)=some (ARes.val (AV.slice 0 0 i 1 (some 1)) q))<|Kh 2 hq<|Kv 4 (by exact iU (xs:=L++Z) (l:=0) (h:=i) (by kernel_rfl) (by rfl) (by rfl) (by omega) (by omega) (by omega) (by omega) (by omega) (by omega):bv (q1) (dU (8) (q1) q4 (none) q5 (none))=some (ARes.val q3 q1))<|Kv 1 (by exact iU (xs:=L++Z) (l:=i+1) (h:=i+1) (by kernel_rfl) (by rfl) (by rfl) (by omega) (by omega) (by omega) (by omega) (by omega) (by omega):bv (q1) (dU (8) (q1) q4 q2 (none) (none))=some (ARes.val q7 q1))<|Md rt (gS (tR 8 false 0 1 (oA:aq (L++Z)=0))<|gS (tR 8 false 0 1 (oA:aq (L++Z)=0)) rt) (by exact SQ (yC rfl List.take_zero):fX (dW (8) (120) (q6) ((some q3)) ((some q7)))=some (ARes.val q3 q6))<|Ko 4 (by exact iU (xs:=L++Z) (l:=i) (h:=i+1) (by kernel_rfl) (by rfl) (by rfl) (by omega) (by omega) (by omega) (by omega) (by omega) (by omega):bv q (dU (8) q ((some q3)) q5 q2 (none))=some (ARes.val q8 q))<|Mo (by exact Jh rfl (by kernel_rfl) hc:fX (vG (8) (AV.agg [iV 0,iV 0,iV 0,iV 0,AV.str [],AV.nils,AV.nils,AV.nils]) q ((some q8)))=some (ARes.val (AV.tuple []) (av [AObj.row 8 false 0 (L.eraseIdx i++zU::Z)])))<|Kf 1 a
theorem Rc(L:List AV)(i:Nat)(hn:L.length=i+1)(hs:i<2^20)(hT:aq L=0):kD 228 [.slice 0 0 0 (i+1) (some (i+1)),nV i,nV (i+1)] (av [dF L]) (.slice 0 0 0 i (some (i+1))) (av [dF (L.eraseIdx i++[zU])]):=by
  have hq:ah (Int.ofNat i) (Int.ofNat (i+1))=false:=YX (by omega)
  have hr:L.eraseIdx i++(L.drop (i+1-1)++[])=L:=by
    rw[Oc,EN (by omega),ec,ec,show i+1-1=i from rfl,JH]
  have hc:bL L i (List.replicate 1 zU)=L.eraseIdx i++[zU]:=by
    have h:=Ej (z:=zU) (Z:=[]) hn (show i<i+1 by omega)
    grind
  let q:=av [aZ 8 false 0 L];let q1:=AHeap.mk 1000000 (bB q ([0]) Tr.nil);let q2:=(some (nV (i+1)));let q3:=aM 0 0 0 i (some (i+1));let q4:=(some (aM 0 0 0 (i+1) (some (i+1))));let q5:=(some (nV i));let q6:=aM 0 0 i 1 (some 1);let q7:=AHeap.mk 1 (bB q ([0,0]) Tr.nil);let q8:=aM 0 0 0 0 (some 0);exact eV Tryz.func228 fun a=>Ko 5 (by exact Dw (xs:=L) (l:=i) (h:=i+1) (m:=i+1) (by kernel_rfl) (by rfl) (by rfl) (by rfl) (by omega) (by omega) (by omega) (by omega) (by omega) (by omega) (by omega):bv q (dU (8) q q4 q5 q2 q2)=some (ARes.val q6 q))<|Kh 2 hq<|Kv 4 (by exact iU (xs:=L) (l:=0) (h:=i) (by kernel_rfl) (by rfl) (by rfl) (by omega) (by omega) (by omega) (by omega) (by omega) (by omega):bv (q1) (dU (8) (q1) q4 (none) q5 (none))=some (ARes.val q3 q1))<|Kv 1 (by exact KZ (xs:=L) (l:=i+1) (h:=i+1) (by kernel_rfl) (by rfl) (by rfl) (by rfl) rfl:bv (q1) (dU (8) (q1) q4 q2 (none) (none))=some (ARes.val q8 q1))<|Md rt (gS (tR 8 false 0 1 (oA:aq (L)=0))<|gS (tR 8 false 0 1 (oA:aq (L)=0)) rt) (by exact SQ (yC rfl List.take_zero):fX (dW (8) (120) (q7) ((some q3)) ((some q8)))=some (ARes.val q3 q7))<|Ko 4 (by exact iU (xs:=L) (l:=i) (h:=i+1) (by kernel_rfl) (by rfl) (by rfl) (by omega) (by omega) (by omega) (by omega) (by omega) (by omega):bv q (dU (8) q ((some q3)) q5 q2 (none))=some (ARes.val q6 q))<|Mo (by exact Jh rfl (by kernel_rfl) hc:fX (vG (8) (AV.agg [iV 0,iV 0,iV 0,iV 0,AV.str [],AV.nils,AV.nils,AV.nils]) q ((some q6)))=some (ARes.val (AV.tuple []) (av [AObj.row 8 false 0 (L.eraseIdx i++[zU])])))<|Kf 1 a
theorem Rb(L Z:List AV)(n i:Nat)(hi:i<n)(hn:L.length=n)(hs:n≤2^20)(hf:dC 8 L=true)(hT:aq (L++Z)=0):kD 228 [.slice 0 0 0 n (some (n+Z.length)),nV i,nV (i+1)] (av [dF (L++Z)]) (.slice 0 0 0 (n-1) (some (n+Z.length))) (av [dF (L.eraseIdx i++(zU::Z))]):=by
  rcases fZ (i+1) n with h|h
  · exact Re L Z n _ i h hn hs hf rfl hT
  · obtain rfl:n=i+1:=by omega
    cases Z with
    |nil=>rw[ec];rw[ec]at hT;exact Rc L i hn (by omega) hT
    |cons z r=>exact Rd L (z::r) _ i hn (by omega) (vS _) rfl hT
/-- A list with an element more at a place. -/
def gd(i:Nat)(x:AV)(l:List AV):List AV:=l.take i++(x::l.drop i)
theorem zH{i:Nat}{x:AV}{l:List AV}(h:i≤l.length):(gd i x l).length=l.length+1:=by
  grind[gd]
theorem Gl{x:AV}{l:List AV}{n:Nat}(h:l.length=n):gd n x l=l++[x]:=by
  grind[gd]
theorem Yg(n:Nat):ah (Int.ofNat n) (Int.ofNat n)=true:=bw _
theorem Zt{a b:Nat}(h:a<b):ap (Int.ofNat a) (Int.ofNat b)=true:=jF (by simp_all)
theorem Zu{a b:Nat}(h:b≤a):ap (Int.ofNat a) (Int.ofNat b)=false:=gr (by simp_all)
theorem Uc{L Z:List AV}{x z:AV}{n:Nat}(h:L.length=n):bL (L++z::Z) (0+n) [x]=gd n x L++Z:=by
  unfold bL
  rw[Gl h,fw,←h,List.take_left,show(L++z::Z).drop (L.length+[x].length)=Z by rw[←Bs,List.drop_left];rfl]
theorem Th{L Z:List AV}{z:AV}{n i:Nat}(h:L.length=n)(hi:i<n):bL (L++z::Z) (i+1) (L.drop i)=L.take (i+1)++(L.drop i++Z):=by
  unfold bL
  rw[List.take_append_of_le_length (by omega),nH,vT,show i+1+(L.length-i)=L.length+1 by omega,←Bs,List.drop_left];rfl
theorem P6{L Z:List AV}{x:AV}{n i:Nat}(h:L.length=n)(hi:i<n):bL (L.take (i+1)++(L.drop i++Z)) i [x]=gd i x L++Z:=by
  unfold bL gd
  grind
theorem Ty{L:List AV}{z x:AV}{n i:Nat}(h:L.length=n)(hi:i<n):bL (L.take i++List.replicate (n+1-i) z) i [x]=L.take i++(x::List.replicate (n-i) z):=by
  unfold bL
  have h1:(L.take i).length=i:=by grind
  have e:n+1-i=(n-i)+1:=by omega
  rw[List.take_append_of_le_length (by omega),Br (by omega),←Bs]
  simp_all
theorem P4{L:List AV}{z x:AV}{n i:Nat}(h:L.length=n)(hi:i<n):bL (L.take i++(x::List.replicate (n-i) z)) (i+1) (L.drop i)=gd i x L:=by
  unfold bL gd
  have h1:(L.take i).length=i:=by grind
  have h2:(L.take i++(x::List.replicate (n-i) z)).length=n+1:=by grind
  have e:(L.take i++(x::List.replicate (n-i) z)).drop (i+1+(L.drop i).length)=[]:=EN (by grind)
  grind
theorem Qf(L Z:List AV)(x z:AV)(t:Bool)(n k:Nat)(hn:L.length=n)(hs:n<2^20)(hk:Z.length=k)(hx:dC 8 [x]=true):kD 163 [.slice 0 0 0 n (some (n+(k+1))),nV n,.ps [x] t] (av [dF (L++z::Z)]) (.slice 0 0 0 (n+1) (some (n+(k+1)))) (av [dF (gd n x L++Z)]):=by
  have hq:=Yg n
  let q:=av [aZ 8 false 0 (L++z::Z)];exact eV Tryz.func163 fun a=>Ko 2 (by exact iU (xs:=L++z::Z) (l:=n) (h:=n) (by kernel_rfl) (by rfl) (by rfl) (by omega) (by omega) (by omega) (by omega) (by omega) (by omega):bv q (dU (8) q ((some (AV.slice 0 0 0 n (some (n+(k+1)))))) ((some (nV n))) (none) (none))=some (ARes.val (AV.slice 0 0 n 0 (some (k+1))) q))<|Kt 11 hq<|Ko 1 (by exact LM (new:=[x]) rfl (by rfl) hx (pw _ _) (by simp_all) (by simp_all) (aN (m:=2^20) (by grind) (by omega) (by omega)) rfl (Uc hn):fX (dW (8) (120) (av [AObj.row 8 false 0 (L++z::Z)]) ((some (AV.slice 0 0 0 n (some (n+(k+1)))))) ((some (AV.ps [x] t))))=some (ARes.val (AV.slice 0 0 0 (n+1) (some (n+(k+1)))) (av [AObj.row 8 false 0 (gd n x L++Z)])))<|Kf 0 a
theorem Qe(L:List AV)(x:AV)(t:Bool)(n:Nat)(hn:L.length=n)(hs:n<2^20)(hx:dC 8 [x]=true)(hT:aq L=0)(hI:aq (gd n x L)=0):kD 163 [.slice 0 0 0 n (some n),nV n,.ps [x] t] (av [dF L]) (.ls (gd n x L)) (av [dF L]):=by
  have hq:=Yg n
  have hIl:(gd n x L).length=n+1:=(zH (by omega)).trans (by omega)
  let q:=av [aZ 8 false 0 L];exact eV Tryz.func163 fun a=>Ko 2 (by exact KZ (xs:=L) (l:=n) (h:=n) (by kernel_rfl) (by rfl) (by rfl) (by rfl) rfl:bv q (dU (8) q ((some (AV.slice 0 0 0 n (some n)))) ((some (nV n))) (none) (none))=some (ARes.val (AV.slice 0 0 0 0 (some 0)) q))<|Kt 11 hq<|Ko 1 (by exact U0 (new:=[x]) rfl (by rfl) hx (pw _ _) (by simp_all) (aN (m:=2^20) (by grind) (by omega) (by omega)) (by grind[Gl]) ((zH (by omega)).trans (by omega)):fX (dW (8) (120) (av [AObj.row 8 false 0 L]) ((some (AV.slice 0 0 0 n (some n)))) ((some (AV.ps [x] t))))=some (ARes.val (AV.slice 1 0 0 (n+1) none) (av [AObj.row 8 false 0 L,AObj.row 8 true 0 (gd n x L)])))<|Mg 0<|M2 (.fsl 1 [] 6<|gd n x L) (et (tR 8 false 0 1 (oA:aq (L)=0)) ti) (ce (aU 0) (VJ (oA:(gd n x L).length=n+1)) (oA:aq (gd n x L)=0))<|Ml 6 (fg (gd n x L) false (oA:aq (gd n x L)=0))<|Mf a
theorem Qd(L Z:List AV)(x z:AV)(t:Bool)(n k i:Nat)(hi:i<n)(hn:L.length=n)(hs:n<2^20)(hk:Z.length=k)(hx:dC 8 [x]=true)(hf:dC 8 L=true)(hT:aq (L++z::Z)=0)(hov:kD 225 [.ps [x] t,.slice 0 0 (i+1) (n-i) (some (n+(k+1)-(i+1)))] (av [dF (L++z::Z)]) (.bool false) (av [dF (L++z::Z)])):kD 163 [.slice 0 0 0 n (some (n+(k+1))),nV i,.ps [x] t] (av [dF (L++z::Z)]) (.slice 0 0 0 (n+1) (some (n+(k+1)))) (av [dF (gd i x L++Z)]):=by
  have hq:ah (Int.ofNat i) (Int.ofNat n)=false:=YX (by omega)
  have hl:ap (Int.ofNat (n+(k+1))) (Int.ofNat (n+1))=false:=Zu (by omega)
  let q:=av [aZ 8 false 0 (L++z::Z)];let q1:=av [aZ 8 false 0 (L.take (i+1)++(L.drop i++Z))];let q2:=AHeap.mk 1000000 (bB q ([0]) Tr.nil);let q3:=aM 0 0 0 (n+1) (some (n+(k+1)));let q4:=aM 0 0 i (n+1-i) (some (n+(k+1)-i));let q5:=(some (nV i));let q6:=aM 0 0 (i+1) (n-i) (some (n+(k+1)-(i+1)));let q7:=(some (nV (i+1)));let q8:=(some (aM 0 0 0 n (some (n+(k+1)))));exact eV Tryz.func163 fun a=>Ko 2 (by exact iU (xs:=L++z::Z) (l:=i) (h:=n) (by kernel_rfl) (by rfl) (by rfl) (by omega) (by omega) (by omega) (by omega) (by omega) (by omega):bv q (dU (8) q q8 q5 (none) (none))=some (ARes.val (AV.slice 0 0 i (n-i) (some (n+(k+1)-i))) q))<|Kh 11 hq<|Kl 2 28 (jU n)<|Kh 2 hl<|Kl 3 59 (jU n)<|Mo (by exact iU (xs:=L++z::Z) (l:=0) (h:=n+1) (by kernel_rfl) (by rfl) (by rfl) (by omega) (by omega) (by omega) (by omega) (by omega) (by omega):bv q (dU (8) q q8 (none) ((some (nV (n+1)))) (none))=some (ARes.val q3 q))<|Kl 5 65 (jU i)<|Mo (by exact iU (xs:=L++z::Z) (l:=i+1) (h:=n+1) (by kernel_rfl) (by rfl) (by rfl) (by omega) (by omega) (by omega) (by omega) (by omega) (by omega):bv q (dU (8) q ((some q3)) q7 (none) (none))=some (ARes.val q6 q))<|Me hov<|Mg 4<|Ma (jU i)<|Mv (by exact iU (xs:=L++z::Z) (l:=i+1) (h:=n+1) (by kernel_rfl) (by rfl) (by rfl) (by omega) (by omega) (by omega) (by omega) (by omega) (by omega):bv (q2) (dU (8) (q2) ((some q3)) q7 (none) (none))=some (ARes.val q6 q2))<|Kv 1 (by exact iU (xs:=L++z::Z) (l:=i) (h:=n+1) (by kernel_rfl) (by rfl) (by rfl) (by omega) (by omega) (by omega) (by omega) (by omega) (by omega):bv (q2) (dU (8) (q2) ((some q3)) q5 (none) (none))=some (ARes.val q4 q2))<|Md rt (gS (tR 8 false 0 1 (oA:aq (L++z::Z)=0))<|gS (tR 8 false 0 1 (oA:aq (L++z::Z)=0)) rt) (by exact Ls (zs:=((L++z::Z).drop i).take (n+1-i)) rfl (yC rfl rfl) (by grind[rx]) (by grind) (by grind[Th]):fX (ug (8) ((AHeap.mk 1 (bB (av [AObj.row 8 false 0 (L++z::Z)]) ([0,0]) Tr.nil))) ((some (AV.slice 0 0 (i+1) (n-i) (some (n+(k+1)-(i+1)))))) ((some (AV.slice 0 0 i (n+1-i) (some (n+(k+1)-i))))))=some (ARes.val (nV (n-i)) (AHeap.put (AHeap.mk 1 (bB (av [AObj.row 8 false 0 (L++z::Z)]) ([0,0]) Tr.nil)) 0 (AObj.row 8 false 0 (L.take (i+1)++(L.drop i++Z))))))<|Ko 1 (by exact iU (xs:=L.take (i+1)++(L.drop i++Z)) (l:=i) (h:=n+1) (by kernel_rfl) (by rfl) (by rfl) (by omega) (by omega) (by omega) (by omega) (by omega) (by omega):bv q1 (dU (8) q1 ((some q3)) q5 (none) (none))=some (ARes.val q4 q1))<|Ko 0 (by exact Ls (zs:=[x]) rfl (by rfl) (rz hx) (by grind) (by grind[List.take_of_length_le,P6]):fX (ug (8) q1 ((some q4)) ((some (AV.ps [x] t))))=some (ARes.val (iV 1) (av [AObj.row 8 false 0 (gd i x L++Z)])))<|Kf 1 a
theorem Qc(L:List AV)(x:AV)(t:Bool)(n i:Nat)(hi:i<n)(hn:L.length=n)(hs:n<2^20)(hx:dC 8 [x]=true)(hf:dC 8 L=true)(hT:aq L=0)(hT2:aq (L.take i++(x::List.replicate (n-i) zU))=0)(hI:aq (gd i x L)=0):kD 163 [.slice 0 0 0 n (some n),nV i,.ps [x] t] (av [dF L]) (.ls (gd i x L)) (av [dF L]):=by
  have hq:ah (Int.ofNat i) (Int.ofNat n)=false:=YX (by omega)
  have hl:ap (Int.ofNat n) (Int.ofNat (n+1))=true:=Zt (by omega)
  have hIl:(gd i x L).length=n+1:=(zH (by omega)).trans (by omega)
  let q:=av [aZ 8 false 0 L,aZ 8 true 0 (L.take i++x::List.replicate (n-i) zU)];let q1:=av [aZ 8 false 0 L,aZ 8 true 0 (L.take i++List.replicate (n+1-i) zU)];let q2:=av [aZ 8 false 0 L];let q3:=(some (nV i));let q4:=AHeap.mk 1000000 (bB q ([0]) Tr.nil);let q5:=aM 0 0 i (n-i) (some (n-i));let q6:=(some (aM 0 0 0 n (some n)));let q7:=AHeap.mk 2 (bB q ([1,0]) Tr.nil);let q8:=aM 1 0 i (n+1-i) none;let q9:=aM 1 0 0 (n+1) none;let q10:=aM 0 0 0 i (some n);exact eV Tryz.func163 fun a=>Ko 2 (by exact iU (xs:=L) (l:=i) (h:=n) (by kernel_rfl) (by rfl) (by rfl) (by omega) (by omega) (by omega) (by omega) (by omega) (by omega):bv q2 (dU (8) q2 q6 q3 (none) (none))=some (ARes.val q5 q2))<|Kh 11 hq<|Kl 2 28 (jU n)<|Kt 2 hl<|Ko 1 (by exact iU (xs:=L) (l:=0) (h:=i) (by kernel_rfl) (by rfl) (by rfl) (by omega) (by omega) (by omega) (by omega) (by omega) (by omega):bv q2 (dU (8) q2 q6 (none) q3 (none))=some (ARes.val q10 q2))<|Kl 2 37 (jU n)<|Ko 0 (by(show bv _ (some (AV.int .i64 (IntKind.i64.wrap (Int.ofNat (n+1)-Int.ofNat i))))=_;rw[show(Int.ofNat (n+1)-Int.ofNat i)=Int.ofNat (n+1-i) by grind,xo (by simp_all) (by grind)];rfl):bv (av [AObj.row 8 false 0 L]) (Sr (pu BinOp.sub (Tryz.prog.underlying 3) (cG Tryz.prog 3) (cN Tryz.prog 3) (dR Tryz.prog 10 3 0)) ((some (nV (n+1)))) ((some (nV i))))=some (ARes.val (nV (n+1-i)) (av [AObj.row 8 false 0 L])))<|Mo (by exact Tf rfl (by omega) (by omega) (by kernel_rfl) (aN (m:=2^21) (by omega) (by omega) (by omega)) (aN (m:=2^21) (by omega) (by omega) (by omega)) (by simp_all) (by grind):fX (Cg (8) (120) (AV.agg [iV 0,iV 0,iV 0,iV 0,AV.str [],AV.nils,AV.nils,AV.nils]) q2 ((some q10)) ((some (nV (n+1-i)))))=some (ARes.val q9 q1))<|Ko 2 (by exact KQ (xs:=L.take i++List.replicate (n+1-i) zU) (l:=i) (h:=n+1) (by kernel_rfl) (by rfl) (by rfl) (by omega) (by grind) (by omega) (by omega):bv q1 (dU (8) q1 ((some q9)) q3 (none) (none))=some (ARes.val q8 q1))<|Ko 0 (by exact Ls (zs:=[x]) rfl (by rfl) (rz hx) (by grind) (by grind[List.take_of_length_le,Ty]):fX (ug (8) q1 ((some q8)) ((some (AV.ps [x] t))))=some (ARes.val (iV 1) q))<|Mg 2<|Ma (jU i)<|Mv (by exact KQ (xs:=L.take i++(x::List.replicate (n-i) zU)) (l:=i+1) (h:=n+1) (by kernel_rfl) (by rfl) (by rfl) (by omega) (by grind) (by omega) (by omega):bv ((AHeap.mk 1000000 (bB (av [AObj.row 8 false 0 L,AObj.row 8 true 0 (L.take i++x::List.replicate (n-i) zU)]) ([1]) Tr.nil))) (dU (8) ((AHeap.mk 1000000 (bB (av [AObj.row 8 false 0 L,AObj.row 8 true 0 (L.take i++x::List.replicate (n-i) zU)]) ([1]) Tr.nil))) ((some (AV.slice 1 0 0 (n+1) none))) ((some (nV (i+1)))) (none) (none))=some (ARes.val (AV.slice 1 0 (i+1) (n-i) none) (AHeap.mk 1000000 (bB (av [AObj.row 8 false 0 L,AObj.row 8 true 0 (L.take i++x::List.replicate (n-i) zU)]) ([1]) Tr.nil))))<|Kv 1 (by exact iU (xs:=L) (l:=i) (h:=n) (by kernel_rfl) (by rfl) (by rfl) (by omega) (by omega) (by omega) (by omega) (by omega) (by omega):bv (q4) (dU (8) (q4) q6 q3 (none) (none))=some (ARes.val q5 q4))<|Md rt (gS (tR 8 true 0 2 (oA:aq (L.take i++x::List.replicate (n-i) zU)=0))<|gS (tR 8 false 0 2 (oA:aq (L)=0)) rt) (by exact Ls (zs:=L.drop i) rfl (yC rfl (Br (by simp_all))) (rz (rx hf)) (by simp_all) (by grind[List.length_drop,P4]):fX (ug (8) (q7) ((some (AV.slice 1 0 (i+1) (n-i) none))) ((some q5)))=some (ARes.val (nV (n-i)) (AHeap.put q7 1 (AObj.row 8 true 0 (gd i x L)))))<|Mg 1<|M2 (.fsl 1 [] 6<|gd i x L) (et (tR 8 false 0 1 (oA:aq (L)=0)) ti) (ce (aU 0) (VJ (oA:(gd i x L).length=n+1)) (oA:aq (gd i x L)=0))<|Ml 6 (fg (gd i x L) false (oA:aq (gd i x L)=0))<|Mf a
theorem Gh(x:TUnit)(t:Bool):kP 163 [.nils,iV 0,.ps [eU x] t] (.ls [eU x]):=by
  have hx:dC 8 [eU x]=true:=by kernel_rfl
  have hIl:[eU x].length=1:=rfl
  have hI:aq [eU x]=0:=by kernel_rfl
  let q:=[ab [iV x.act,iV x.item,iV x.n,iV x.kind,ax x.label,aW (x.head.map aQ),aW (x.words.map aQ),aW (x.kids.map aK)]];exact bH Tryz.func163<|Ko 18 (by(simp only[dW,gx,kj,kU,gP,hx];rfl):fX (dW (8) (120) (av []) ((some (AV.nils))) ((some (AV.ps [AV.agg [iV x.act,iV x.item,iV x.n,iV x.kind,AV.str x.label,AV.ls (x.head.map aQ),AV.ls (x.words.map aQ),AV.ls (x.kids.map aK)]] t))))=some (ARes.val (AV.slice 0 0 0 1 none) (av [AObj.row 8 true 0 [eU x]])))<|K1 0 (.frz 0 [6]) ti<|Mf (fg q _<|by rfl:Le _ (AV.ps q false))
theorem Gg(x:TUnit)(t:Bool):kP 163 [.ps [] true,iV 0,.ps [eU x] t] (.ls [eU x]):=by
  have hx:dC 8 [eU x]=true:=by kernel_rfl
  have hIl:[eU x].length=1:=rfl
  have hI:aq [eU x]=0:=by kernel_rfl
  let q:=[ab [iV x.act,iV x.item,iV x.n,iV x.kind,ax x.label,aW (x.head.map aQ),aW (x.words.map aQ),aW (x.kids.map aK)]];exact bH Tryz.func163<|Ko 18 (by(simp only[dW,gx,kj,kU,gP,hx];rfl):fX (dW (8) (120) (av []) ((some (AV.ps [] true))) ((some (AV.ps [AV.agg [iV x.act,iV x.item,iV x.n,iV x.kind,AV.str x.label,AV.ls (x.head.map aQ),AV.ls (x.words.map aQ),AV.ls (x.kids.map aK)]] t))))=some (ARes.val (AV.slice 0 0 0 1 none) (av [AObj.row 8 true 0 [eU x]])))<|K1 0 (.frz 0 [6]) ti<|Mf (fg q _<|by rfl:Le _ (AV.ps q false))
noncomputable def J2:TypeInfo:=(Tryz.prog.info? 38).getD default
theorem OH:Tryz.prog.info? 38=some J2:=by kernel_rfl
/-- A unit of zero values says no more than the zero value. -/
theorem Xt:Le (aK bb) zU:=bZ (.cons (Le.refl _) (.cons (Le.refl _) (.cons (Le.refl _) (.cons (Le.refl _) (.cons (Le.refl _) (.cons Le.nils (.cons Le.nils (.cons Le.nils .nil)))))))) rfl
theorem IU:J2.size=8:=by kernel_rfl
theorem FX:J2.bytes=120:=by kernel_rfl
theorem Yd(l:List TUnit):dC 8 (l.map aK)=true:=gg (fun u=>by cases u;rfl) l
/-- A copy of units: a row of its own, which holds zero values behind them. -/
theorem Ek(xs:List TUnit)(hne:xs≠[])(hl:xs.length≤2^20)(a b c:AObj):kC 224 [.ls (xs.map aK)] (av [a,b,c])
    (fun v h=>∃k:Nat,True∧v=.slice 3 0 0 xs.length (some (xs.length+k))∧h=av [a,b,c,dF ((xs++List.replicate k bb).map aK)]):=by
  simp only[rA,List.map_replicate]
  have hn:xs.map aK≠[]:=fun h=>hne (List.map_eq_nil_iff.1 h)
  have hf:=Yd xs
  have hsm:small (xs.map aK).length 120=true:=by grind[aN]
  have hlen:xs.length=(xs.map aK).length:=(cX ..).symm
  rw[hlen]
  generalize xs.map aK=L at hn hf hsm
  refine aI.enter 2 (fn:=Tryz.f224) Tryz.func224 (by kernel_rfl) rfl ⟨by kernel_rfl,by kernel_rfl⟩ ?_
  refine aA.seq (aA.mono (DS qk jK (ev 40) (s':=⟨eZ 8 [(0,.ls L),(2,.nils)],av [a,b,c]⟩) (.go 0 .fin) (by kernel_rfl)) ?_)
  rintro _ _ ⟨rfl,rfl⟩
  refine aA.seq (aA.seq (aA.mono (xG jK (ev 40) (Ψ:=fun s=>s=⟨eZ 8 [(0,.ls L),(2,.nils),(3,.ps L false),(4,.bool false)],av [a,b,c]⟩) (.go 0 (.nz 3 .abs (.go 0 .fin)))
    (W:=(L=[]→False)∧(⟨eZ 8 [(0,.ls L),(2,.nils),(3,.ps L false),(4,.bool false)],av [a,b,c]⟩:St)=⟨eZ 8 [(0,.ls L),(2,.nils),(3,.ps L false),(4,.bool false)],av [a,b,c]⟩) ⟨hn,rfl⟩ (by kernel_rfl)) ?_))
  rintro _ _ ⟨rfl,rfl⟩
  refine aA.cond (t:=false) (by kernel_rfl) (fun h=>by grind) fun _=>aA.skip ?_
  refine aA.seq (aA.region ?_)
  show cj _ _ _ _ [_,_,_,_] _ _
  refine cj.one (s':=⟨eZ 8 [(0,.ls L),(2,.nils),(3,.ps L false),(4,.bool false),(5,.ps [] true)],av [a,b,c]⟩) (ev 40) (by kernel_rfl) ?_
  refine cj.one (s':=⟨eZ 8 [(0,.ls L),(2,.nils),(3,.ps L false),(4,.bool false),(5,.ps [] true),(6,.ls L)],av [a,b,c]⟩) (ev 40) (by kernel_rfl) ?_
  refine rm (I:=fun _=>True) (r:=fun k:Nat=>.slice 3 0 0 L.length (some (L.length+k))) (H:=fun k=>av [a,b,c,.row 8 false 0 (L++List.replicate k (aK bb))]) (by kernel_rfl)
    (fun pl M a w g1 g2 g3=>uF (z:=aK bb) (z0:=zU) (xs:=L) (t:=36) (tx:=36) (e:=38) (i:=J2) IU FX (by kernel_rfl) ⟨38,by kernel_rfl⟩ OH (by kernel_rfl) Xt (by kernel_rfl) (by kernel_rfl) hn hf (by kernel_rfl) hsm (by omega) pl M a w g1 g2 g3) fun k _=>?_
  refine⟨eZ 8 [(0,.ls L),(2,.nils),(3,.ps L false),(4,.bool false),(5,.ps [] true),(6,.ls L),(7,.slice 3 0 0 L.length (some (L.length+k)))],by kernel_rfl,?_⟩
  refine cj.one (s':=⟨eZ 8 [(0,.ls L),(2,.slice 3 0 0 L.length (some (L.length+k))),(3,.ps L false),(4,.bool false),(5,.ps [] true),(6,.ls L),(7,.slice 3 0 0 L.length (some (L.length+k)))],av [a,b,c,.row 8 false 0 (L++List.replicate k (aK bb))]⟩) (ev 40) (by kernel_rfl) (cj.nil (aA.ret ⟨fun id h=>(by grind),.slice 3 0 0 L.length (some (L.length+k)),by kernel_rfl,k,trivial,by kernel_rfl,by kernel_rfl⟩))
/-- The unit that a closure changes: its kids are 'K'. -/
noncomputable abbrev dE(u:TUnit)(K:AV):AObj:=.row 8 false 0 [.agg [iV u.act,iV u.item,iV u.n,iV u.kind,.str u.label,.ls (u.head.map aQ),.ls (u.words.map aQ),K]]
theorem XB(u:TUnit)(n c i:Nat)(R R':List AV)(hT:aq R=0)(hT2:aq R'=0)(hi:i<n)(hs:n≤2^20)(hD:kD 228 [.slice 1 0 0 n (some c),nV i,nV (i+1)] (av [dE u (.slice 1 0 0 n (some c)),dF R]) (.slice 1 0 0 (n-1) (some c)) (av [dE u (.slice 1 0 0 n (some c)),dF R'])):
    kD 227 [.ptr 0 0 0 0,.pptr [nV i] 0 0] (av [dE u (.slice 1 0 0 n (some c)),dF R]) (.tuple []) (av [dE u (.slice 1 0 0 (n-1) (some c)),dF R']):=by
  exact eV Tryz.func227 fun a=>Mg 6<|Ma (jU i)<|M3 (.efx false (aM 1 0 0 (n-1)<|some c)<|av [aZ 8 false 0 [ab [iV u.act,iV u.item,iV u.n,iV u.kind,ax u.label,aW<|u.head.map aQ,aW<|u.words.map aQ,aM 1 0 0 n<|some c]],aZ 8 false 0 R']) (ce (tR 8 false 0 2 (oA:aq (R)=0)) rt ti) ti hD<|Kf 2 a
theorem Wn(u x:TUnit)(n c i:Nat)(R R':List AV)(hT:aq R=0)(hT2:aq R'=0)(hD:kD 163 [.slice 1 0 0 n (some c),nV i,.ps [eU x] true] (av [dE u (.slice 1 0 0 n (some c)),dF R]) (.slice 1 0 0 (n+1) (some c)) (av [dE u (.slice 1 0 0 n (some c)),dF R'])):
    kD 162 [.ptr 0 0 0 0,.pptr [nV i] 0 0,.pptr [eU x] 0 0] (av [dE u (.slice 1 0 0 n (some c)),dF R]) (.tuple []) (av [dE u (.slice 1 0 0 (n+1) (some c)),dF R']):=by
  exact eV Tryz.func162 fun a=>Mg 7<|M3 (.efx false (aM 1 0 0 (n+1)<|some c)<|av [aZ 8 false 0 [ab [iV u.act,iV u.item,iV u.n,iV u.kind,ax u.label,aW<|u.head.map aQ,aW<|u.words.map aQ,aM 1 0 0 n<|some c]],aZ 8 false 0 R']) (ce (tR 8 false 0 2 (oA:aq (R)=0)) rt ti) ti hD<|Kf 2 a
theorem Wm(u x:TUnit)(n c i:Nat)(R Y:List AV)(hT:aq R=0)(hD:kD 163 [.slice 1 0 0 n (some c),nV i,.ps [eU x] true] (av [dE u (.slice 1 0 0 n (some c)),dF R]) (.ls Y) (av [dE u (.slice 1 0 0 n (some c)),dF R])):
    kD 162 [.ptr 0 0 0 0,.pptr [nV i] 0 0,.pptr [eU x] 0 0] (av [dE u (.slice 1 0 0 n (some c)),dF R]) (.tuple []) (av [dE u (.ls Y),dF R]):=by
  let q:=[ab [iV u.act,iV u.item,iV u.n,iV u.kind,ax u.label,aW (u.head.map aQ),aW (u.words.map aQ),aM 1 0 0 n (some c)]];exact eV Tryz.func162 fun a=>Mg 7<|M3 (.efx true (aW Y)<|av [aZ 8 false 0 q,aZ 8 false 0 R]) (ce (tR 8 false 0 2 (oA:aq (R)=0)) rt ti) (ce (aU<|some<|aZ 8 false 0 R) (aU<|some<|aZ 8 false 0 q) ti) hD<|Kf 2 a
theorem Wl(u x:TUnit)(Y:List AV)(hD:kP 163 [.nils,iV 0,.ps [eU x] true] (.ls Y)):
    kD 162 [.ptr 0 0 0 0,.pptr [iV 0] 0 0,.pptr [eU x] 0 0] (av [dE u .nils]) (.tuple []) (av [dE u (.ls Y)]):=by
  exact eV Tryz.func162 fun a=>Kp 7 hD<|Kf 2 a
theorem Wi(u x:TUnit)(Y:List AV)(hD:kP 163 [(.ps [] true),iV 0,.ps [eU x] true] (.ls Y)):
    kD 162 [.ptr 0 0 0 0,.pptr [iV 0] 0 0,.pptr [eU x] 0 0] (av [dE u (.ps [] true)]) (.tuple []) (av [dE u (.ls Y)]):=by
  exact eV Tryz.func162 fun a=>Kp 7 hD<|Kf 2 a
theorem Wq(u x:TUnit)(n c i:Nat)(R R':List AV)(hT:aq R=0)(hT2:aq R'=0)(hD:kD 163 [.slice 1 0 0 n (some c),nV i,.ps [eU x] true] (av [dE u (.slice 1 0 0 n (some c)),dF R]) (.slice 1 0 0 (n+1) (some c)) (av [dE u (.slice 1 0 0 n (some c)),dF R'])):
    kD 173 [.ptr 0 0 0 0,.pptr [nV i] 0 0,.pptr [eU x] 0 0] (av [dE u (.slice 1 0 0 n (some c)),dF R]) (.tuple []) (av [dE u (.slice 1 0 0 (n+1) (some c)),dF R']):=by
  exact eV Tryz.func173 fun a=>Mg 7<|M3 (.efx false (aM 1 0 0 (n+1)<|some c)<|av [aZ 8 false 0 [ab [iV u.act,iV u.item,iV u.n,iV u.kind,ax u.label,aW<|u.head.map aQ,aW<|u.words.map aQ,aM 1 0 0 n<|some c]],aZ 8 false 0 R']) (ce (tR 8 false 0 2 (oA:aq (R)=0)) rt ti) ti hD<|Kf 2 a
theorem WU(u x:TUnit)(n c i:Nat)(R Y:List AV)(hT:aq R=0)(hD:kD 163 [.slice 1 0 0 n (some c),nV i,.ps [eU x] true] (av [dE u (.slice 1 0 0 n (some c)),dF R]) (.ls Y) (av [dE u (.slice 1 0 0 n (some c)),dF R])):
    kD 173 [.ptr 0 0 0 0,.pptr [nV i] 0 0,.pptr [eU x] 0 0] (av [dE u (.slice 1 0 0 n (some c)),dF R]) (.tuple []) (av [dE u (.ls Y),dF R]):=by
  let q:=[ab [iV u.act,iV u.item,iV u.n,iV u.kind,ax u.label,aW (u.head.map aQ),aW (u.words.map aQ),aM 1 0 0 n (some c)]];exact eV Tryz.func173 fun a=>Mg 7<|M3 (.efx true (aW Y)<|av [aZ 8 false 0 q,aZ 8 false 0 R]) (ce (tR 8 false 0 2 (oA:aq (R)=0)) rt ti) (ce (aU<|some<|aZ 8 false 0 R) (aU<|some<|aZ 8 false 0 q) ti) hD<|Kf 2 a
theorem WY(u x:TUnit)(Y:List AV)(hD:kP 163 [.nils,iV 0,.ps [eU x] true] (.ls Y)):
    kD 173 [.ptr 0 0 0 0,.pptr [iV 0] 0 0,.pptr [eU x] 0 0] (av [dE u .nils]) (.tuple []) (av [dE u (.ls Y)]):=by
  exact eV Tryz.func173 fun a=>Kp 7 hD<|Kf 2 a
theorem WV(u x:TUnit)(Y:List AV)(hD:kP 163 [(.ps [] true),iV 0,.ps [eU x] true] (.ls Y)):
    kD 173 [.ptr 0 0 0 0,.pptr [iV 0] 0 0,.pptr [eU x] 0 0] (av [dE u (.ps [] true)]) (.tuple []) (av [dE u (.ls Y)]):=by
  exact eV Tryz.func173 fun a=>Kp 7 hD<|Kf 2 a
theorem Xu(u:TUnit)(l:List PWord):kD 166 [.ptr 0 0 0 0,.pptr [.ls (l.map aQ)] 0 0] (av [dE u (.ls (u.kids.map aK))]) (.tuple []) (av [dE (lO l u) (.ls (u.kids.map aK))]):=by
  exact eV Tryz.func166 fun a=>Kf 4 a
theorem XR(u:TUnit)(l:List PWord):kD 168 [.ptr 0 0 0 0,.pptr [.ls (l.map aQ)] 0 0] (av [dE u (.ls (u.kids.map aK))]) (.tuple []) (av [dE (lO l u) (.ls (u.kids.map aK))]):=by
  exact eV Tryz.func168 fun a=>Kf 4 a
theorem Yy(u:TUnit)(l:List PWord):kD 170 [.ptr 0 0 0 0,.pptr [.ls (l.map aQ)] 0 0] (av [dE u (.ls (u.kids.map aK))]) (.tuple []) (av [dE (zM l u) (.ls (u.kids.map aK))]):=by
  exact eV Tryz.func170 fun a=>Kf 4 a
theorem XO(u:TUnit)(d:PDeed):kD 172 [.ptr 0 0 0 0,.pptr [aY d] 0 0] (av [dE u (.ls (u.kids.map aK))]) (.tuple []) (av [dE (o4 d.it.label u) (.ls (u.kids.map aK))]):=by
  exact eV Tryz.func172 fun a=>Kf 6 a
noncomputable abbrev vj(p:PId):AObj:=.row 3 false 0 [aV p]
noncomputable abbrev zO:AObj:=.row 8 false 0 [zU]
theorem Hg:kP 224 [.nils] .nils:=by
  exact wk Tryz.func224 (.go 4 .fin)<|bi af
theorem Hf:kP 224 [.ps [] false] (.ps [] true):=by
  exact wk Tryz.func224 (.go 7 .fin)<|bi<|jq [] true
theorem Rp(w:TUnit)(r:List TUnit)(hl:r.length<2^20):kP 224 [.ls ((w::r).map aK)] (.ls ((w::r).map aK)):=by
  let q:=List.map aK (w::r);exact bH Tryz.func224<|Mg 1<|Mz 3 (fun(a:((w::r).map aK:List AV)=[])=>Mw .abs<|pw _ _ a)<|Mg 3<|M2 .apl (et (sA:List.map aK (w::r)≠[])<|gg (sz:=8) (f:=aK) (fun _=>by(rw[aT];rfl))<|w::r) (by(refine aN (m:=2^21) ?_ ?_ ?_<;>first|omega|grind):small ((w::r).map aK).length 120=true)<|Mg 0<|M2 (.fsl 0 [] 2 q) ti (ce (aU 0) (tA aK (w::r) q.length (sA:(w::r).length=((w::r).map aK).length))<|aX iQ<|w::r)<|Ml 2 (fg q false<|aX iQ<|w::r)<|Mf<|bi<|aW q
theorem C0(l:List TUnit)(hl:l.length≤2^20):kP 224 [.ls (l.map aK)] (.ls (l.map aK)):=by
  cases l with
  |nil=>exact bX.ls0 (Hg.less Le.nils) (Hf.lessB (u:=.ls []) (by kernel_rfl))
  |cons w r=>grind[Rp]
/-- The unit is found; its kids stay what they are. -/
theorem xT(g:Nat)(bs:List AV)(p:PId)(u u2:TUnit)(hA:aq [eU u,aV p,.func (.func g) [] bs]=0)(hp:(ah u.act p.a&&(ah u.item p.i&&ah u.n p.n))=true)(hl:u.kids.length≤2^20)(hd:kD g (.ptr 0 0 0 0::bs) (av [dE u (.ls (u.kids.map aK)),vj p,zO]) (.tuple []) (av [dE u2 (.ls (u2.kids.map aK)),vj p,zO])):kP 161 [eU u,aV p,.func (.func g) [] bs] (eU u2):=by
  have hc:=C0 u.kids hl
  let q:=[iV p.a,iV p.i,iV p.n];exact bH (ht:=oA) Tryz.func161<|Kv 5 (lY ((Tryz.prog).underlying 34) u.act u.item u.n p.a p.i p.n<|av [aZ 8 false 0 [ab [iV u.act,iV u.item,iV u.n,iV u.kind,ax u.label,aW<|u.head.map aQ,aW<|u.words.map aQ,aW<|u.kids.map aK]],aZ 3 false 0 [ab q],aZ 8 false 0 [ab [iV 0,iV 0,iV 0,iV 0,ax [],af,af,af]]])<|Mt hp<|Kp 1 hc<|Ke 2 hd<|Kf 1<|bi<|ab [iV u2.act,iV u2.item,iV u2.n,iV u2.kind,ax u2.label,aW<|u2.head.map aQ,aW<|u2.words.map aQ,aW<|u2.kids.map aK]
/-- The unit is found; it has kids; in its own row something is done. -/
theorem T7(g:Nat)(bs:List AV)(p:PId)(u u2:TUnit)(n2:Nat)(Z:Nat→List AV)(hA:aq [eU u,aV p,.func (.func g) [] bs]=0)(hp:(ah u.act p.a&&(ah u.item p.i&&ah u.n p.n))=true)(hl:u.kids.length≤2^20)(hne:u.kids≠[])(hn2:u2.kids.length=n2)(hd:∀k,kD g (.ptr 0 0 0 0::bs) (av [dE u (.slice 3 0 0 u.kids.length (some (u.kids.length+k))),vj p,zO,dF ((u.kids++List.replicate k bb).map aK)]) (.tuple []) (av [dE u2 (.slice 3 0 0 n2 (some (u.kids.length+k))),vj p,zO,dF (u2.kids.map aK++Z k)])):kP 161 [eU u,aV p,.func (.func g) [] bs] (eU u2):=by
  let q:=[ab [iV u.act,iV u.item,iV u.n,iV u.kind,ax u.label,aW (u.head.map aQ),aW (u.words.map aQ),aW (u.kids.map aK)]];let q1:=[iV p.a,iV p.i,iV p.n];let q2:=[ab [iV 0,iV 0,iV 0,iV 0,ax [],af,af,af]];let q3:=List.map aK u2.kids;exact bH (ht:=oA) Tryz.func161<|Kv 5 (lY ((Tryz.prog).underlying 34) u.act u.item u.n p.a p.i p.n<|av [aZ 8 false 0 q,aZ 3 false 0 [ab q1],aZ 8 false 0 q2])<|Mt hp<|Mg 1<|Mq (Ek u.kids hne hl (aZ 8 false 0 q) (aZ 3 false 0 [ab q1])<|aZ 8 false 0 q2) fun a _=>Ke 2 (hd a)<|M2 (.fza 0 7 3 [3,6] q3) (jQ rt rt rt ti) (ce (aU 0) (VK (xs:=List.map aK u2.kids) (ys:=Z a) (n:=n2) sA)<|aX iQ u2.kids)<|Kf 1<|bi<|ab [iV u2.act,iV u2.item,iV u2.n,iV u2.kind,ax u2.label,aW<|u2.head.map aQ,aW<|u2.words.map aQ,aW q3]
theorem UW{l m:List TUnit}{i:Nat}(h:i<l.length):gD (l++m) i=gD l i:=by
  grind[gD]
theorem tq{l m:List TUnit}{i n:Nat}{x:TUnit}(h:l.length=n)(hi:i<n):((l++m).set i x).take n=l.set i x:=by
  simp_all
theorem SU{l m:List TUnit}{n:Nat}(h:l.length=n):(l++m).take n=l:=by simp_all
theorem Li{l:List TUnit}{i:Nat}(h:i<l.length):l.drop i=gD l i::l.drop (i+1):=by
  grind[List.drop_eq_getElem_cons,gD]
theorem XE{p:PId}{f:TUnit→TUnit}{l:List TUnit}{i:Nat}(h:jX p f l i (l.drop i))(hi:l.length≤i):eg p f l=l:=by
  grind[List.drop_eq_nil_of_le,jX.done]
theorem XC{p:PId}{f:TUnit→TUnit}{l:List TUnit}{i:Nat}(h:jX p f l i (l.drop i))(hi:i<l.length)(hw:cV p (gD l i)=false):jX p f l (i+1) (l.drop (i+1)):=by
  grind[Li,jX.skip]
theorem XD{p:PId}{f:TUnit→TUnit}{l:List TUnit}{i:Nat}(h:jX p f l i (l.drop i))(hi:i<l.length)(hw:cV p (gD l i)=true):eg p f l=l.set i (dJ p f (gD l i)):=by
  grind[Li,jX.hit]
/-- The unit is another one without kids. -/
theorem YV(g:Nat)(bs:List AV)(p:PId)(u:TUnit)(hA:aq [eU u,aV p,.func (.func g) [] bs]=0)(hA2:(AV.func (.func g) [] bs).top=0)(hp:(ah u.act p.a&&(ah u.item p.i&&ah u.n p.n))=false)(h0:u.kids.length=0)(hl0:ap 0 (Int.ofNat u.kids.length)=false):kP 161 [eU u,aV p,.func (.func g) [] bs] (eU u):=by
  have hc:=C0 u.kids (by omega)
  let q:=[aZ 8 false 0 [ab [iV u.act,iV u.item,iV u.n,iV u.kind,ax u.label,aW (u.head.map aQ),aW (u.words.map aQ),aW (u.kids.map aK)]],aZ 3 false 0 [ab [iV p.a,iV p.i,iV p.n]],aZ 8 false 0 [ab [iV 0,iV 0,iV 0,iV 0,ax [],af,af,af]]];let q1:=[bU (bY g) [] bs,bz 0 0 0 0,bz 1 0 0 0,bz 2 0 0 0,aW (u.kids.map aK),aW (u.kids.map aK),nV u.kids.length,iV 0];exact bH (ht:=oA) Tryz.func161<|Kv 5 (lY ((Tryz.prog).underlying 34) u.act u.item u.n p.a p.i p.n<|av q)<|Mh hp<|Kp 1 hc<|Kl 2 27 (ln aK u.kids)<|Mg 0<|ZQ [2,3,4,6,7,26,27,28] (q1,q) True 0 ti fun _ _=>Kh 0 hl0<|Kf 4<|bi<|ab [iV u.act,iV u.item,iV u.n,iV u.kind,ax u.label,aW<|u.head.map aQ,aW<|u.words.map aQ,aW<|u.kids.map aK]
/-- The unit is another: what is done below. -/
theorem YK(g:Nat)(bs:List AV)(p:PId)(f:TUnit→TUnit)(u:TUnit)(hA:aq [eU u,aV p,.func (.func g) [] bs]=0)(hA2:(AV.func (.func g) [] bs).top=0)(hp:(ah u.act p.a&&(ah u.item p.i&&ah u.n p.n))=false)(hne:u.kids≠[])(hn:u.kids.length≤2^20)
    (hf:∀k,k∈u.kids→kP 62 [eU k,aV p] (.tuple [eU (ef p k),.bool (cV p k)]))
    (ih:∀k,k∈u.kids→kP 161 [eU k,aV p,.func (.func g) [] bs] (eU (dJ p f k))):kP 161 [eU u,aV p,.func (.func g) [] bs] (eU (jl u (eg p f u.kids))):=by
  have rr0:∀b',(h:(List.map aK (jl u (eg p f u.kids)).kids)=b':=by first|rfl|(rw[XD hx0.2 (by(first|omega|(simp only[oN]at *;omega))) (by rw[←q0 (by(first|omega|(simp only[oN]at *;omega)))];assumption),q0 (by(first|omega|(simp only[oN]at *;omega)))];exact congrArg _ (tq rfl (by(first|omega|(simp only[oN]at *;omega)))).symm)|(rw[XE hx0.2 (by(first|omega|(simp only[oN]at *;omega)))];exact congrArg _ (SU rfl).symm))→(List.map aK (jl u (eg p f u.kids)).kids)=b':=(fun _ h=>h);exact bH (ht:=oA) Tryz.func161<|Kv 5 (lY ((Tryz.prog).underlying 34) u.act u.item u.n p.a p.i p.n<|av [aZ 8 false 0 [ab [iV u.act,iV u.item,iV u.n,iV u.kind,ax u.label,aW<|u.head.map aQ,aW<|u.words.map aQ,aW<|u.kids.map aK]],aZ 3 false 0 [ab [iV p.a,iV p.i,iV p.n]],aZ 8 false 0 [ab [iV 0,iV 0,iV 0,iV 0,ax [],af,af,af]]])<|Mh hp<|Mg 1<|Mq (Ek u.kids hne hn (aZ 8 false 0 [ab [iV u.act,iV u.item,iV u.n,iV u.kind,ax u.label,aW<|u.head.map aQ,aW<|u.words.map aQ,aW<|u.kids.map aK]]) (aZ 3 false 0 [ab [iV p.a,iV p.i,iV p.n]])<|aZ 8 false 0 [ab [iV 0,iV 0,iV 0,iV 0,ax [],af,af,af]]) fun a _=>Mg 3<|ZP (0:Nat) [2,3,4,6,7,26,27,28] (fun b=>([bU (bY g) [] bs,bz 0 0 0 0,bz 1 0 0 0,bz 2 0 0 0,aM 3 0 0 u.kids.length<|some<|u.kids.length+a,aM 3 0 0 u.kids.length<|some<|u.kids.length+a,nV u.kids.length,nV b],[aZ 8 false 0 [ab [iV u.act,iV u.item,iV u.n,iV u.kind,ax u.label,aW<|u.head.map aQ,aW<|u.words.map aQ,aW<|u.kids.map aK]],aZ 3 false 0 [ab [iV p.a,iV p.i,iV p.n]],aZ 8 false 0 [ab [iV 0,iV 0,iV 0,iV 0,ax [],af,af,af]],aZ 8 false 0<|(u.kids++List.replicate a bb).map aK])) (fun a=>a≤u.kids.length∧jX p f u.kids a (u.kids.drop a)) (fun a=>u.kids.length-a) (by simp_all[jX.start]) fun b hx0 c=>have hx0:b≤u.kids.length∧jX p f u.kids b (u.kids.drop b):=hx0;have q0:b<u.kids.length→gD (u.kids++List.replicate a bb) b=gD u.kids b:=fun h=>UW h;Ka 0 (Int.ofNat b) (Int.ofNat u.kids.length) (fun _ _=>K1 0 .rix (et (aU 0) (sA:b<u.kids.length))<|Mr (et (aU 0)<|rX aK (g:=Go.Ev.eU) aT (gR:b<(u.kids++List.replicate a bb).length))<|Kp 4 (hf (gD (u.kids++List.replicate a bb) b)<|by grind[ge])<|Kb 6 (cV p<|gD (u.kids++List.replicate a bb) b) (fun _=>Kp 4 (ih (gD (u.kids++List.replicate a bb) b)<|by grind[ge])<|M1 .rix (et (aU 0) (sA:b<u.kids.length))<|M1 (.rst (ab [iV (gD (u.kids++List.replicate a bb) b).act,iV (gD (u.kids++List.replicate a bb) b).item,iV (gD (u.kids++List.replicate a bb) b).n,iV (gD (u.kids++List.replicate a bb) b).kind,ax (gD (u.kids++List.replicate a bb) b).label,aW<|List.map aQ (gD (u.kids++List.replicate a bb) b).head,aW<|List.map aQ (gD (u.kids++List.replicate a bb) b).words,aW<|List.map aK (gD (u.kids++List.replicate a bb) b).kids])<|((u.kids++List.replicate a bb).set b<|dJ p f<|gD (u.kids++List.replicate a bb) b).map aK) (ce (aU 0) (rX aK (g:=Go.Ev.eU) aT (gR:b<(u.kids++List.replicate a bb).length))<|Dy (f:=aK) (g:=Go.Ev.eU) aT (l:=u.kids++List.replicate a bb) (i:=b) (w:=dJ p f<|gD (u.kids++List.replicate a bb) b))<|Mg 0<|M2 (.fsl 3 [3,6] 48<|(((u.kids++List.replicate a bb).set b<|dJ p f<|gD (u.kids++List.replicate a bb) b).take u.kids.length).map aK) (jQ rt rt rt ti) (ce (aU 0) (yn (f:=aK) (l:=(u.kids++List.replicate a bb).set b<|dJ p f<|gD (u.kids++List.replicate a bb) b) (n:=u.kids.length))<|aX iQ<|((u.kids++List.replicate a bb).set b<|dJ p f<|gD (u.kids++List.replicate a bb) b).take u.kids.length)<|Ml 48 (fg ((((u.kids++List.replicate a bb).set b<|dJ p f<|gD (u.kids++List.replicate a bb) b).take u.kids.length).map aK) (nT (some<|u.kids.length+a)<|some u.kids.length)<|aX iQ<|((u.kids++List.replicate a bb).set b<|dJ p f<|gD (u.kids++List.replicate a bb) b).take u.kids.length)<|Kf 3 (bZ (.cons (bi _)<|.cons (bi _)<|.cons (bi _)<|.cons (bi _)<|.cons (bi _)<|.cons (bi _)<|.cons (bi _)<|.cons (cW<|rr0<|(((u.kids++List.replicate a bb).set b<|dJ p f<|gD (u.kids++List.replicate a bb) b).take u.kids.length).map aK) .nil)<|by kernel_rfl:Le _ (AV.agg [iV u.act,iV u.item,iV u.n,iV u.kind,AV.str u.label,AV.ls (u.head.map aQ),AV.ls (u.words.map aQ),AV.ls ((((u.kids++List.replicate a bb).set b (dJ p f (gD (u.kids++List.replicate a bb) b))).take u.kids.length).map aK)]))) fun _=>Kl 0 47 (jU b)<|Mg 0<|M2 (.frl 4 [3,4,6,7,26,27,28] [2]) (wR (OP (sz:=8) (op:=false) (ep:=0) (n:=4)<|aX iQ<|u.kids++List.replicate a bb) rt rt rt ti) (et (oA:(AV.func (Fn.func g) [] bs).top≤4) ti)<|Mf<|c (b+1) (by grind[XC]) gR) fun _ _=>Mg 0<|M2 (.fsl 3 [3,6] 48<|((u.kids++List.replicate a bb).take u.kids.length).map aK) (jQ rt rt rt ti) (ce (aU 0) (yn (f:=aK) (l:=u.kids++List.replicate a bb) (n:=u.kids.length))<|aX iQ<|(u.kids++List.replicate a bb).take u.kids.length)<|Ml 48 (fg (((u.kids++List.replicate a bb).take u.kids.length).map aK) (nT (some<|u.kids.length+a)<|some u.kids.length)<|aX iQ<|(u.kids++List.replicate a bb).take u.kids.length)<|Kf 3 (bZ (.cons (bi _)<|.cons (bi _)<|.cons (bi _)<|.cons (bi _)<|.cons (bi _)<|.cons (bi _)<|.cons (bi _)<|.cons (cW<|rr0<|((u.kids++List.replicate a bb).take u.kids.length).map aK) .nil)<|by kernel_rfl:Le _ (AV.agg [iV u.act,iV u.item,iV u.n,iV u.kind,AV.str u.label,AV.ls (u.head.map aQ),AV.ls (u.words.map aQ),AV.ls (((u.kids++List.replicate a bb).take u.kids.length).map aK)]))
theorem iX{g:Nat}{bs:List AV}{p:PId}(hb:aq bs=0)(x:TUnit):aq [eU x,aV p,.func (.func g) [] bs]=0:=by
  have h1:(eU x).top=0:=by rw[←aT];exact iQ x
  have h2:(AV.func (.func g) [] bs).top=0:=by simp only[AV.top,aq,hb];rfl
  exact jP.2 fun y hy=>by
    simp only[eM,List.mem_nil_iff,or_false]at hy
    rcases hy with rfl|rfl|rfl
    · omega
    · exact Jb p
    omega
/-- with: the first unit of the number is changed, wherever it stands. -/
theorem oc(g:Nat)(bs:List AV)(p:PId)(f:TUnit→TUnit)(hb:aq bs=0):∀(u:TUnit),nU u≤2^19→(∀x,x∈bo u→x.head.length<2^30∧x.words.length<2^30)→
    (∀v,v∈bo u→fE p v=true→kP 161 [eU v,aV p,.func (.func g) [] bs] (eU (f v)))→kP 161 [eU u,aV p,.func (.func g) [] bs] (eU (dJ p f u)):=by
  refine TUnit.ind fun u ih hn ht hit=>?_
  have hA:=iX (g:=g) (bs:=bs) (p:=p) hb
  cases hi:fE p u with
  |true=>grind[qH,dq]
  | false=>
    have hkl:=bd u
    rw[km hi]
    by_cases h0:u.kids=[]
    · have e:jl u (eg p f u.kids)=u:=by rw[h0,sJ];cases u;simp only[TUnit.kids]at h0;subst h0;rfl
      rw[e]
      exact YV g bs p u (hA u) (by simp only[AV.top,aq,hb];rfl) hi (by simp_all) (by rw[h0];rfl)
    · exact YK g bs p f u (hA u) (by simp only[AV.top,aq,hb];rfl) hi h0 (by omega) (fun k hk=>Q4 p k (by have:=iq hk;omega) fun x hx=>ht x (bA hk hx))
        fun k hk=>ih k hk (by have:=iq hk;omega) (fun x hx=>ht x (bA hk hx)) fun v hv=>hit v (bA hk hv)
theorem AF{bs:List AV}(rs:List Nat)(h0:fF rs 0=0)(hb:aq bs=0):lp (fF rs) (.ptr 0 0 0 0::bs)=.ptr 0 0 0 0::bs:=by
  grind[lp,Ev.ren,eS]
theorem Ay{g:Nat}{bs:List AV}{u u2:TUnit}{n n2 c:Nat}{X X2:List AV}{A B:AObj}(hb:aq bs=0)(hX:aq X=0)(hX2:aq X2=0)(h:kD g (.ptr 0 0 0 0::bs) (av [dE u (.slice 1 0 0 n (some c)),dF X]) (.tuple []) (av [dE u2 (.slice 1 0 0 n2 (some c)),dF X2])):
    kD g (.ptr 0 0 0 0::bs) (av [dE u (.slice 3 0 0 n (some c)),A,B,dF X]) (.tuple []) (av [dE u2 (.slice 3 0 0 n2 (some c)),A,B,dF X2]):=
  px jK [0,3] h (AF _ rfl hb) rfl rfl ⟨⟨rfl,uP (by kernel_rfl)⟩,⟨rfl,by show aq X≤2;omega⟩,trivial⟩ ⟨⟨rfl,uP (by kernel_rfl)⟩,⟨rfl,by show aq X2≤2;omega⟩,trivial⟩
    (by show Nat.mx _ (aq bs)≤2;rw[hb];exact uP (by kernel_rfl)) (bG _) ⟨by kernel_rfl,by rw[vY hX];kernel_rfl,trivial⟩ ⟨by kernel_rfl,by kernel_rfl,trivial⟩
    (by show _=AHeap.put (AHeap.put _ _ _) _ (j6 _ (.row 8 false 0 X2));rw[vY hX2];kernel_rfl)
theorem CO{g:Nat}{bs:List AV}{u u2:TUnit}{n c:Nat}{X Y:List AV}{A B:AObj}(hb:aq bs=0)(hX:aq X=0)(h:kD g (.ptr 0 0 0 0::bs) (av [dE u (.slice 1 0 0 n (some c)),dF X]) (.tuple []) (av [dE u2 (.ls Y),dF X])):
    kD g (.ptr 0 0 0 0::bs) (av [dE u (.slice 3 0 0 n (some c)),A,B,dF X]) (.tuple []) (av [dE u2 (.ls Y),A,B,dF X]):=
  px jK [0,3] h (AF _ rfl hb) rfl rfl ⟨⟨rfl,uP (by kernel_rfl)⟩,⟨rfl,by show aq X≤2;omega⟩,trivial⟩ ⟨⟨rfl,uP (by kernel_rfl)⟩,⟨rfl,by show aq X≤2;omega⟩,trivial⟩
    (by show Nat.mx _ (aq bs)≤2;rw[hb];exact uP (by kernel_rfl)) (bG _) ⟨by kernel_rfl,by rw[vY hX];kernel_rfl,trivial⟩ ⟨by kernel_rfl,by kernel_rfl,trivial⟩
    (by show _=AHeap.put (AHeap.put _ _ _) _ (j6 _ (.row 8 false 0 X));rw[vY hX];kernel_rfl)
theorem jL{g:Nat}{bs:List AV}{u u2:TUnit}{A B:AObj}{K K2:AV}(hb:aq bs=0)(h1:aq [.agg [iV u.act,iV u.item,iV u.n,iV u.kind,.str u.label,.ls (u.head.map aQ),.ls (u.words.map aQ),K]]=0)(h2:aq [.agg [iV u2.act,iV u2.item,iV u2.n,iV u2.kind,.str u2.label,.ls (u2.head.map aQ),.ls (u2.words.map aQ),K2]]=0)(h:kD g (.ptr 0 0 0 0::bs) (av [dE u K]) (.tuple []) (av [dE u2 K2])):
    kD g (.ptr 0 0 0 0::bs) (av [dE u K,A,B]) (.tuple []) (av [dE u2 K2,A,B]):=
  fj jK 0 h1 h2 h (AF _ rfl hb) rfl rfl (by simp only[aq,AV.top,hb];rfl) rfl (by kernel_rfl) (by kernel_rfl)
/-- The unit is found; it has kids; a kid more is laid into its row, or into a new one. -/
theorem Lj(g:Nat)(bs:List AV)(p:PId)(u u2:TUnit)(n2:Nat)(Z:Nat→List AV)(hA:aq [eU u,aV p,.func (.func g) [] bs]=0)(hp:(ah u.act p.a&&(ah u.item p.i&&ah u.n p.n))=true)(hl:u.kids.length≤2^20)(hne:u.kids≠[])(hn2:u2.kids.length=n2)
    (hdA:∀k,By (Nat.beq k 0) true→kD g (.ptr 0 0 0 0::bs) (av [dE u (.slice 3 0 0 u.kids.length (some (u.kids.length+k))),vj p,zO,dF ((u.kids++List.replicate k bb).map aK)]) (.tuple []) (av [dE u2 (.ls (u2.kids.map aK)),vj p,zO,dF ((u.kids++List.replicate k bb).map aK)]))
    (hdB:∀k,By (Nat.beq k 0) false→kD g (.ptr 0 0 0 0::bs) (av [dE u (.slice 3 0 0 u.kids.length (some (u.kids.length+k))),vj p,zO,dF ((u.kids++List.replicate k bb).map aK)]) (.tuple []) (av [dE u2 (.slice 3 0 0 n2 (some (u.kids.length+k))),vj p,zO,dF (u2.kids.map aK++Z k)])):kP 161 [eU u,aV p,.func (.func g) [] bs] (eU u2):=by
  let q:=ab [iV u2.act,iV u2.item,iV u2.n,iV u2.kind,ax u2.label,aW (u2.head.map aQ),aW (u2.words.map aQ),aW (u2.kids.map aK)];let q1:=[ab [iV u.act,iV u.item,iV u.n,iV u.kind,ax u.label,aW (u.head.map aQ),aW (u.words.map aQ),aW (u.kids.map aK)]];let q2:=[iV p.a,iV p.i,iV p.n];let q3:=[ab [iV 0,iV 0,iV 0,iV 0,ax [],af,af,af]];exact bH (ht:=oA) Tryz.func161<|Kv 5 (lY ((Tryz.prog).underlying 34) u.act u.item u.n p.a p.i p.n<|av [aZ 8 false 0 q1,aZ 3 false 0 [ab q2],aZ 8 false 0 q3])<|Mt hp<|Mg 1<|Mq (Ek u.kids hne hl (aZ 8 false 0 q1) (aZ 3 false 0 [ab q2])<|aZ 8 false 0 q3) fun a _=>Ks 2 (a.beq 0) (fun b=>Me (hdA a b)<|Kf 1<|bi q) fun b=>Me (hdB a b)<|M2 (.fza 0 7 3 [3,6]<|u2.kids.map aK) (jQ rt rt rt ti) (ce (aU 0) (VK (xs:=List.map aK u2.kids) (ys:=Z a) (n:=n2) sA)<|aX iQ u2.kids)<|Kf 1<|bi q
/-- The unit is found; it has no kids; it gets one. -/
theorem Lk(g:Nat)(bs:List AV)(p:PId)(u u2:TUnit)(hA:aq [eU u,aV p,.func (.func g) [] bs]=0)(hp:(ah u.act p.a&&(ah u.item p.i&&ah u.n p.n))=true)(h0:u.kids=[])
    (hdN:kD g (.ptr 0 0 0 0::bs) (av [dE u .nils,vj p,zO]) (.tuple []) (av [dE u2 (.ls (u2.kids.map aK)),vj p,zO]))
    (hdP:kD g (.ptr 0 0 0 0::bs) (av [dE u (.ps [] true),vj p,zO]) (.tuple []) (av [dE u2 (.ls (u2.kids.map aK)),vj p,zO])):kP 161 [eU u,aV p,.func (.func g) [] bs] (eU u2):=by
  obtain⟨a,i,n,k,l,h,w,ks⟩:=u
  simp only[TUnit.kids]at h0
  subst h0
  let q:=ab [iV u2.act,iV u2.item,iV u2.n,iV u2.kind,ax u2.label,aW (u2.head.map aQ),aW (u2.words.map aQ),aW (u2.kids.map aK)];let q1:=[iV p.a,iV p.i,iV p.n];exact bH (ht:=oA) Tryz.func161<|Kv 5 (lY ((Tryz.prog).underlying 34) (TUnit.mk a i n k l h w []).act (TUnit.mk a i n k l h w []).item (TUnit.mk a i n k l h w []).n p.a p.i p.n<|av [aZ 8 false 0 [ab [iV (TUnit.mk a i n k l h w []).act,iV (TUnit.mk a i n k l h w []).item,iV (TUnit.mk a i n k l h w []).n,iV (TUnit.mk a i n k l h w []).kind,ax l,aW<|List.map aQ (TUnit.mk a i n k l h w []).head,aW<|List.map aQ (TUnit.mk a i n k l h w []).words,aW []]],aZ 3 false 0 [ab q1],aZ 8 false 0 [ab [iV 0,iV 0,iV 0,iV 0,ax [],af,af,af]]])<|Mt hp<|Mg 1<|Mz 17 (fun(_:([]:List AV)=[])=>Mp Hg<|Ke 2 hdN<|Kf 1<|bi q)<|Mp Hf<|Ke 2 hdP<|Kf 1<|bi q
theorem jO{a b:List AV}(h1:aq a=0)(h2:aq b=0):aq (a++b)=0:=jP.2 fun x hx=>by
  rcases js.1 hx with h|h
  · exact jP.1 h1 x h
  · exact jP.1 h2 x h
theorem Q3(l:List TUnit):dC 8 (l.map aK)=true:=gg (fun u=>by cases u;rfl) l
theorem Uz(x:TUnit):dC 8 [eU x]=true:=by kernel_rfl
theorem NH(x:TUnit):(eU x).top=0:=by rw[←aT];exact iQ x
theorem tX{i:Nat}{x:TUnit}{l:List AV}(h:aq l=0):aq (gd i (eU x) l)=0:=jP.2 fun y hy=>by
  unfold gd at hy
  rcases js.1 hy with h1|h1
  · exact jP.1 h y (s8 h1)
  · rcases eM.1 h1 with rfl|h1
    · exact NH x
    · exact jP.1 h y (Od h1)
theorem Lq(i:Nat)(x:TUnit)(l:List TUnit):(wG i x l).map aK=gd i (eU x) (l.map aK):=by
  unfold wG gd
  rw[rA,eD,List.map_take,List.map_drop,aT]
theorem Lm(i:Nat)(l:List TUnit):(l.eraseIdx i).map aK=(l.map aK).eraseIdx i:=by
  grind[List.eraseIdx_eq_take_drop_succ,List.map_take,List.map_drop]
theorem Co{i:Nat}{x:TUnit}{l:List TUnit}(h:i≤l.length):(wG i x l).length=l.length+1:=by
  grind[wG]
theorem Gj(l:List TUnit)(k:Nat):(l++List.replicate k bb).map aK=l.map aK++List.replicate k (aK bb):=by simp_all
theorem lT(k:Nat):aq (List.replicate k (aK bb))=0:=by rw[←List.map_replicate];exact aX iQ _
/-- A kid is taken out. -/
theorem OA(p:PId)(i:Nat)(u:TUnit)(hn:nU u≤2^19)(ht:∀x,x∈bo u→x.head.length<2^30∧x.words.length<2^30)(hv:∀v,v∈bo u→fE p v=true→i<v.kids.length):
    bX Tryz.prog G 161 [eU u,aV p,.func (.func 227) [] [.pptr [.int .i64 (.ofNat i)] 0 0]] (eU (dJ p (gh i) u)):=by
  refine oc _ _ p (gh i) rfl u hn ht fun v hm hid=>?_
  have hi:=hv v hm hid
  have hkl:=bd v
  have hvu:=dM hm
  have hl:v.kids.length≤2^20:=by omega
  refine T7 _ _ p v (gh i v) (v.kids.length-1) (fun k=>zU::List.replicate k (aK bb)) (iX rfl v) hid hl (fun e=>by grind) (by show(v.kids.eraseIdx i).length=_;grind) fun k=>?_
  have h:=Rb (v.kids.map aK) (List.replicate k (aK bb)) v.kids.length i hi (cX _) hl (Q3 _) (jO (aX iQ _) (lT k))
  rw[pH]at h
  have hT:aq ((v.kids.map aK).eraseIdx i++(zU::List.replicate k (aK bb)))=0:=jO (by rw[←Lm];exact aX iQ _) (by show Nat.mx zU.top (aq _)=0;rw[lT];rfl)
  rw[Gj]
  show aI _ _ _ _ _ fun v1 h1=>v1=.tuple []∧h1=av [dE v (.slice 3 0 0 (v.kids.length-1) (some (v.kids.length+k))),vj p,zO,dF ((v.kids.eraseIdx i).map aK++_)]
  rw[Lm]
  refine Ay rfl (jO (aX iQ _) (lT k)) hT (XB v v.kids.length _ i _ _ (jO (aX iQ _) (lT k)) hT hi hl ?_)
  exact fj jK 1 (jO (aX iQ _) (lT k)) hT h rfl rfl (by simp_all) (by kernel_rfl) (by kernel_rfl) (by kernel_rfl) (by kernel_rfl)
theorem V7(x:TUnit)(t:Bool)(off len c:Nat)(X:List AV):kD 225 [.ps [eU x] t,.slice 0 0 off len (some c)] (av [dF X]) (.bool false) (av [dF X]):=
  Bx (tS:=36) (tR:=4) (e:=38) (n:=8) Tryz.func225 (by kernel_rfl) (by kernel_rfl) (by kernel_rfl) (by kernel_rfl) (by simp_all) (by kernel_rfl) (pw _ _) (by kernel_rfl:(av [dF X]).get 0=some (.row 8 false 0 X))
/-- A kid laid into a row that has room. -/
theorem Gf(L:List AV)(x:TUnit)(z:AV)(Z:List AV)(n k i:Nat)(hi:i≤n)(hn:L.length=n)(hs:n<2^20)(hk:Z.length=k)(hf:dC 8 L=true)(hT:aq (L++z::Z)=0):kD 163 [.slice 0 0 0 n (some (n+(k+1))),nV i,.ps [eU x] true] (av [dF (L++z::Z)]) (.slice 0 0 0 (n+1) (some (n+(k+1)))) (av [dF (gd i (eU x) L++Z)]):=by
  rcases fZ i n with h|h
  · grind[Qd,Uz,V7]
  · obtain rfl:i=n:=by omega
    exact Qf L Z (eU x) z true i k hn hs hk (Uz x)
theorem Gi(L:List AV)(x:TUnit)(n i:Nat)(hi:i≤n)(hn:L.length=n)(hs:n<2^20)(hf:dC 8 L=true)(hT:aq L=0):kD 163 [.slice 0 0 0 n (some n),nV i,.ps [eU x] true] (av [dF L]) (.ls (gd i (eU x) L)) (av [dF L]):=by
  rcases fZ i n with h|h
  · refine Qc L (eU x) true n i h hn hs (Uz x) hf hT (jP.2 fun y hy=>?_) (tX hT)
    rcases js.1 hy with h1|h1
    · exact jP.1 hT y (s8 h1)
    · rcases eM.1 h1 with rfl|h1
      · exact NH x
      · rw[(List.mem_replicate.1 h1).2];rfl
  · grind[Qe,Uz,tX]
/-- A kid is laid in. -/
theorem Ot(p:PId)(i:Nat)(x u:TUnit)(hn:nU u≤2^19)(ht:∀x,x∈bo u→x.head.length<2^30∧x.words.length<2^30)(hv:∀v,v∈bo u→fE p v=true→i≤v.kids.length):
    bX Tryz.prog G 161 [eU u,aV p,.func (.func 162) [] [.pptr [.int .i64 (.ofNat i)] 0 0,.pptr [eU x] 0 0]] (eU (dJ p (du i x) u)):=by
  have hb:aq [.pptr [.int .i64 (.ofNat i)] 0 0,.pptr [eU x] 0 0]=0:=by kernel_rfl
  refine oc _ _ p (du i x) hb u hn ht fun v hm hid=>?_
  have hi:=hv v hm hid
  have hkl:=bd v
  have hvu:=dM hm
  have hl:v.kids.length<2^20:=by omega
  have hK:=aX iQ v.kids
  by_cases h0:v.kids=[]
  · rw[h0]at hi
    obtain rfl:i=0:=by simp_all
    have e:(du 0 x v).kids =[x]:=by show wG 0 x v.kids=[x];rw[h0];rfl
    have e2:(du 0 x v).kids.map aK=[eU x]:=by rw[e,eD,aT];rfl
    refine Lk _ _ p v (du 0 x v) (iX hb v) hid h0 ?_ ?_
    · rw[e2];exact jL (u2:=du 0 x v) hb (by kernel_rfl) (by kernel_rfl) (Wl v x [eU x] (Gh x true))
    · rw[e2];exact jL (u2:=du 0 x v) hb (by kernel_rfl) (by kernel_rfl) (Wi v x [eU x] (Gg x true))
  · have e2:(du i x v).kids.map aK=gd i (eU x) (v.kids.map aK):=Lq i x v.kids
    refine Lj _ _ p v (du i x v) (v.kids.length+1) (fun k=>List.replicate (k-1) (aK bb)) (iX hb v) hid (by omega) h0 (Co hi) (fun k hk=>?_) fun k hk=>?_
    · obtain rfl:k=0:=pE hk
      rw[e2,Gj,List.replicate_zero,ec]
      refine CO (u2:=du i x v) hb hK (Wm v x v.kids.length _ i _ _ hK ?_)
      exact fj jK 1 hK hK (Gi (v.kids.map aK) x v.kids.length i hi (cX _) hl (Q3 _) hK) rfl rfl (by simp_all) (by kernel_rfl) (by kernel_rfl) (by kernel_rfl) (by kernel_rfl)
    · obtain⟨j,rfl⟩:∃j,k=j+1:=⟨k-1,by grind[Nat.ne_of_beq_eq_false]⟩
      rw[e2,Gj,show j+1-1=j from rfl,List.replicate_succ]
      have hT:aq (v.kids.map aK++aK bb::List.replicate j (aK bb))=0:=by rw[←List.replicate_succ];grind[jO,lT]
      have hT2:aq (gd i (eU x) (v.kids.map aK)++List.replicate j (aK bb))=0:=jO (tX hK) (lT _)
      refine Ay (u2:=du i x v) hb hT hT2 (Wn v x v.kids.length _ i _ _ hT hT2 ?_)
      exact fj jK 1 hT hT2 (Gf (v.kids.map aK) x (aK bb) (List.replicate j (aK bb)) v.kids.length j i hi (cX _) hl (pH ..) (Q3 _) hT) rfl rfl (by simp_all) (by kernel_rfl) (by kernel_rfl) (by kernel_rfl) (by kernel_rfl)
/-- A kid is laid in. -/
theorem On(p:PId)(i:Nat)(x u:TUnit)(hn:nU u≤2^19)(ht:∀x,x∈bo u→x.head.length<2^30∧x.words.length<2^30)(hv:∀v,v∈bo u→fE p v=true→i≤v.kids.length):
    bX Tryz.prog G 161 [eU u,aV p,.func (.func 173) [] [.pptr [.int .i64 (.ofNat i)] 0 0,.pptr [eU x] 0 0]] (eU (dJ p (du i x) u)):=by
  have hb:aq [.pptr [.int .i64 (.ofNat i)] 0 0,.pptr [eU x] 0 0]=0:=by kernel_rfl
  refine oc _ _ p (du i x) hb u hn ht fun v hm hid=>?_
  have hi:=hv v hm hid
  have hkl:=bd v
  have hvu:=dM hm
  have hl:v.kids.length<2^20:=by omega
  have hK:=aX iQ v.kids
  by_cases h0:v.kids=[]
  · rw[h0]at hi
    obtain rfl:i=0:=by simp_all
    have e:(du 0 x v).kids =[x]:=by show wG 0 x v.kids=[x];rw[h0];rfl
    have e2:(du 0 x v).kids.map aK=[eU x]:=by rw[e,eD,aT];rfl
    refine Lk _ _ p v (du 0 x v) (iX hb v) hid h0 ?_ ?_
    · rw[e2];exact jL (u2:=du 0 x v) hb (by kernel_rfl) (by kernel_rfl) (WY v x [eU x] (Gh x true))
    · rw[e2];exact jL (u2:=du 0 x v) hb (by kernel_rfl) (by kernel_rfl) (WV v x [eU x] (Gg x true))
  · have e2:(du i x v).kids.map aK=gd i (eU x) (v.kids.map aK):=Lq i x v.kids
    refine Lj _ _ p v (du i x v) (v.kids.length+1) (fun k=>List.replicate (k-1) (aK bb)) (iX hb v) hid (by omega) h0 (Co hi) (fun k hk=>?_) fun k hk=>?_
    · obtain rfl:k=0:=pE hk
      rw[e2,Gj,List.replicate_zero,ec]
      refine CO (u2:=du i x v) hb hK (WU v x v.kids.length _ i _ _ hK ?_)
      exact fj jK 1 hK hK (Gi (v.kids.map aK) x v.kids.length i hi (cX _) hl (Q3 _) hK) rfl rfl (by simp_all) (by kernel_rfl) (by kernel_rfl) (by kernel_rfl) (by kernel_rfl)
    · obtain⟨j,rfl⟩:∃j,k=j+1:=⟨k-1,by grind[Nat.ne_of_beq_eq_false]⟩
      rw[e2,Gj,show j+1-1=j from rfl,List.replicate_succ]
      have hT:aq (v.kids.map aK++aK bb::List.replicate j (aK bb))=0:=by rw[←List.replicate_succ];grind[jO,lT]
      have hT2:aq (gd i (eU x) (v.kids.map aK)++List.replicate j (aK bb))=0:=jO (tX hK) (lT _)
      refine Ay (u2:=du i x v) hb hT hT2 (Wq v x v.kids.length _ i _ _ hT hT2 ?_)
      exact fj jK 1 hT hT2 (Gf (v.kids.map aK) x (aK bb) (List.replicate j (aK bb)) v.kids.length j i hi (cX _) hl (pH ..) (Q3 _) hT) rfl rfl (by simp_all) (by kernel_rfl) (by kernel_rfl) (by kernel_rfl) (by kernel_rfl)
theorem Oi(p:PId)(l:List PWord)(u:TUnit)(hn:nU u≤2^19)(ht:∀x,x∈bo u→x.head.length<2^30∧x.words.length<2^30):
    kP 161 [eU u,aV p,.func (.func 166) [] [.pptr [.ls (l.map aQ)] 0 0]] (eU (dJ p (lO l) u)):=by
  have hb:aq [.pptr [.ls (l.map aQ)] 0 0]=0:=by kernel_rfl
  refine oc _ _ p (lO l) hb u hn ht fun v hm hid=>?_
  have hkl:=bd v
  have hvu:=dM hm
  exact xT _ _ p v ((lO l) v) (iX hb v) hid (by omega) (jL hb (by kernel_rfl) (by kernel_rfl) (Xu v l))
theorem Om(p:PId)(l:List PWord)(u:TUnit)(hn:nU u≤2^19)(ht:∀x,x∈bo u→x.head.length<2^30∧x.words.length<2^30):
    kP 161 [eU u,aV p,.func (.func 168) [] [.pptr [.ls (l.map aQ)] 0 0]] (eU (dJ p (lO l) u)):=by
  have hb:aq [.pptr [.ls (l.map aQ)] 0 0]=0:=by kernel_rfl
  refine oc _ _ p (lO l) hb u hn ht fun v hm hid=>?_
  have hkl:=bd v
  have hvu:=dM hm
  exact xT _ _ p v ((lO l) v) (iX hb v) hid (by omega) (jL hb (by kernel_rfl) (by kernel_rfl) (XR v l))
theorem Ou(p:PId)(l:List PWord)(u:TUnit)(hn:nU u≤2^19)(ht:∀x,x∈bo u→x.head.length<2^30∧x.words.length<2^30):
    kP 161 [eU u,aV p,.func (.func 170) [] [.pptr [.ls (l.map aQ)] 0 0]] (eU (dJ p (zM l) u)):=by
  have hb:aq [.pptr [.ls (l.map aQ)] 0 0]=0:=by kernel_rfl
  refine oc _ _ p (zM l) hb u hn ht fun v hm hid=>?_
  have hkl:=bd v
  have hvu:=dM hm
  exact xT _ _ p v ((zM l) v) (iX hb v) hid (by omega) (jL hb (by kernel_rfl) (by kernel_rfl) (Yy v l))
theorem Ol(p:PId)(d:PDeed)(u:TUnit)(hn:nU u≤2^19)(ht:∀x,x∈bo u→x.head.length<2^30∧x.words.length<2^30):
    kP 161 [eU u,aV p,.func (.func 172) [] [.pptr [aY d] 0 0]] (eU (dJ p (o4 d.it.label) u)):=by
  have hb:aq [.pptr [aY d] 0 0]=0:=by kernel_rfl
  refine oc _ _ p (o4 d.it.label) hb u hn ht fun v hm hid=>?_
  have hkl:=bd v
  have hvu:=dM hm
  exact xT _ _ p v ((o4 d.it.label) v) (iX hb v) hid (by omega) (jL hb (by kernel_rfl) (by kernel_rfl) (XO v d))
end Go.Proofs.YtaepacpodblomaaGreatDoor
