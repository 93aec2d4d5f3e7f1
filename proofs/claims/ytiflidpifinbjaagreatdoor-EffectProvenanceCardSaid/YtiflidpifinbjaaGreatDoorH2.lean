/- Functions walked: what each of them answers, for the law that an act has touched the units that its number names, and that items are effective only while they are in force: part 2. Conditions: those that each theorem names. -/
import Derived.Test.YtiflidpifinbjaaGreatDoorH1
namespace Go.Proofs.YtiflidpifinbjaaGreatDoor
open Go Go.Ev
theorem WU(u:TUnit)(hb:lK []=true):kP 105 [eU u,.ls (([]:lap).map aq)] (.ls ((ed u []).map aU)):=by
  have hv:=vS [] (by simp) (λs h=>by grind)
  rw[H3 hb]
  have rr0 b' (h:(List.map aU [u])=b':=by(rw[eT,bQ];rfl)):=h;let q:=[av (uLx u)];exact bH Tryz.func105<|Kp 3 hv<|Kf 10 (Le.lsp (rr0 q)<|by rfl:Le _ (AV.ps q true))
def H6(u:TUnit)(s:PStep)(rs:lap)(z1000:lad):Prop:=ed u (s::rs)=gG rs z1000/\eB z1000<=2^22
noncomputable def H5(u:TUnit)(s:PStep)(rs:lap)(z1000:lad):laa×lai:=([AV.ptr 0 0 0 0,AV.ptr 1 0 0 0],[AObj.row 1 false 0 [AV.ls ((s::rs).map aq)],AObj.row 1 false 0 [AV.ls (z1000.map aU)]])
theorem SB(u:TUnit)(s:PStep)(rs:lap)(hn:nU u<=2^11)(hl:(s::rs).length<2^40)(hs:∀x,x∈s::rs->x.label.length<=2^39):kP 105 [eU u,.ls ((s::rs).map aq)] (.ls ((ed u (s::rs)).map aU)):=by
  have hv:=vS (s::rs) hl hs
  have hk:=Jz s
  have hpb:=Hw s u λx hx=>dT hx
  have hpm:nU u*nU u<=2^11*2^11:=Nat.mul_le_mul hn hn
  have hd:((s::rs).drop 1).length=rs.length:=rfl
  have rr0 b' (h:((ed u (s::rs)).map aU)=b':=by first|rfl|(rw[KL ‹_›];rfl)|(rw[hj0.1,JD])):=h;exact bH Tryz.func105<|Kp 3 hv<|Kn 0 (lK<|s::rs) (λ_=>Kf 0 (Le.lsn<|rr0 []:Le _ (ah))) λ_=>Mg 0<|Mj lad [3,5] (H5 u s rs) (H6 u s rs) (λa=>Kl 1 21 (ln aq<|s::rs)<|Kp 5 hk<|Kb 0 (ae s.kind 0&&ei s.label []) (λ_=>Kl 1 31 (Le.lsp (t:=true) (Eq.symm<|PX (f:=aU) (g:=Go.Ev.eU) (ws:=[u]) bQ) (aY 0:az ([av (uLx u)])=0))<|Mg 0<|M0 (.ren [1,2,0] [] [3,5])<|M1 (.frz 2 [3,5]) (cL rt rt ti)<|Mf<|a [u] (by exact⟨H4 (by omega) (by assumption),by grind[bD,mr]⟩:ed u (s::rs)=gG rs [u]/\eB [u]<=2^22)) λ_=>Mg 1<|M0 (.ren [1,2,0] [] [3,5,16,17])<|M1 (.frz 2 [3,5,16,17]) (cL rt rt ti)<|Ms (lH s u).isEmpty (λb=>Me (Io s rs u oA b)<|M1 (.obw 1<|aW []) (Yd bI rfl rfl)<|Mf<|a [] (by exact⟨by rw[xN (by omega) (by assumption),tQ.1 b],by grind⟩:ed u (s::rs)=gG rs []/\eB []<=2^22)) λb=>Mq (TW s rs u oA b) λb c=>M2 (.fzo 1 2 [3,5]<|b.2.2.map aU) (cL rt rt ti) (cL (aY b.1) (tA aU b.2.2 b.2.1 (oA:(b.2.2).length=b.2.1))<|aX gO b.2.2)<|Mf<|a b.2.2 (by exact⟨by rw[xN (by omega) (by assumption),c.2],by grind⟩:ed u (s::rs)=gG rs b.2.2/\eB b.2.2<=2^22)) λa b=>have:ed u (s::rs)=gG rs a/\eB a<=2^22:=b;K1 0 (.slp<|((s::rs).drop 1).map aq) (cL (hM 2 aq (s::rs) λ_=>rfl) (et (sA:1<=((s::rs).map aq).length) (oA:((s::rs).map aq).length<=((s::rs).map aq).length))<|aaf (f:=aq) (l:=s::rs) (k:=1))<|Kl 0 34 (ln aq<|List.drop 1<|s::rs)<|Mg 0<|M0 (.ren [1,0] [] [5,33,34,35])<|M1 (.frz 1 [5,33,34,35]) (et rt ti)<|OV aq (List.drop 1<|s::rs) a [5,33,34,35] (λa _ b=>([bY 0 0 0 0,aW<|((s::rs).drop 1).map aq,nV ((s::rs).drop 1).length,nV a],[aZ 1 false 0 [aW<|b.map aU]])) (λa b=>ed u (s::rs)=gG a b/\eB b<=2^22) sA (λ_ _ a _ _ _ b hj0=>Kh 0 b<|Kf 1<|ch<|rr0<|a.map aU) λa _ b _ _ c d e _ f _ g hj0=>have:b.length<=eB b:=yT _;Kt 0 f<|Mx g<|Kl 5 40 (ln aU b)<|Mg 0<|ky Nat Nat lad aU b [5,7,8,33,34,35,39,40,41] (λd _=>([bY 0 0 0 0,bY 1 0 0 0,ah,aW<|((s::rs).drop 1).map aq,nV ((s::rs).drop 1).length,nV a,aW<|b.map aU,nV b.length,nV d],[aZ 1 false 0 [aW<|b.map aU],aZ 2 false 0 [av [iV c.kind,aj c.label]]])) (λd _ e f g=>([bY 0 0 0 0,bY 1 0 0 0,aM 2 e 0 f none,aW<|((s::rs).drop 1).map aq,nV ((s::rs).drop 1).length,nV a,aW<|b.map aU,nV b.length,nV d],[aZ 1 false 0 [aW<|b.map aU],aZ 2 false 0 [av [iV c.kind,aj c.label]],aZ 8 true e<|g.map aU])) (λa=>cR c a=cR c b) (λa _ d e=>d=e.length/\e++cR c a=cR c b/\e.length+eB a<2^30) (by rfl) (λ_ _ _ _ _ b c=>Kh 0 b<|Kl 0 61 bI<|Kl 1 62 (dQ a)<|K1 0 (.frz 1 [5,33,34,35]) (et rt ti)<|Mf<|e []<|by exact fA hj0 c) (λd _ e f g i j k l n _ o _=>have p:=(o).trans<|congrArg some<|bQ g;have:=bT (J:=λa _=>cR c a=cR c b) (a:=()) l f;have:nU g+eB i<=eB b:=pc e l;have:g.kids.length<nU g:=bB g;have:nU g=1+eB g.kids:=jv g;Kt 0 n<|Mx p<|Kl 5 47 (ln aU g.kids)<|K1 0 (.frz 2 [5,7,8,33,34,35,39,40,41,46,47,48]) (cL rt rt ti)<|ky Nat Nat lad aU g.kids [5,7,8,33,34,35,39,40,41,46,47,48] (λe _=>([bY 0 0 0 0,bY 1 0 0 0,ah,aW<|((s::rs).drop 1).map aq,nV ((s::rs).drop 1).length,nV a,aW<|b.map aU,nV b.length,nV d,aW<|g.kids.map aU,nV g.kids.length,nV e],[aZ 1 false 0 [aW<|b.map aU],aZ 2 false 0 [av [iV c.kind,aj c.label]]])) (λe _ f i j=>([bY 0 0 0 0,bY 1 0 0 0,aM 2 f 0 i none,aW<|((s::rs).drop 1).map aq,nV ((s::rs).drop 1).length,nV a,aW<|b.map aU,nV b.length,nV d,aW<|g.kids.map aU,nV g.kids.length,nV e],[aZ 1 false 0 [aW<|b.map aU],aZ 2 false 0 [av [iV c.kind,aj c.label]],aZ 8 true f<|j.map aU])) (λa=>List.filter (bO c) a++cR c i=cR c b) (λa _ d e=>d=e.length/\e++(List.filter (bO c) a++cR c i)=cR c b/\e.length+(eB a+eB i)<2^30) (by simp_all[gA]) (λ_ _ _ _ _ a _=>Kh 0 a<|Kl 0 60 (dQ d)<|Kf 0<|j sA) (λa _ d e f j k l n p _ o _=>have o:=(o).trans<|congrArg some<|bQ f;have:=bT (J:=λa _=>List.filter (bO c) a++cR c i=cR c b) (a:=()) n e;have:nU f+eB j<=eB g.kids:=pc d n;Kt 0 p<|Mx o<|Kp 4 (ld f c)<|Mb (bO c f) (λ_=>K1 3 (.obj 3<|aZ 8 true 0<|List.map aU [f]) (congrArg (aZ 8 true 0)<|PX (f:=aU) (g:=Go.Ev.eU) (ws:=[f]) bQ)<|Kl 1 59 (dQ a)<|K1 0 (.ren [0,1,3,2] [3] [5,7,8,33,34,35,39,40,41,46,47,48]) (tS 8 true 0<|aX gO [f])<|M1 (.frz 3 [5,7,8,33,34,35,39,40,41,46,47,48]) (jp (tR 8 true 0 3<|aX gO [f]) rt rt ti)<|Mf<|l 0 1 [f] gR) λ_=>Kl 0 59 (dQ a)<|K1 0 (.frz 2 [5,7,8,33,34,35,39,40,41,46,47,48]) (cL rt rt ti)<|Mf<|k sA) (λ_ _ a e f _ _ _ g _=>Kh 0 g<|Kl 0 60 (dQ d)<|Kf 0<|k a e f gR) λa _ d e f j k l n _ p q r _ o _=>have o:=(o).trans<|congrArg some<|bQ l;have k:=bT (J:=λa d=>d.2.1=d.2.2.length/\d.2.2++(List.filter (bO c) a++cR c i)=cR c b/\d.2.2.length+(eB a+eB i)<2^30) (a:=(d,e,f)) q k;have:nU l+eB n<=eB g.kids:=pc j q;Kt 0 r<|Mx o<|Kp 4 (ld l c)<|Mb (bO c l) (λ_=>K1 2 .app (cL (aY d) (sA:e=(f.map aU).length) (by(refine aN (m:=2^31) ?_ ?_ ?_<;>omega):small (e+1) 120=true))<|M1 (.obj 2<|aZ 8 true (d+1)<|(f++[l]).map aU) (congrArg (aZ 8 true<|d+1)<|y8 (f:=aU) (g:=Go.Ev.eU) (l:=f) (ws:=[l]) bQ)<|Kl 1 59 (dQ a)<|K1 0 (.frz 3 [5,7,8,33,34,35,39,40,41,46,47,48]) (jp (tR 8 true (d+1) 3<|aX gO<|f++[l]) rt rt ti)<|Mf<|p (d+1) (e+1) (f++[l])<|by exact hB1 k (by omega)) λ_=>Kl 0 59 (dQ a)<|K1 0 (.frz 3 [5,7,8,33,34,35,39,40,41,46,47,48]) (jp (tR 8 true d 3<|aX gO f) rt rt ti)<|Mf<|p d e f<|by exact hB0 k (by omega)) (λ_ _ b c f _ _ _ g i=>let j:=List.map aU f;Kh 0 g<|Mg 0<|M2 (.fsl 2 [5,33,34,35] 61 j) (cL rt rt ti) (cL (aY b) (tA aU f c (oA:(f).length=c))<|aX gO f)<|Ml 61 (fe j false<|aX gO f)<|Kl 1 62 (dQ a)<|K1 0 (.frz 1 [5,33,34,35]) (et rt ti)<|Mf<|e f<|by exact fB hj0 i.2.1) λd _ e f g i j k l _ n o p _ q _=>have r:=(q).trans<|congrArg some<|bQ k;have j:=bT (J:=λa d=>d.2.1=d.2.2.length/\d.2.2++cR c a=cR c b/\d.2.2.length+eB a<2^30) (a:=(e,f,g)) o j;have:nU k+eB l<=eB b:=pc i o;have:k.kids.length<nU k:=bB k;have:nU k=1+eB k.kids:=jv k;Kt 0 p<|Mx r<|Kl 5 47 (ln aU k.kids)<|K1 0 (.frz 3 [5,7,8,33,34,35,39,40,41,46,47,48]) (jp (tR 8 true e 3<|aX gO g) rt rt ti)<|Xb aU k.kids e f g [5,7,8,33,34,35,39,40,41,46,47,48] (λe _ f g i=>([bY 0 0 0 0,bY 1 0 0 0,aM 2 f 0 g none,aW<|((s::rs).drop 1).map aq,nV ((s::rs).drop 1).length,nV a,aW<|b.map aU,nV b.length,nV d,aW<|k.kids.map aU,nV k.kids.length,nV e],[aZ 1 false 0 [aW<|b.map aU],aZ 2 false 0 [av [iV c.kind,aj c.label]],aZ 8 true f<|i.map aU])) (λa _ d e=>d=e.length/\e++(List.filter (bO c) a++cR c l)=cR c b/\e.length+(eB a+eB l)<2^30) (by(exact gB j)) (λ_ _ a e f _ _ _ g _=>Kh 0 g<|Kl 0 60 (dQ d)<|Kf 0<|n a e f gR) λa _ d e f g i j n o p r _ q _=>have q:=(q).trans<|congrArg some<|bQ j;have i:=bT (J:=λa d=>d.2.1=d.2.2.length/\d.2.2++(List.filter (bO c) a++cR c l)=cR c b/\d.2.2.length+(eB a+eB l)<2^30) (a:=(d,e,f)) p i;have:nU j+eB n<=eB k.kids:=pc g p;Kt 0 r<|Mx q<|Kp 4 (ld j c)<|Mb (bO c j) (λ_=>K1 2 .app (cL (aY d) (sA:e=(f.map aU).length) (by(refine aN (m:=2^31) ?_ ?_ ?_<;>omega):small (e+1) 120=true))<|M1 (.obj 2<|aZ 8 true (d+1)<|(f++[j]).map aU) (congrArg (aZ 8 true<|d+1)<|y8 (f:=aU) (g:=Go.Ev.eU) (l:=f) (ws:=[j]) bQ)<|Kl 1 59 (dQ a)<|K1 0 (.frz 3 [5,7,8,33,34,35,39,40,41,46,47,48]) (jp (tR 8 true (d+1) 3<|aX gO<|f++[j]) rt rt ti)<|Mf<|o (d+1) (e+1) (f++[j])<|by exact hB1 i (by omega)) λ_=>Kl 0 59 (dQ a)<|K1 0 (.frz 3 [5,7,8,33,34,35,39,40,41,46,47,48]) (jp (tR 8 true d 3<|aX gO f) rt rt ti)<|Mf<|o d e f<|by exact hB0 i (by omega)
theorem WY(u:TUnit)(p:lap)(hn:nU u<=2^11)(hl:p.length<2^40)(hs:∀x,x∈p->x.label.length<=2^39):kP 105 [eU u,.ls (p.map aq)] (.ls ((ed u p).map aU)):=by
  cases p with
  |nil=>exact WU u rfl
  |cons s rs=>grind[SB]
theorem Pm(u:TUnit)(p:lap)(L:lad)(hf:kP 105 [eU u,.ls (p.map aq)] (.ls (L.map aU)))(hL:L.length<=2^22):kP 65 [eU u,.ls (p.map aq)] (.ls ((L.map aF).map aK)):=by
  have rr0 b' (h:((L.map aF).map aK)=b':=by first|rfl|(rw[<-hj0];rfl)|(rw[<-hj0.2.2.1];simp)):=h;exact bH Tryz.func65<|Kp 4 hf<|Kl 0 11 (ln aU L)<|K1 0 (.frz 0 [5,10,11,12]) ti<|ky Nat Nat lam aU L [5,10,11,12] (λa _=>([ah,aW<|L.map aU,nV L.length,nV a],[])) (λa _ b c d=>([aM 0 b 0 c none,aW<|L.map aU,nV L.length,nV a],[aZ 3 true b<|d.map aK])) (λa=>a=L) (λa _ b c=>b=c.length/\(0:Nat)<c.length/\c++List.map aF a=List.map aF L/\c.length+a.length=L.length) (by rfl) (λ_ _ _ _ _ a hj0=>Kh 0 a<|Kf 1 (Le.lsn<|rr0 []:Le _ (ah))) (λa _ _ b c d _ e f g _ i _=>have i:=(i).trans<|congrArg some<|bQ c;have hj0:=bT (J:=λa _=>a=L) (a:=()) f b;Kt 0 g<|Mx i<|Kl 9 21 (jo a)<|Mg 0<|M0 (.ren [1,0] [] [5,10,11,12])<|M1 (.frz 1 [5,10,11,12]) (et rt ti)<|Mf<|e 0 1 [PId.mk c.act c.item c.n]<|by(refine⟨rfl,by simp,?_,?_⟩<;>(rw[<-hj0])<;>(first|rfl|grind))) (λ_ _ a b c _ _ _ d hj0=>Kh 0 d<|Mg 1<|M2 (.fsl 0 [] 4<|c.map aK) ti (cL (aY a) (tA aK c b (oA:(c).length=b))<|aX LQ c)<|Ml 4 (fe (c.map aK) false<|aX LQ c)<|Mf<|ch<|rr0<|c.map aK) λa _ b c d _ e f g _ i j k _ l _=>have l:=(l).trans<|congrArg some<|bQ f;have hj0:=bT (J:=λa b=>b.2.1=b.2.2.length/\(0:Nat)<b.2.2.length/\b.2.2++List.map aF a=List.map aF L/\b.2.2.length+a.length=L.length) (a:=(b,c,d)) j e;Kt 0 k<|Mx l<|K1 6 .app (cL (aY b) (sA:c=(d.map aK).length) (by(refine aN (m:=2^25) ?_ ?_ ?_<;>omega):small (c+1) 24=true))<|M1 (.obj 0<|aZ 3 true (b+1)<|(d++[PId.mk f.act f.item f.n]).map aK) (congrArg (aZ 3 true<|b+1)<|cO (f:=aK) (l:=d) (ws:=[PId.mk f.act f.item f.n]))<|Kl 1 21 (jo a)<|K1 0 (.frz 1 [5,10,11,12]) (et (tR 3 true (b+1) 1<|aX LQ<|d++[PId.mk f.act f.item f.n]) ti)<|Mf<|i (b+1) (c+1) (d++[PId.mk f.act f.item f.n])<|by(refine⟨by simp_all,by simp,?_,?_⟩<;>first|(rw[<-hj0.2.2.1,eT,iQ];rfl)|(rw[<-hj0.2.2.1];simp;done)|grind)
theorem Pg(u:TUnit)(p:lap)(hf:kP 65 [eU u,.ls (p.map aq)] (.ls (([]:lam).map aK))):kP 43 [eU u,.ls (p.map aq)] (.tuple [aK cZ,iV 7]):=by
  exact bH Tryz.func43<|Kp 4 hf<|Kf 8<|bA<|cX [av [iV 0,iV 0,iV 0],iV 7]
theorem Pi(u x:TUnit)(p:lap)(hf:kP 65 [eU u,.ls (p.map aq)] (.ls ([aF x].map aK))):kP 43 [eU u,.ls (p.map aq)] (.tuple [aK (aF x),iV 0]):=by
  exact bH Tryz.func43<|Kp 4 hf<|Kf 13<|bA<|cX [av [iV (aF x).a,iV (aF x).i,iV (aF x).n],iV 0]
theorem Ph(u:TUnit)(p:lap)(a b:PId)(r:lam)(hf:kP 65 [eU u,.ls (p.map aq)] (.ls ((a::b::r).map aK))):kP 43 [eU u,.ls (p.map aq)] (.tuple [aK cZ,iV 8]):=by
  have q1:ae (Int.ofNat (r.length+1+1)) 0=false:=rfl
  have q2:ae (Int.ofNat (r.length+1+1)) 1=false:=rfl
  exact bH Tryz.func43<|Kp 4 hf<|Kl 2 11 (ln aK<|a::b::r)<|Kf 8<|bA<|cX [av [iV 0,iV 0,iV 0],iV 8]
theorem Pe(u:TUnit)(p:lap)(hf:kP 105 [eU u,.ls (p.map aq)] (.ls ((ed u p).map aU)))(hn:nU u<=2^11):kP 43 [eU u,.ls (p.map aq)] (.tuple [aK (aC u p).1,iV (aC u p).2]):=by
  have ha:=Pm u p (ed u p) hf (KI p hn)
  cases e:ed u p with
  |nil=>grind[IX,Pg]
  | cons x r=>
    cases r with
    |nil=>grind[IZ,Pi]
    |cons y r=>grind[IQ,Ph]
noncomputable abbrev zU:AV:=.agg [iV 0,iV 0,iV 0,iV 0,.str [],.nils,.nils,.nils]
noncomputable abbrev eX(xs:laa):AObj:=.row 8 false 0 xs
theorem Wl{L Z:laa}{n i:Nat}(hn:L.length=n)(hi:i<n):((L++Z).drop (i+1)).take (n-(i+1))=L.drop (i+1):=by
  grind
theorem Wm{L Z:laa}{n i:Nat}(hn:L.length=n)(hi:i<n):bN (L++Z) (0+i) (L.drop (i+1))=L.eraseIdx i++(L.drop (n-1)++Z):=by
  unfold bN
  grind
theorem Fu{L Z:laa}{z:AV}{n i:Nat}(hn:L.length=n)(hi:i<n):bN (L.eraseIdx i++(L.drop (n-1)++Z)) (n-1) (List.replicate 1 z)=L.eraseIdx i++(z::Z):=by
  unfold bN
  have h1:(L.eraseIdx i).length=n-1:=by grind
  have h2:(L.drop (n-1)).length=1:=by grind
  grind
theorem neI{a b:Nat}(h:a≠b):ae (Int.ofNat a) (Int.ofNat b)=false:=by
  grind[sU]
theorem Tx(L Z:laa)(n k i:Nat)(hi:i+1<n)(hn:L.length=n)(hs:n<=2^20)(hf:dL 8 L=true)(hZ:Z.length=k)(hT:az (L++Z)=0):kD 221 [.slice 0 0 0 n (some (n+k)),nV i,nV (i+1)] (aw [eX (L++Z)]) (.slice 0 0 0 (n-1) (some (n+k))) (aw [eX (L.eraseIdx i++(zU::Z))]):=by
  have hq:ae (Int.ofNat i) (Int.ofNat (i+1))=false:=neI (by omega)
  let q:=AHeap.mk 1000000 (bL (aw [aZ 8 false 0 (L++Z)]) ([0]) Tr.nil);let q1:=aw [aZ 8 false 0 (L.eraseIdx i++(L.drop (n-1)++Z))];let q2:=aw [aZ 8 false 0 (L++Z)];let q3:=(some (aM 0 0 0 n (some (n+k))));let q4:=aM 0 0 (i+1) (n-(i+1)) (some (n+k-(i+1)));let q5:=(some (nV (i+1)));let q6:=(some (nV i));let q7:=(some (nV n));let q8:=AHeap.mk 1 (bL q2 ([0,0]) Tr.nil);let q9:=aM 0 0 0 (n-1) (some (n+k));let q10:=aM 0 0 (n-1) 1 (some (k+1));let q11:=aM 0 0 0 i (some (n+k));exact eg Tryz.func221 λa=>Ko 5 (by exact EE (xs:=L++Z) (l:=i) (h:=i+1) (m:=n) (by kernel_rfl) (by rfl) (by rfl) (by rfl) (by omega) (by omega) (by omega) (by omega) (by omega) (by omega) (by omega):bp q2 (dt (8) q2 q3 q6 q5 q7)=some (ARes.val (AV.slice 0 0 i 1 (some (n-i))) q2))<|Kh 2 hq<|Kv 4 (by exact iG (xs:=L++Z) (l:=0) (h:=i) (by kernel_rfl) (by rfl) (by rfl) (by omega) (by omega) (by omega) (by omega) (by omega) (by omega):bp (q) (dt (8) (q) q3 (none) q6 (none))=some (ARes.val q11 q))<|Kv 1 (by exact iG (xs:=L++Z) (l:=i+1) (h:=n) (by kernel_rfl) (by rfl) (by rfl) (by omega) (by omega) (by omega) (by omega) (by omega) (by omega):bp (q) (dt (8) (q) q3 q5 (none) (none))=some (ARes.val q4 q))<|Md rt (ic (tR 8 false 0 1 (oA:az (L++Z)=0))<|ic (tR 8 false 0 1 (oA:az (L++Z)=0)) rt) (by exact OZ (new:=L.drop (i+1)) rfl (zP rfl (Wl hn (by omega))) (sY hf) (λe=>by have:=congrArg List.length e;grind) (by grind) (by grind) (aN (m:=2^20) (by grind) (by omega) (by omega)) (by grind) (Wm hn (by omega)):fJ (dx (8) (120) (q8) ((some q11)) ((some q4)))=some (ARes.val q9 (AHeap.put q8 0 (AObj.row 8 false 0 (L.eraseIdx i++(L.drop (n-1)++Z))))))<|Ko 4 (by exact iG (xs:=L.eraseIdx i++(L.drop (n-1)++Z)) (l:=n-1) (h:=n) (by kernel_rfl) (by rfl) (by rfl) (by omega) (by omega) (by omega) (by omega) (by omega) (by omega):bp q1 (dt (8) q1 ((some q9)) ((some (nV (n-1)))) q7 (none))=some (ARes.val q10 q1))<|Mo (by exact LY rfl (by kernel_rfl) (Fu hn (by omega)):fJ (wS (8) (AV.agg [iV 0,iV 0,iV 0,iV 0,AV.str [],AV.nils,AV.nils,AV.nils]) q1 ((some q10)))=some (ARes.val (AV.tuple []) (aw [AObj.row 8 false 0 (L.eraseIdx i++zU::Z)])))<|Kf 1 a
theorem Tz(L Z:laa)(k i:Nat)(hn:L.length=i+1)(hs:i<2^20)(hk:0<k)(hZ:Z.length=k)(hT:az (L++Z)=0):kD 221 [.slice 0 0 0 (i+1) (some (i+1+k)),nV i,nV (i+1)] (aw [eX (L++Z)]) (.slice 0 0 0 i (some (i+1+k))) (aw [eX (L.eraseIdx i++(zU::Z))]):=by
  have hq:ae (Int.ofNat i) (Int.ofNat (i+1))=false:=neI (by omega)
  have hr:L.eraseIdx i++(L.drop (i+1-1)++Z)=L++Z:=by
    rw[Je,CE (by omega),eu,<-iQ,show i+1-1=i from rfl,LH]
  have hc:bN (L++Z) i (List.replicate 1 zU)=L.eraseIdx i++(zU::Z):=by
    have h:=Fu (z:=zU) (Z:=Z) hn (show i<i+1 by omega)
    grind
  let q:=aw [aZ 8 false 0 (L++Z)];let q1:=AHeap.mk 1000000 (bL q ([0]) Tr.nil);let q2:=(some (nV (i+1)));let q3:=aM 0 0 0 i (some (i+1+k));let q4:=(some (aM 0 0 0 (i+1) (some (i+1+k))));let q5:=(some (nV i));let q6:=AHeap.mk 1 (bL q ([0,0]) Tr.nil);let q7:=aM 0 0 (i+1) 0 (some k);let q8:=aM 0 0 i 1 (some (k+1));exact eg Tryz.func221 λa=>Ko 5 (by exact EE (xs:=L++Z) (l:=i) (h:=i+1) (m:=i+1) (by kernel_rfl) (by rfl) (by rfl) (by rfl) (by omega) (by omega) (by omega) (by omega) (by omega) (by omega) (by omega):bp q (dt (8) q q4 q5 q2 q2)=some (ARes.val (AV.slice 0 0 i 1 (some 1)) q))<|Kh 2 hq<|Kv 4 (by exact iG (xs:=L++Z) (l:=0) (h:=i) (by kernel_rfl) (by rfl) (by rfl) (by omega) (by omega) (by omega) (by omega) (by omega) (by omega):bp (q1) (dt (8) (q1) q4 (none) q5 (none))=some (ARes.val q3 q1))<|Kv 1 (by exact iG (xs:=L++Z) (l:=i+1) (h:=i+1) (by kernel_rfl) (by rfl) (by rfl) (by omega) (by omega) (by omega) (by omega) (by omega) (by omega):bp (q1) (dt (8) (q1) q4 q2 (none) (none))=some (ARes.val q7 q1))<|Md rt (ic (tR 8 false 0 1 (oA:az (L++Z)=0))<|ic (tR 8 false 0 1 (oA:az (L++Z)=0)) rt) (by exact T0 (zP rfl List.take_zero):fJ (dx (8) (120) (q6) ((some q3)) ((some q7)))=some (ARes.val q3 q6))<|Ko 4 (by exact iG (xs:=L++Z) (l:=i) (h:=i+1) (by kernel_rfl) (by rfl) (by rfl) (by omega) (by omega) (by omega) (by omega) (by omega) (by omega):bp q (dt (8) q ((some q3)) q5 q2 (none))=some (ARes.val q8 q))<|Mo (by exact LY rfl (by kernel_rfl) hc:fJ (wS (8) (AV.agg [iV 0,iV 0,iV 0,iV 0,AV.str [],AV.nils,AV.nils,AV.nils]) q ((some q8)))=some (ARes.val (AV.tuple []) (aw [AObj.row 8 false 0 (L.eraseIdx i++zU::Z)])))<|Kf 1 a
theorem Tq(L:laa)(i:Nat)(hn:L.length=i+1)(hs:i<2^20)(hT:az L=0):kD 221 [.slice 0 0 0 (i+1) (some (i+1)),nV i,nV (i+1)] (aw [eX L]) (.slice 0 0 0 i (some (i+1))) (aw [eX (L.eraseIdx i++[zU])]):=by
  have hq:ae (Int.ofNat i) (Int.ofNat (i+1))=false:=neI (by omega)
  have hr:L.eraseIdx i++(L.drop (i+1-1)++[])=L:=by
    rw[Je,CE (by omega),eu,eu,show i+1-1=i from rfl,LH]
  have hc:bN L i (List.replicate 1 zU)=L.eraseIdx i++[zU]:=by
    have h:=Fu (z:=zU) (Z:=[]) hn (show i<i+1 by omega)
    grind
  let q:=aw [aZ 8 false 0 L];let q1:=AHeap.mk 1000000 (bL q ([0]) Tr.nil);let q2:=(some (nV (i+1)));let q3:=aM 0 0 0 i (some (i+1));let q4:=(some (aM 0 0 0 (i+1) (some (i+1))));let q5:=(some (nV i));let q6:=aM 0 0 i 1 (some 1);let q7:=AHeap.mk 1 (bL q ([0,0]) Tr.nil);let q8:=aM 0 0 0 0 (some 0);exact eg Tryz.func221 λa=>Ko 5 (by exact EE (xs:=L) (l:=i) (h:=i+1) (m:=i+1) (by kernel_rfl) (by rfl) (by rfl) (by rfl) (by omega) (by omega) (by omega) (by omega) (by omega) (by omega) (by omega):bp q (dt (8) q q4 q5 q2 q2)=some (ARes.val q6 q))<|Kh 2 hq<|Kv 4 (by exact iG (xs:=L) (l:=0) (h:=i) (by kernel_rfl) (by rfl) (by rfl) (by omega) (by omega) (by omega) (by omega) (by omega) (by omega):bp (q1) (dt (8) (q1) q4 (none) q5 (none))=some (ARes.val q3 q1))<|Kv 1 (by exact MW (xs:=L) (l:=i+1) (h:=i+1) (by kernel_rfl) (by rfl) (by rfl) (by rfl) rfl:bp (q1) (dt (8) (q1) q4 q2 (none) (none))=some (ARes.val q8 q1))<|Md rt (ic (tR 8 false 0 1 (oA:az (L)=0))<|ic (tR 8 false 0 1 (oA:az (L)=0)) rt) (by exact T0 (zP rfl List.take_zero):fJ (dx (8) (120) (q7) ((some q3)) ((some q8)))=some (ARes.val q3 q7))<|Ko 4 (by exact iG (xs:=L) (l:=i) (h:=i+1) (by kernel_rfl) (by rfl) (by rfl) (by omega) (by omega) (by omega) (by omega) (by omega) (by omega):bp q (dt (8) q ((some q3)) q5 q2 (none))=some (ARes.val q6 q))<|Mo (by exact LY rfl (by kernel_rfl) hc:fJ (wS (8) (AV.agg [iV 0,iV 0,iV 0,iV 0,AV.str [],AV.nils,AV.nils,AV.nils]) q ((some q6)))=some (ARes.val (AV.tuple []) (aw [AObj.row 8 false 0 (L.eraseIdx i++[zU])])))<|Kf 1 a
theorem TU(L Z:laa)(n i:Nat)(hi:i<n)(hn:L.length=n)(hs:n<=2^20)(hf:dL 8 L=true)(hT:az (L++Z)=0):kD 221 [.slice 0 0 0 n (some (n+Z.length)),nV i,nV (i+1)] (aw [eX (L++Z)]) (.slice 0 0 0 (n-1) (some (n+Z.length))) (aw [eX (L.eraseIdx i++(zU::Z))]):=by
  rcases fg (i+1) n with h|h
  · exact Tx L Z n _ i h hn hs hf rfl hT
  · obtain rfl:n=i+1:=by omega
    cases Z with
    |nil=>rw[eu];rw[eu]at hT;exact Tq L i hn (by omega) hT
    |cons z r=>exact Tz L (z::r) _ i hn (by omega) (pU _) rfl hT
def gL(i:Nat)(x:AV)(l:laa):laa:=l.take i++(x::l.drop i)
theorem A8{i:Nat}{x:AV}{l:laa}(h:i<=l.length):(gL i x l).length=l.length+1:=by
  grind[gL]
theorem HD{x:AV}{l:laa}{n:Nat}(h:l.length=n):gL n x l=l++[x]:=by
  grind[gL]
theorem abb(n:Nat):ae (Int.ofNat n) (Int.ofNat n)=true:=be _
theorem acn{a b:Nat}(h:a<b):aE (Int.ofNat a) (Int.ofNat b)=true:=mh (by simp_all)
theorem aco{a b:Nat}(h:b<=a):aE (Int.ofNat a) (Int.ofNat b)=false:=jC (by simp_all)
theorem Wd{L Z:laa}{x z:AV}{n:Nat}(h:L.length=n):bN (L++z::Z) (0+n) [x]=gL n x L++Z:=by
  unfold bN
  rw[HD h,fx,<-h,List.take_left,show(L++z::Z).drop (L.length+[x].length)=Z by rw[<-zb,List.drop_left];rfl]
theorem Vd{L Z:laa}{z:AV}{n i:Nat}(h:L.length=n)(hi:i<n):bN (L++z::Z) (i+1) (L.drop i)=L.take (i+1)++(L.drop i++Z):=by
  unfold bN
  rw[List.take_append_of_le_length (by omega),iQ,zw,show i+1+(L.length-i)=L.length+1 by omega,<-zb,List.drop_left];rfl
theorem RE{L Z:laa}{x:AV}{n i:Nat}(h:L.length=n)(hi:i<n):bN (L.take (i+1)++(L.drop i++Z)) i [x]=gL i x L++Z:=by
  unfold bN gL
  grind
theorem Vj{L:laa}{z x:AV}{n i:Nat}(h:L.length=n)(hi:i<n):bN (L.take i++List.replicate (n+1-i) z) i [x]=L.take i++(x::List.replicate (n-i) z):=by
  unfold bN
  have h1:(L.take i).length=i:=by grind
  have e:n+1-i=(n-i)+1:=by omega
  rw[List.take_append_of_le_length (by omega),za (by omega),<-zb]
  simp_all
theorem RC{L:laa}{z x:AV}{n i:Nat}(h:L.length=n)(hi:i<n):bN (L.take i++(x::List.replicate (n-i) z)) (i+1) (L.drop i)=gL i x L:=by
  unfold bN gL
  have h1:(L.take i).length=i:=by grind
  have h2:(L.take i++(x::List.replicate (n-i) z)).length=n+1:=by grind
  have e:(L.take i++(x::List.replicate (n-i) z)).drop (i+1+(L.drop i).length)=[]:=CE (by grind)
  grind
theorem SK(L Z:laa)(x z:AV)(t:Bool)(n k:Nat)(hn:L.length=n)(hs:n<2^20)(hk:Z.length=k)(hx:dL 8 [x]=true):kD 131 [.slice 0 0 0 n (some (n+(k+1))),nV n,.ps [x] t] (aw [eX (L++z::Z)]) (.slice 0 0 0 (n+1) (some (n+(k+1)))) (aw [eX (gL n x L++Z)]):=by
  have hq:=abb n
  let q:=aw [aZ 8 false 0 (L++z::Z)];exact eg Tryz.func131 λa=>Ko 2 (by exact iG (xs:=L++z::Z) (l:=n) (h:=n) (by kernel_rfl) (by rfl) (by rfl) (by omega) (by omega) (by omega) (by omega) (by omega) (by omega):bp q (dt (8) q ((some (AV.slice 0 0 0 n (some (n+(k+1)))))) ((some (nV n))) (none) (none))=some (ARes.val (AV.slice 0 0 n 0 (some (k+1))) q))<|Kt 11 hq<|Ko 1 (by exact OZ (new:=[x]) rfl (by rfl) hx (jO _ _) (by simp_all) (by simp_all) (aN (m:=2^20) (by grind) (by omega) (by omega)) rfl (Wd hn):fJ (dx (8) (120) (aw [AObj.row 8 false 0 (L++z::Z)]) ((some (AV.slice 0 0 0 n (some (n+(k+1)))))) ((some (AV.ps [x] t))))=some (ARes.val (AV.slice 0 0 0 (n+1) (some (n+(k+1)))) (aw [AObj.row 8 false 0 (gL n x L++Z)])))<|Kf 0 a
theorem SJ(L:laa)(x:AV)(t:Bool)(n:Nat)(hn:L.length=n)(hs:n<2^20)(hx:dL 8 [x]=true)(hT:az L=0)(hI:az (gL n x L)=0):kD 131 [.slice 0 0 0 n (some n),nV n,.ps [x] t] (aw [eX L]) (.ls (gL n x L)) (aw [eX L]):=by
  have hq:=abb n
  have hIl:(gL n x L).length=n+1:=(A8 (by omega)).trans (by omega)
  let q:=aw [aZ 8 false 0 L];exact eg Tryz.func131 λa=>Ko 2 (by exact MW (xs:=L) (l:=n) (h:=n) (by kernel_rfl) (by rfl) (by rfl) (by rfl) rfl:bp q (dt (8) q ((some (AV.slice 0 0 0 n (some n)))) ((some (nV n))) (none) (none))=some (ARes.val (AV.slice 0 0 0 0 (some 0)) q))<|Kt 11 hq<|Ko 1 (by exact XX (new:=[x]) rfl (by rfl) hx (jO _ _) (by simp_all) (aN (m:=2^20) (by grind) (by omega) (by omega)) (by grind[HD]) ((A8 (by omega)).trans (by omega)):fJ (dx (8) (120) (aw [AObj.row 8 false 0 L]) ((some (AV.slice 0 0 0 n (some n)))) ((some (AV.ps [x] t))))=some (ARes.val (AV.slice 1 0 0 (n+1) none) (aw [AObj.row 8 false 0 L,AObj.row 8 true 0 (gL n x L)])))<|Mg 0<|M2 (.fsl 1 [] 6<|gL n x L) (et (tR 8 false 0 1 (oA:az (L)=0)) ti) (cL (aY 0) (Xn (oA:(gL n x L).length=n+1)) (oA:az (gL n x L)=0))<|Ml 6 (fe (gL n x L) false (oA:az (gL n x L)=0))<|Mf a
theorem SX(L Z:laa)(x z:AV)(t:Bool)(n k i:Nat)(hi:i<n)(hn:L.length=n)(hs:n<2^20)(hk:Z.length=k)(hx:dL 8 [x]=true)(hf:dL 8 L=true)(hT:az (L++z::Z)=0)(hov:kD 218 [.ps [x] t,.slice 0 0 (i+1) (n-i) (some (n+(k+1)-(i+1)))] (aw [eX (L++z::Z)]) (.bool false) (aw [eX (L++z::Z)])):kD 131 [.slice 0 0 0 n (some (n+(k+1))),nV i,.ps [x] t] (aw [eX (L++z::Z)]) (.slice 0 0 0 (n+1) (some (n+(k+1)))) (aw [eX (gL i x L++Z)]):=by
  have hq:ae (Int.ofNat i) (Int.ofNat n)=false:=neI (by omega)
  have hl:aE (Int.ofNat (n+(k+1))) (Int.ofNat (n+1))=false:=aco (by omega)
  let q:=aw [aZ 8 false 0 (L++z::Z)];let q1:=aw [aZ 8 false 0 (L.take (i+1)++(L.drop i++Z))];let q2:=AHeap.mk 1000000 (bL q ([0]) Tr.nil);let q3:=aM 0 0 0 (n+1) (some (n+(k+1)));let q4:=aM 0 0 i (n+1-i) (some (n+(k+1)-i));let q5:=(some (nV i));let q6:=aM 0 0 (i+1) (n-i) (some (n+(k+1)-(i+1)));let q7:=(some (nV (i+1)));let q8:=(some (aM 0 0 0 n (some (n+(k+1)))));exact eg Tryz.func131 λa=>Ko 2 (by exact iG (xs:=L++z::Z) (l:=i) (h:=n) (by kernel_rfl) (by rfl) (by rfl) (by omega) (by omega) (by omega) (by omega) (by omega) (by omega):bp q (dt (8) q q8 q5 (none) (none))=some (ARes.val (AV.slice 0 0 i (n-i) (some (n+(k+1)-i))) q))<|Kh 11 hq<|Kl 2 28 (jo n)<|Kh 2 hl<|Kl 3 59 (jo n)<|Mo (by exact iG (xs:=L++z::Z) (l:=0) (h:=n+1) (by kernel_rfl) (by rfl) (by rfl) (by omega) (by omega) (by omega) (by omega) (by omega) (by omega):bp q (dt (8) q q8 (none) ((some (nV (n+1)))) (none))=some (ARes.val q3 q))<|Kl 5 65 (jo i)<|Mo (by exact iG (xs:=L++z::Z) (l:=i+1) (h:=n+1) (by kernel_rfl) (by rfl) (by rfl) (by omega) (by omega) (by omega) (by omega) (by omega) (by omega):bp q (dt (8) q ((some q3)) q7 (none) (none))=some (ARes.val q6 q))<|Me hov<|Mg 4<|Ma (jo i)<|Mv (by exact iG (xs:=L++z::Z) (l:=i+1) (h:=n+1) (by kernel_rfl) (by rfl) (by rfl) (by omega) (by omega) (by omega) (by omega) (by omega) (by omega):bp (q2) (dt (8) (q2) ((some q3)) q7 (none) (none))=some (ARes.val q6 q2))<|Kv 1 (by exact iG (xs:=L++z::Z) (l:=i) (h:=n+1) (by kernel_rfl) (by rfl) (by rfl) (by omega) (by omega) (by omega) (by omega) (by omega) (by omega):bp (q2) (dt (8) (q2) ((some q3)) q5 (none) (none))=some (ARes.val q4 q2))<|Md rt (ic (tR 8 false 0 1 (oA:az (L++z::Z)=0))<|ic (tR 8 false 0 1 (oA:az (L++z::Z)=0)) rt) (by exact N0 (zs:=((L++z::Z).drop i).take (n+1-i)) rfl (zP rfl rfl) (by grind[sY]) (by grind) (by grind[Vd]):fJ (vu (8) ((AHeap.mk 1 (bL (aw [AObj.row 8 false 0 (L++z::Z)]) ([0,0]) Tr.nil))) ((some (AV.slice 0 0 (i+1) (n-i) (some (n+(k+1)-(i+1)))))) ((some (AV.slice 0 0 i (n+1-i) (some (n+(k+1)-i))))))=some (ARes.val (nV (n-i)) (AHeap.put (AHeap.mk 1 (bL (aw [AObj.row 8 false 0 (L++z::Z)]) ([0,0]) Tr.nil)) 0 (AObj.row 8 false 0 (L.take (i+1)++(L.drop i++Z))))))<|Ko 1 (by exact iG (xs:=L.take (i+1)++(L.drop i++Z)) (l:=i) (h:=n+1) (by kernel_rfl) (by rfl) (by rfl) (by omega) (by omega) (by omega) (by omega) (by omega) (by omega):bp q1 (dt (8) q1 ((some q3)) q5 (none) (none))=some (ARes.val q4 q1))<|Ko 0 (by exact N0 (zs:=[x]) rfl (by rfl) (sV hx) (by grind) (by grind[List.take_of_length_le,RE]):fJ (vu (8) q1 ((some q4)) ((some (AV.ps [x] t))))=some (ARes.val (iV 1) (aw [AObj.row 8 false 0 (gL i x L++Z)])))<|Kf 1 a
theorem SZ(L:laa)(x:AV)(t:Bool)(n i:Nat)(hi:i<n)(hn:L.length=n)(hs:n<2^20)(hx:dL 8 [x]=true)(hf:dL 8 L=true)(hT:az L=0)(hT2:az (L.take i++(x::List.replicate (n-i) zU))=0)(hI:az (gL i x L)=0):kD 131 [.slice 0 0 0 n (some n),nV i,.ps [x] t] (aw [eX L]) (.ls (gL i x L)) (aw [eX L]):=by
  have hq:ae (Int.ofNat i) (Int.ofNat n)=false:=neI (by omega)
  have hl:aE (Int.ofNat n) (Int.ofNat (n+1))=true:=acn (by omega)
  have hIl:(gL i x L).length=n+1:=(A8 (by omega)).trans (by omega)
  let q:=aw [aZ 8 false 0 L,aZ 8 true 0 (L.take i++x::List.replicate (n-i) zU)];let q1:=aw [aZ 8 false 0 L,aZ 8 true 0 (L.take i++List.replicate (n+1-i) zU)];let q2:=aw [aZ 8 false 0 L];let q3:=(some (nV i));let q4:=AHeap.mk 1000000 (bL q ([0]) Tr.nil);let q5:=aM 0 0 i (n-i) (some (n-i));let q6:=(some (aM 0 0 0 n (some n)));let q7:=AHeap.mk 2 (bL q ([1,0]) Tr.nil);let q8:=aM 1 0 i (n+1-i) none;let q9:=aM 1 0 0 (n+1) none;let q10:=aM 0 0 0 i (some n);exact eg Tryz.func131 λa=>Ko 2 (by exact iG (xs:=L) (l:=i) (h:=n) (by kernel_rfl) (by rfl) (by rfl) (by omega) (by omega) (by omega) (by omega) (by omega) (by omega):bp q2 (dt (8) q2 q6 q3 (none) (none))=some (ARes.val q5 q2))<|Kh 11 hq<|Kl 2 28 (jo n)<|Kt 2 hl<|Ko 1 (by exact iG (xs:=L) (l:=0) (h:=i) (by kernel_rfl) (by rfl) (by rfl) (by omega) (by omega) (by omega) (by omega) (by omega) (by omega):bp q2 (dt (8) q2 q6 (none) q3 (none))=some (ARes.val q10 q2))<|Kl 2 37 (jo n)<|Ko 0 (by(show bp _ (some (AV.int .i64 (IntKind.i64.wrap (Int.ofNat (n+1)-Int.ofNat i))))=_;rw[show(Int.ofNat (n+1)-Int.ofNat i)=Int.ofNat (n+1-i) by grind,yB (by simp_all) (by grind)];rfl):bp (aw [AObj.row 8 false 0 L]) (Uf (qm BinOp.sub (Tryz.prog.underlying 3) (dW Tryz.prog 3) (dV Tryz.prog 3) (eW Tryz.prog 10 3 0)) ((some (nV (n+1)))) ((some (nV i))))=some (ARes.val (nV (n+1-i)) (aw [AObj.row 8 false 0 L])))<|Mo (by exact Vb rfl (by omega) (by omega) (by kernel_rfl) (aN (m:=2^21) (by omega) (by omega) (by omega)) (aN (m:=2^21) (by omega) (by omega) (by omega)) (by simp_all) (by grind):fJ (Dn (8) (120) (AV.agg [iV 0,iV 0,iV 0,iV 0,AV.str [],AV.nils,AV.nils,AV.nils]) q2 ((some q10)) ((some (nV (n+1-i)))))=some (ARes.val q9 q1))<|Ko 2 (by exact MX (xs:=L.take i++List.replicate (n+1-i) zU) (l:=i) (h:=n+1) (by kernel_rfl) (by rfl) (by rfl) (by omega) (by grind) (by omega) (by omega):bp q1 (dt (8) q1 ((some q9)) q3 (none) (none))=some (ARes.val q8 q1))<|Ko 0 (by exact N0 (zs:=[x]) rfl (by rfl) (sV hx) (by grind) (by grind[List.take_of_length_le,Vj]):fJ (vu (8) q1 ((some q8)) ((some (AV.ps [x] t))))=some (ARes.val (iV 1) q))<|Mg 2<|Ma (jo i)<|Mv (by exact MX (xs:=L.take i++(x::List.replicate (n-i) zU)) (l:=i+1) (h:=n+1) (by kernel_rfl) (by rfl) (by rfl) (by omega) (by grind) (by omega) (by omega):bp ((AHeap.mk 1000000 (bL (aw [AObj.row 8 false 0 L,AObj.row 8 true 0 (L.take i++x::List.replicate (n-i) zU)]) ([1]) Tr.nil))) (dt (8) ((AHeap.mk 1000000 (bL (aw [AObj.row 8 false 0 L,AObj.row 8 true 0 (L.take i++x::List.replicate (n-i) zU)]) ([1]) Tr.nil))) ((some (AV.slice 1 0 0 (n+1) none))) ((some (nV (i+1)))) (none) (none))=some (ARes.val (AV.slice 1 0 (i+1) (n-i) none) (AHeap.mk 1000000 (bL (aw [AObj.row 8 false 0 L,AObj.row 8 true 0 (L.take i++x::List.replicate (n-i) zU)]) ([1]) Tr.nil))))<|Kv 1 (by exact iG (xs:=L) (l:=i) (h:=n) (by kernel_rfl) (by rfl) (by rfl) (by omega) (by omega) (by omega) (by omega) (by omega) (by omega):bp (q4) (dt (8) (q4) q6 q3 (none) (none))=some (ARes.val q5 q4))<|Md rt (ic (tR 8 true 0 2 (oA:az (L.take i++x::List.replicate (n-i) zU)=0))<|ic (tR 8 false 0 2 (oA:az (L)=0)) rt) (by exact N0 (zs:=L.drop i) rfl (zP rfl (za (by simp_all))) (sV (sY hf)) (by simp_all) (by grind[List.length_drop,RC]):fJ (vu (8) (q7) ((some (AV.slice 1 0 (i+1) (n-i) none))) ((some q5)))=some (ARes.val (nV (n-i)) (AHeap.put q7 1 (AObj.row 8 true 0 (gL i x L)))))<|Mg 1<|M2 (.fsl 1 [] 6<|gL i x L) (et (tR 8 false 0 1 (oA:az (L)=0)) ti) (cL (aY 0) (Xn (oA:(gL i x L).length=n+1)) (oA:az (gL i x L)=0))<|Ml 6 (fe (gL i x L) false (oA:az (gL i x L)=0))<|Mf a
theorem HB(x:TUnit)(t:Bool):kP 131 [.nils,iV 0,.ps [eU x] t] (.ls [eU x]):=by
  have hx:dL 8 [eU x]=true:=by kernel_rfl
  have hIl:[eU x].length=1:=rfl
  have hI:az [eU x]=0:=by kernel_rfl
  let q:=[av (uLx x)];exact bH Tryz.func131<|Ko 18 (by(simp only[dx,ge,kh,kI,gE,hx];rfl):fJ (dx (8) (120) (aw []) ((some (AV.nils))) ((some (AV.ps [AV.agg (uLx x)] t))))=some (ARes.val (AV.slice 0 0 0 1 none) (aw [AObj.row 8 true 0 [eU x]])))<|K1 0 (.frz 0 [6]) ti<|Mf (fe q _<|by rfl:Le _ (AV.ps q false))
theorem HA(x:TUnit)(t:Bool):kP 131 [.ps [] true,iV 0,.ps [eU x] t] (.ls [eU x]):=by
  have hx:dL 8 [eU x]=true:=by kernel_rfl
  have hIl:[eU x].length=1:=rfl
  have hI:az [eU x]=0:=by kernel_rfl
  let q:=[av (uLx x)];exact bH Tryz.func131<|Ko 18 (by(simp only[dx,ge,kh,kI,gE,hx];rfl):fJ (dx (8) (120) (aw []) ((some (AV.ps [] true))) ((some (AV.ps [AV.agg (uLx x)] t))))=some (ARes.val (AV.slice 0 0 0 1 none) (aw [AObj.row 8 true 0 [eU x]])))<|K1 0 (.frz 0 [6]) ti<|Mf (fe q _<|by rfl:Le _ (AV.ps q false))
noncomputable def L2:TypeInfo:=(Tryz.prog.info? 31).getD default
theorem Qm:Tryz.prog.info? 31=some L2:=by kernel_rfl
theorem Z4:Le (aU bo) zU:=bJ (.cons (Le.refl _) (.cons (Le.refl _) (.cons (Le.refl _) (.cons (Le.refl _) (.cons (Le.refl _) (.cons Le.nils (.cons Le.nils (.cons Le.nils .nil)))))))) rfl
theorem Ju:L2.size=8:=by kernel_rfl
theorem Gc:L2.bytes=120:=by kernel_rfl
theorem aa6(l:lad):dL 8 (l.map aU)=true:=gN (λu=>by cases u;rfl) l
theorem FA(xs:lad)(hne:xs≠[])(hl:xs.length<=2^20)(a b c:AObj):kC 217 [.ls (xs.map aU)] (aw [a,b,c])
    (λv h=>∃k:Nat,True/\v=.slice 3 0 0 xs.length (some (xs.length+k))/\h=aw [a,b,c,eX ((xs++List.replicate k bo).map aU)]):=by
  simp only[mT,List.map_replicate]
  have hn:xs.map aU≠[]:=λh=>hne (List.map_eq_nil_iff.1 h)
  have hf:=aa6 xs
  have hsm:small (xs.map aU).length 120=true:=by grind[aN]
  have hlen:xs.length=(xs.map aU).length:=(cw ..).symm
  rw[hlen]
  generalize xs.map aU=L at hn hf hsm
  refine aO.enter 2 (fn:=Tryz.f217) Tryz.func217 (by kernel_rfl) rfl ⟨by kernel_rfl,by kernel_rfl⟩ ?_
  refine aA.seq (aA.mono (Fz na gM (ev 40) (s':=⟨eh 8 [(0,.ls L),(2,.nils)],aw [a,b,c]⟩) (.go 0 .fin) (by kernel_rfl)) ?_)
  rintro _ _ ⟨rfl,rfl⟩
  refine aA.seq (aA.seq (aA.mono (yP gM (ev 40) (Ψ:=λs=>s=⟨eh 8 [(0,.ls L),(2,.nils),(3,.ps L false),(4,.bool false)],aw [a,b,c]⟩) (.go 0 (.nz 3 .abs (.go 0 .fin)))
    (W:=(L=[]->False)/\(⟨eh 8 [(0,.ls L),(2,.nils),(3,.ps L false),(4,.bool false)],aw [a,b,c]⟩:St)=⟨eh 8 [(0,.ls L),(2,.nils),(3,.ps L false),(4,.bool false)],aw [a,b,c]⟩) ⟨hn,rfl⟩ (by kernel_rfl)) ?_))
  rintro _ _ ⟨rfl,rfl⟩
  refine aA.cond (t:=false) (by kernel_rfl) (λh=>by grind) λ_=>aA.skip ?_
  refine aA.seq (aA.region ?_)
  show cE _ _ _ _ [_,_,_,_] _ _
  refine cE.one (s':=⟨eh 8 [(0,.ls L),(2,.nils),(3,.ps L false),(4,.bool false),(5,.ps [] true)],aw [a,b,c]⟩) (ev 40) (by kernel_rfl) ?_
  refine cE.one (s':=⟨eh 8 [(0,.ls L),(2,.nils),(3,.ps L false),(4,.bool false),(5,.ps [] true),(6,.ls L)],aw [a,b,c]⟩) (ev 40) (by kernel_rfl) ?_
  refine sg (I:=λ_=>True) (r:=λk:Nat=>.slice 3 0 0 L.length (some (L.length+k))) (H:=λk=>aw [a,b,c,.row 8 false 0 (L++List.replicate k (aU bo))]) (by kernel_rfl)
    (λpl M a w g1 g2 g3=>vM (z:=aU bo) (z0:=zU) (xs:=L) (t:=25) (tx:=25) (e:=31) (i:=L2) Ju Gc (by kernel_rfl) ⟨31,by kernel_rfl⟩ Qm (by kernel_rfl) Z4 (by kernel_rfl) (by kernel_rfl) hn hf (by kernel_rfl) hsm (by omega) pl M a w g1 g2 g3) λk _=>?_
  refine⟨eh 8 [(0,.ls L),(2,.nils),(3,.ps L false),(4,.bool false),(5,.ps [] true),(6,.ls L),(7,.slice 3 0 0 L.length (some (L.length+k)))],by kernel_rfl,?_⟩
  refine cE.one (s':=⟨eh 8 [(0,.ls L),(2,.slice 3 0 0 L.length (some (L.length+k))),(3,.ps L false),(4,.bool false),(5,.ps [] true),(6,.ls L),(7,.slice 3 0 0 L.length (some (L.length+k)))],aw [a,b,c,.row 8 false 0 (L++List.replicate k (aU bo))]⟩) (ev 40) (by kernel_rfl) (cE.nil (aA.ret ⟨λid h=>(by grind),.slice 3 0 0 L.length (some (L.length+k)),by kernel_rfl,k,trivial,by kernel_rfl,by kernel_rfl⟩))
noncomputable abbrev eZ(u:TUnit)(K:AV):AObj:=.row 8 false 0 [.agg [iV u.act,iV u.item,iV u.n,iV u.kind,.str u.label,.ls (u.head.map aQ),.ls (u.words.map aQ),K]]
theorem Z7(u:TUnit)(n c i:Nat)(R R':laa)(hT:az R=0)(hT2:az R'=0)(hi:i<n)(hs:n<=2^20)(hD:kD 221 [.slice 1 0 0 n (some c),nV i,nV (i+1)] (aw [eZ u (.slice 1 0 0 n (some c)),eX R]) (.slice 1 0 0 (n-1) (some c)) (aw [eZ u (.slice 1 0 0 n (some c)),eX R'])):
    kD 220 [.ptr 0 0 0 0,.pptr [nV i] 0 0] (aw [eZ u (.slice 1 0 0 n (some c)),eX R]) (.tuple []) (aw [eZ u (.slice 1 0 0 (n-1) (some c)),eX R']):=by
  exact eg Tryz.func220 λa=>Mg 6<|Ma (jo i)<|M3 (.efx false (aM 1 0 0 (n-1)<|some c)<|aw [aZ 8 false 0 [av [iV u.act,iV u.item,iV u.n,iV u.kind,aj u.label,aW<|u.head.map aQ,aW<|u.words.map aQ,aM 1 0 0 n<|some c]],aZ 8 false 0 R']) (cL (tR 8 false 0 2 (oA:az (R)=0)) rt ti) ti hD<|Kf 2 a
theorem YO(u x:TUnit)(n c i:Nat)(R R':laa)(hT:az R=0)(hT2:az R'=0)(hD:kD 131 [.slice 1 0 0 n (some c),nV i,.ps [eU x] true] (aw [eZ u (.slice 1 0 0 n (some c)),eX R]) (.slice 1 0 0 (n+1) (some c)) (aw [eZ u (.slice 1 0 0 n (some c)),eX R'])):
    kD 130 [.ptr 0 0 0 0,.pptr [nV i] 0 0,.pptr [eU x] 0 0] (aw [eZ u (.slice 1 0 0 n (some c)),eX R]) (.tuple []) (aw [eZ u (.slice 1 0 0 (n+1) (some c)),eX R']):=by
  exact eg Tryz.func130 λa=>Mg 7<|M3 (.efx false (aM 1 0 0 (n+1)<|some c)<|aw [aZ 8 false 0 [av [iV u.act,iV u.item,iV u.n,iV u.kind,aj u.label,aW<|u.head.map aQ,aW<|u.words.map aQ,aM 1 0 0 n<|some c]],aZ 8 false 0 R']) (cL (tR 8 false 0 2 (oA:az (R)=0)) rt ti) ti hD<|Kf 2 a
theorem YN(u x:TUnit)(n c i:Nat)(R Y:laa)(hT:az R=0)(hD:kD 131 [.slice 1 0 0 n (some c),nV i,.ps [eU x] true] (aw [eZ u (.slice 1 0 0 n (some c)),eX R]) (.ls Y) (aw [eZ u (.slice 1 0 0 n (some c)),eX R])):
    kD 130 [.ptr 0 0 0 0,.pptr [nV i] 0 0,.pptr [eU x] 0 0] (aw [eZ u (.slice 1 0 0 n (some c)),eX R]) (.tuple []) (aw [eZ u (.ls Y),eX R]):=by
  let q:=[av [iV u.act,iV u.item,iV u.n,iV u.kind,aj u.label,aW (u.head.map aQ),aW (u.words.map aQ),aM 1 0 0 n (some c)]];exact eg Tryz.func130 λa=>Mg 7<|M3 (.efx true (aW Y)<|aw [aZ 8 false 0 q,aZ 8 false 0 R]) (cL (tR 8 false 0 2 (oA:az (R)=0)) rt ti) (cL (aY<|some<|aZ 8 false 0 R) (aY<|some<|aZ 8 false 0 q) ti) hD<|Kf 2 a
theorem YM(u x:TUnit)(Y:laa)(hD:kP 131 [.nils,iV 0,.ps [eU x] true] (.ls Y)):
    kD 130 [.ptr 0 0 0 0,.pptr [iV 0] 0 0,.pptr [eU x] 0 0] (aw [eZ u .nils]) (.tuple []) (aw [eZ u (.ls Y)]):=by
  exact eg Tryz.func130 λa=>Kp 7 hD<|Kf 2 a
theorem YL(u x:TUnit)(Y:laa)(hD:kP 131 [(.ps [] true),iV 0,.ps [eU x] true] (.ls Y)):
    kD 130 [.ptr 0 0 0 0,.pptr [iV 0] 0 0,.pptr [eU x] 0 0] (aw [eZ u (.ps [] true)]) (.tuple []) (aw [eZ u (.ls Y)]):=by
  exact eg Tryz.func130 λa=>Kp 7 hD<|Kf 2 a
theorem Yr(u x:TUnit)(n c i:Nat)(R R':laa)(hT:az R=0)(hT2:az R'=0)(hD:kD 131 [.slice 1 0 0 n (some c),nV i,.ps [eU x] true] (aw [eZ u (.slice 1 0 0 n (some c)),eX R]) (.slice 1 0 0 (n+1) (some c)) (aw [eZ u (.slice 1 0 0 n (some c)),eX R'])):
    kD 141 [.ptr 0 0 0 0,.pptr [nV i] 0 0,.pptr [eU x] 0 0] (aw [eZ u (.slice 1 0 0 n (some c)),eX R]) (.tuple []) (aw [eZ u (.slice 1 0 0 (n+1) (some c)),eX R']):=by
  exact eg Tryz.func141 λa=>Mg 7<|M3 (.efx false (aM 1 0 0 (n+1)<|some c)<|aw [aZ 8 false 0 [av [iV u.act,iV u.item,iV u.n,iV u.kind,aj u.label,aW<|u.head.map aQ,aW<|u.words.map aQ,aM 1 0 0 n<|some c]],aZ 8 false 0 R']) (cL (tR 8 false 0 2 (oA:az (R)=0)) rt ti) ti hD<|Kf 2 a
theorem Yp(u x:TUnit)(n c i:Nat)(R Y:laa)(hT:az R=0)(hD:kD 131 [.slice 1 0 0 n (some c),nV i,.ps [eU x] true] (aw [eZ u (.slice 1 0 0 n (some c)),eX R]) (.ls Y) (aw [eZ u (.slice 1 0 0 n (some c)),eX R])):
    kD 141 [.ptr 0 0 0 0,.pptr [nV i] 0 0,.pptr [eU x] 0 0] (aw [eZ u (.slice 1 0 0 n (some c)),eX R]) (.tuple []) (aw [eZ u (.ls Y),eX R]):=by
  let q:=[av [iV u.act,iV u.item,iV u.n,iV u.kind,aj u.label,aW (u.head.map aQ),aW (u.words.map aQ),aM 1 0 0 n (some c)]];exact eg Tryz.func141 λa=>Mg 7<|M3 (.efx true (aW Y)<|aw [aZ 8 false 0 q,aZ 8 false 0 R]) (cL (tR 8 false 0 2 (oA:az (R)=0)) rt ti) (cL (aY<|some<|aZ 8 false 0 R) (aY<|some<|aZ 8 false 0 q) ti) hD<|Kf 2 a
theorem Yo(u x:TUnit)(Y:laa)(hD:kP 131 [.nils,iV 0,.ps [eU x] true] (.ls Y)):
    kD 141 [.ptr 0 0 0 0,.pptr [iV 0] 0 0,.pptr [eU x] 0 0] (aw [eZ u .nils]) (.tuple []) (aw [eZ u (.ls Y)]):=by
  exact eg Tryz.func141 λa=>Kp 7 hD<|Kf 2 a
theorem Yn(u x:TUnit)(Y:laa)(hD:kP 131 [(.ps [] true),iV 0,.ps [eU x] true] (.ls Y)):
    kD 141 [.ptr 0 0 0 0,.pptr [iV 0] 0 0,.pptr [eU x] 0 0] (aw [eZ u (.ps [] true)]) (.tuple []) (aw [eZ u (.ls Y)]):=by
  exact eg Tryz.func141 λa=>Kp 7 hD<|Kf 2 a
theorem Z5(u:TUnit)(l:lag):kD 134 [.ptr 0 0 0 0,.pptr [.ls (l.map aQ)] 0 0] (aw [eZ u (.ls (u.kids.map aU))]) (.tuple []) (aw [eZ (ml l u) (.ls (u.kids.map aU))]):=by
  exact eg Tryz.func134 λa=>Kf 4 a
theorem aan(u:TUnit)(l:lag):kD 136 [.ptr 0 0 0 0,.pptr [.ls (l.map aQ)] 0 0] (aw [eZ u (.ls (u.kids.map aU))]) (.tuple []) (aw [eZ (ml l u) (.ls (u.kids.map aU))]):=by
  exact eg Tryz.func136 λa=>Kf 4 a
theorem aaY(u:TUnit)(l:lag):kD 138 [.ptr 0 0 0 0,.pptr [.ls (l.map aQ)] 0 0] (aw [eZ u (.ls (u.kids.map aU))]) (.tuple []) (aw [eZ (BZ l u) (.ls (u.kids.map aU))]):=by
  exact eg Tryz.func138 λa=>Kf 4 a
theorem aak(u:TUnit)(d:PDeed):kD 140 [.ptr 0 0 0 0,.pptr [aV d] 0 0] (aw [eZ u (.ls (u.kids.map aU))]) (.tuple []) (aw [eZ (pC d.it.label u) (.ls (u.kids.map aU))]):=by
  exact eg Tryz.func140 λa=>Kf 6 a
noncomputable abbrev wb(p:PId):AObj:=.row 3 false 0 [aK p]
noncomputable abbrev zO:AObj:=.row 8 false 0 [zU]
theorem IH:kP 217 [.nils] .nils:=by
  exact wk Tryz.func217 (.go 4 .fin)<|bA ah
theorem IG:kP 217 [.ps [] false] (.ps [] true):=by
  exact wk Tryz.func217 (.go 7 .fin)<|bA<|jV [] true
theorem Te(w:TUnit)(r:lad)(hl:r.length<2^20):kP 217 [.ls ((w::r).map aU)] (.ls ((w::r).map aU)):=by
  let q:=List.map aU (w::r);exact bH Tryz.func217<|Mg 1<|Mz 3 (λ(a:((w::r).map aU:laa)=[])=>Mw .abs<|jO _ _ a)<|Mg 3<|M2 .apl (et (sA:List.map aU (w::r)≠[])<|gN (sz:=8) (f:=aU) (λ_=>by(rw[bQ];rfl))<|w::r) (by(refine aN (m:=2^21) ?_ ?_ ?_<;>first|omega|grind):small ((w::r).map aU).length 120=true)<|Mg 0<|M2 (.fsl 0 [] 2 q) ti (cL (aY 0) (tA aU (w::r) q.length (sA:(w::r).length=((w::r).map aU).length))<|aX gO<|w::r)<|Ml 2 (fe q false<|aX gO<|w::r)<|Mf<|bA<|aW q
theorem EJ(l:lad)(hl:l.length<=2^20):kP 217 [.ls (l.map aU)] (.ls (l.map aU)):=by
  cases l with
  |nil=>exact aP.ls0 (IH.less Le.nils) (IG.lessB (u:=.ls []) (by kernel_rfl))
  |cons w r=>grind[Te]
theorem zQ(g:Nat)(bs:laa)(p:PId)(u u2:TUnit)(hA:az [eU u,aK p,.func (.func g) [] bs]=0)(hp:(ae u.act p.a&&(ae u.item p.i&&ae u.n p.n))=true)(hl:u.kids.length<=2^20)(hd:kD g (.ptr 0 0 0 0::bs) (aw [eZ u (.ls (u.kids.map aU)),wb p,zO]) (.tuple []) (aw [eZ u2 (.ls (u2.kids.map aU)),wb p,zO])):kP 129 [eU u,aK p,.func (.func g) [] bs] (eU u2):=by
  have hc:=EJ u.kids hl
  let q:=[iV p.a,iV p.i,iV p.n];exact bH (ht:=oA) Tryz.func129<|Kv 5 (kT ((Tryz.prog).underlying 28) u.act u.item u.n p.a p.i p.n<|aw [aZ 8 false 0 [av (uLx u)],aZ 3 false 0 [av q],aZ 8 false 0 [av [iV 0,iV 0,iV 0,iV 0,aj [],ah,ah,ah]]])<|Mt hp<|Kp 1 hc<|Ke 2 hd<|Kf 1<|bA<|av (uLx u2)
theorem V2(g:Nat)(bs:laa)(p:PId)(u u2:TUnit)(n2:Nat)(Z:Nat->laa)(hA:az [eU u,aK p,.func (.func g) [] bs]=0)(hp:(ae u.act p.a&&(ae u.item p.i&&ae u.n p.n))=true)(hl:u.kids.length<=2^20)(hne:u.kids≠[])(hn2:u2.kids.length=n2)(hd:∀k,kD g (.ptr 0 0 0 0::bs) (aw [eZ u (.slice 3 0 0 u.kids.length (some (u.kids.length+k))),wb p,zO,eX ((u.kids++List.replicate k bo).map aU)]) (.tuple []) (aw [eZ u2 (.slice 3 0 0 n2 (some (u.kids.length+k))),wb p,zO,eX (u2.kids.map aU++Z k)])):kP 129 [eU u,aK p,.func (.func g) [] bs] (eU u2):=by
  let q:=[av (uLx u)];let q1:=[iV p.a,iV p.i,iV p.n];let q2:=[av [iV 0,iV 0,iV 0,iV 0,aj [],ah,ah,ah]];let q3:=List.map aU u2.kids;exact bH (ht:=oA) Tryz.func129<|Kv 5 (kT ((Tryz.prog).underlying 28) u.act u.item u.n p.a p.i p.n<|aw [aZ 8 false 0 q,aZ 3 false 0 [av q1],aZ 8 false 0 q2])<|Mt hp<|Mg 1<|Mq (FA u.kids hne hl (aZ 8 false 0 q) (aZ 3 false 0 [av q1])<|aZ 8 false 0 q2) λa _=>Ke 2 (hd a)<|M2 (.fza 0 7 3 [3,6] q3) (jp rt rt rt ti) (cL (aY 0) (Xo (xs:=List.map aU u2.kids) (ys:=Z a) (n:=n2) sA)<|aX gO u2.kids)<|Kf 1<|bA<|av [iV u2.act,iV u2.item,iV u2.n,iV u2.kind,aj u2.label,aW<|u2.head.map aQ,aW<|u2.words.map aQ,aW q3]
theorem WW{l m:lad}{i:Nat}(h:i<l.length):gD (l++m) i=gD l i:=by
  grind[gD]
theorem ur{l m:lad}{i n:Nat}{x:TUnit}(h:l.length=n)(hi:i<n):((l++m).set i x).take n=l.set i x:=by
  simp_all
theorem T7{l m:lad}{n:Nat}(h:l.length=n):(l++m).take n=l:=by simp_all
theorem NL{l:lad}{i:Nat}(h:i<l.length):l.drop i=gD l i::l.drop (i+1):=by
  grind[List.drop_eq_getElem_cons,gD]
theorem aaa{p:PId}{f:TUnit->TUnit}{l:lad}{i:Nat}(h:jc p f l i (l.drop i))(hi:l.length<=i):eC p f l=l:=by
  grind[List.drop_eq_nil_of_le,jc.done]
theorem Z8{p:PId}{f:TUnit->TUnit}{l:lad}{i:Nat}(h:jc p f l i (l.drop i))(hi:i<l.length)(hw:bG p (gD l i)=false):jc p f l (i+1) (l.drop (i+1)):=by
  grind[NL,jc.skip]
theorem Z9{p:PId}{f:TUnit->TUnit}{l:lad}{i:Nat}(h:jc p f l i (l.drop i))(hi:i<l.length)(hw:bG p (gD l i)=true):eC p f l=l.set i (co p f (gD l i)):=by
  grind[NL,jc.hit]
theorem aaO(g:Nat)(bs:laa)(p:PId)(u:TUnit)(hA:az [eU u,aK p,.func (.func g) [] bs]=0)(hA2:(AV.func (.func g) [] bs).top=0)(hp:(ae u.act p.a&&(ae u.item p.i&&ae u.n p.n))=false)(h0:u.kids.length=0)(hl0:aE 0 (Int.ofNat u.kids.length)=false):kP 129 [eU u,aK p,.func (.func g) [] bs] (eU u):=by
  have hc:=EJ u.kids (by omega)
  let q:=[aZ 8 false 0 [av (uLx u)],aZ 3 false 0 [av [iV p.a,iV p.i,iV p.n]],aZ 8 false 0 [av [iV 0,iV 0,iV 0,iV 0,aj [],ah,ah,ah]]];let q1:=[bc (bb g) [] bs,bY 0 0 0 0,bY 1 0 0 0,bY 2 0 0 0,aW (u.kids.map aU),aW (u.kids.map aU),nV u.kids.length,iV 0];exact bH (ht:=oA) Tryz.func129<|Kv 5 (kT ((Tryz.prog).underlying 28) u.act u.item u.n p.a p.i p.n<|aw q)<|Mh hp<|Kp 1 hc<|Kl 2 27 (ln aU u.kids)<|Mg 0<|Z2 [2,3,4,6,7,26,27,28] (q1,q) True 0 ti λ_ _=>Kh 0 hl0<|Kf 4<|bA<|av (uLx u)
theorem aaN(g:Nat)(bs:laa)(p:PId)(f:TUnit->TUnit)(u:TUnit)(hA:az [eU u,aK p,.func (.func g) [] bs]=0)(hA2:(AV.func (.func g) [] bs).top=0)(hp:(ae u.act p.a&&(ae u.item p.i&&ae u.n p.n))=false)(hne:u.kids≠[])(hn:u.kids.length<=2^20)
    (hf:∀k,k∈u.kids->kP 46 [eU k,aK p] (.tuple [eU (cH p k),.bool (bG p k)]))
    (ih:∀k,k∈u.kids->kP 129 [eU k,aK p,.func (.func g) [] bs] (eU (co p f k))):kP 129 [eU u,aK p,.func (.func g) [] bs] (eU (j5 u (eC p f u.kids))):=by
  have rr0:∀b',(h:(List.map aU (j5 u (eC p f u.kids)).kids)=b':=by first|rfl|(rw[Z9 hx0.2 (by(first|omega|(simp only[oN]at *;omega))) (by rw[<-q0 (by(first|omega|(simp only[oN]at *;omega)))];assumption),q0 (by(first|omega|(simp only[oN]at *;omega)))];exact congrArg _ (ur rfl (by(first|omega|(simp only[oN]at *;omega)))).symm)|(rw[aaa hx0.2 (by(first|omega|(simp only[oN]at *;omega)))];exact congrArg _ (T7 rfl).symm))->(List.map aU (j5 u (eC p f u.kids)).kids)=b':=(λ_ h=>h);exact bH (ht:=oA) Tryz.func129<|Kv 5 (kT ((Tryz.prog).underlying 28) u.act u.item u.n p.a p.i p.n<|aw [aZ 8 false 0 [av (uLx u)],aZ 3 false 0 [av [iV p.a,iV p.i,iV p.n]],aZ 8 false 0 [av [iV 0,iV 0,iV 0,iV 0,aj [],ah,ah,ah]]])<|Mh hp<|Mg 1<|Mq (FA u.kids hne hn (aZ 8 false 0 [av (uLx u)]) (aZ 3 false 0 [av [iV p.a,iV p.i,iV p.n]])<|aZ 8 false 0 [av [iV 0,iV 0,iV 0,iV 0,aj [],ah,ah,ah]]) λa _=>Mg 3<|MO1 (0:Nat) [2,3,4,6,7,26,27,28] (λb=>([bc (bb g) [] bs,bY 0 0 0 0,bY 1 0 0 0,bY 2 0 0 0,aM 3 0 0 u.kids.length<|some<|u.kids.length+a,aM 3 0 0 u.kids.length<|some<|u.kids.length+a,nV u.kids.length,nV b],[aZ 8 false 0 [av (uLx u)],aZ 3 false 0 [av [iV p.a,iV p.i,iV p.n]],aZ 8 false 0 [av [iV 0,iV 0,iV 0,iV 0,aj [],ah,ah,ah]],aZ 8 false 0<|(u.kids++List.replicate a bo).map aU])) (λa=>a<=u.kids.length/\jc p f u.kids a (u.kids.drop a)) (λa=>u.kids.length-a) (by simp_all[jc.start]) λb hx0 c=>have hx0:b<=u.kids.length/\jc p f u.kids b (u.kids.drop b):=hx0;have q0:b<u.kids.length->gD (u.kids++List.replicate a bo) b=gD u.kids b:=λh=>WW h;Ka 0 (Int.ofNat b) (Int.ofNat u.kids.length) (λ_ _=>K1 0 .rix (et (aY 0) (sA:b<u.kids.length))<|Mr (et (aY 0)<|r9 aU (g:=Go.Ev.eU) bQ (gR:b<(u.kids++List.replicate a bo).length))<|Kp 4 (hf (gD (u.kids++List.replicate a bo) b)<|by grind[eP])<|Kb 6 (bG p<|gD (u.kids++List.replicate a bo) b) (λ_=>Kp 4 (ih (gD (u.kids++List.replicate a bo) b)<|by grind[eP])<|M1 .rix (et (aY 0) (sA:b<u.kids.length))<|M1 (.rst (av [iV (gD (u.kids++List.replicate a bo) b).act,iV (gD (u.kids++List.replicate a bo) b).item,iV (gD (u.kids++List.replicate a bo) b).n,iV (gD (u.kids++List.replicate a bo) b).kind,aj (gD (u.kids++List.replicate a bo) b).label,aW<|List.map aQ (gD (u.kids++List.replicate a bo) b).head,aW<|List.map aQ (gD (u.kids++List.replicate a bo) b).words,aW<|List.map aU (gD (u.kids++List.replicate a bo) b).kids])<|((u.kids++List.replicate a bo).set b<|co p f<|gD (u.kids++List.replicate a bo) b).map aU) (cL (aY 0) (r9 aU (g:=Go.Ev.eU) bQ (gR:b<(u.kids++List.replicate a bo).length))<|EF (f:=aU) (g:=Go.Ev.eU) bQ (l:=u.kids++List.replicate a bo) (i:=b) (w:=co p f<|gD (u.kids++List.replicate a bo) b))<|Mg 0<|M2 (.fsl 3 [3,6] 48<|(((u.kids++List.replicate a bo).set b<|co p f<|gD (u.kids++List.replicate a bo) b).take u.kids.length).map aU) (jp rt rt rt ti) (cL (aY 0) (xh (f:=aU) (l:=(u.kids++List.replicate a bo).set b<|co p f<|gD (u.kids++List.replicate a bo) b) (n:=u.kids.length))<|aX gO<|((u.kids++List.replicate a bo).set b<|co p f<|gD (u.kids++List.replicate a bo) b).take u.kids.length)<|Ml 48 (fe ((((u.kids++List.replicate a bo).set b<|co p f<|gD (u.kids++List.replicate a bo) b).take u.kids.length).map aU) (oI (some<|u.kids.length+a)<|some u.kids.length)<|aX gO<|((u.kids++List.replicate a bo).set b<|co p f<|gD (u.kids++List.replicate a bo) b).take u.kids.length)<|Kf 3 (bJ (.cons (bA _)<|.cons (bA _)<|.cons (bA _)<|.cons (bA _)<|.cons (bA _)<|.cons (bA _)<|.cons (bA _)<|.cons (ch<|rr0<|(((u.kids++List.replicate a bo).set b<|co p f<|gD (u.kids++List.replicate a bo) b).take u.kids.length).map aU) .nil)<|by kernel_rfl:Le _ (AV.agg [iV u.act,iV u.item,iV u.n,iV u.kind,AV.str u.label,AV.ls (u.head.map aQ),AV.ls (u.words.map aQ),AV.ls ((((u.kids++List.replicate a bo).set b (co p f (gD (u.kids++List.replicate a bo) b))).take u.kids.length).map aU)]))) λ_=>Kl 0 47 (jo b)<|Mg 0<|M2 (.frl 4 [3,4,6,7,26,27,28] [2]) (qh (Qt (sz:=8) (op:=false) (ep:=0) (n:=4)<|aX gO<|u.kids++List.replicate a bo) rt rt rt ti) (et (oA:(AV.func (Fn.func g) [] bs).top<=4) ti)<|Mf<|c (b+1) (by grind[Z8]) gR) λ_ _=>Mg 0<|M2 (.fsl 3 [3,6] 48<|((u.kids++List.replicate a bo).take u.kids.length).map aU) (jp rt rt rt ti) (cL (aY 0) (xh (f:=aU) (l:=u.kids++List.replicate a bo) (n:=u.kids.length))<|aX gO<|(u.kids++List.replicate a bo).take u.kids.length)<|Ml 48 (fe (((u.kids++List.replicate a bo).take u.kids.length).map aU) (oI (some<|u.kids.length+a)<|some u.kids.length)<|aX gO<|(u.kids++List.replicate a bo).take u.kids.length)<|Kf 3 (bJ (.cons (bA _)<|.cons (bA _)<|.cons (bA _)<|.cons (bA _)<|.cons (bA _)<|.cons (bA _)<|.cons (bA _)<|.cons (ch<|rr0<|((u.kids++List.replicate a bo).take u.kids.length).map aU) .nil)<|by kernel_rfl:Le _ (AV.agg [iV u.act,iV u.item,iV u.n,iV u.kind,AV.str u.label,AV.ls (u.head.map aQ),AV.ls (u.words.map aQ),AV.ls (((u.kids++List.replicate a bo).take u.kids.length).map aU)]))
theorem iB{g:Nat}{bs:laa}{p:PId}(hb:az bs=0)(x:TUnit):az [eU x,aK p,.func (.func g) [] bs]=0:=by
  have h1:(eU x).top=0:=by rw[<-bQ];exact gO x
  have h2:(AV.func (.func g) [] bs).top=0:=by simp only[AV.top,az,hb];rfl
  exact ke.2 λy hy=>by
    simp only[dO,List.mem_nil_iff,or_false]at hy
    rcases hy with rfl|rfl|rfl
    · omega
    · exact LQ p
    omega
theorem pz(g:Nat)(bs:laa)(p:PId)(f:TUnit->TUnit)(hb:az bs=0):∀(u:TUnit),nU u<=2^19->(∀x,x∈bV u->x.head.length<2^30/\x.words.length<2^30)->
    (∀v,v∈bV u->gQ p v=true->kP 129 [eU v,aK p,.func (.func g) [] bs] (eU (f v)))->kP 129 [eU u,aK p,.func (.func g) [] bs] (eU (co p f u)):=by
  refine TUnit.ind λu ih hn ht hit=>?_
  have hA:=iB (g:=g) (bs:=bs) (p:=p) hb
  cases hi:gQ p u with
  |true=>grind[rE,dU]
  | false=>
    have hkl:=bB u
    rw[m7 hi]
    by_cases h0:u.kids=[]
    · have e:j5 u (eC p f u.kids)=u:=by rw[h0,tW];cases u;simp only[TUnit.kids]at h0;subst h0;rfl
      rw[e]
      exact aaO g bs p u (hA u) (by simp only[AV.top,az,hb];rfl) hi (by simp_all) (by rw[h0];rfl)
    · exact aaN g bs p f u (hA u) (by simp only[AV.top,az,hb];rfl) hi h0 (by omega) (λk hk=>SI p k (by have:=iI hk;omega) λx hx=>ht x (bi hk hx))
        λk hk=>ih k hk (by have:=iI hk;omega) (λx hx=>ht x (bi hk hx)) λv hv=>hit v (bi hk hv)
theorem BS{bs:laa}(rs:laf)(h0:gV rs 0=0)(hb:az bs=0):mw (gV rs) (.ptr 0 0 0 0::bs)=.ptr 0 0 0 0::bs:=by
  grind[mw,Ev.ren,fk]
theorem Bm{g:Nat}{bs:laa}{u u2:TUnit}{n n2 c:Nat}{X X2:laa}{A B:AObj}(hb:az bs=0)(hX:az X=0)(hX2:az X2=0)(h:kD g (.ptr 0 0 0 0::bs) (aw [eZ u (.slice 1 0 0 n (some c)),eX X]) (.tuple []) (aw [eZ u2 (.slice 1 0 0 n2 (some c)),eX X2])):
    kD g (.ptr 0 0 0 0::bs) (aw [eZ u (.slice 3 0 0 n (some c)),A,B,eX X]) (.tuple []) (aw [eZ u2 (.slice 3 0 0 n2 (some c)),A,B,eX X2]):=
  qX gM [0,3] h (BS _ rfl hb) rfl rfl ⟨⟨rfl,wQ (by kernel_rfl)⟩,⟨rfl,by show az X<=2;omega⟩,trivial⟩ ⟨⟨rfl,wQ (by kernel_rfl)⟩,⟨rfl,by show az X2<=2;omega⟩,trivial⟩
    (by show Nat.mx _ (az bs)<=2;rw[hb];exact wQ (by kernel_rfl)) (b6 _) ⟨by kernel_rfl,by rw[wv hX];kernel_rfl,trivial⟩ ⟨by kernel_rfl,by kernel_rfl,trivial⟩
    (by show _=AHeap.put (AHeap.put _ _ _) _ (kn _ (.row 8 false 0 X2));rw[wv hX2];kernel_rfl)
theorem D8{g:Nat}{bs:laa}{u u2:TUnit}{n c:Nat}{X Y:laa}{A B:AObj}(hb:az bs=0)(hX:az X=0)(h:kD g (.ptr 0 0 0 0::bs) (aw [eZ u (.slice 1 0 0 n (some c)),eX X]) (.tuple []) (aw [eZ u2 (.ls Y),eX X])):
    kD g (.ptr 0 0 0 0::bs) (aw [eZ u (.slice 3 0 0 n (some c)),A,B,eX X]) (.tuple []) (aw [eZ u2 (.ls Y),A,B,eX X]):=
  qX gM [0,3] h (BS _ rfl hb) rfl rfl ⟨⟨rfl,wQ (by kernel_rfl)⟩,⟨rfl,by show az X<=2;omega⟩,trivial⟩ ⟨⟨rfl,wQ (by kernel_rfl)⟩,⟨rfl,by show az X<=2;omega⟩,trivial⟩
    (by show Nat.mx _ (az bs)<=2;rw[hb];exact wQ (by kernel_rfl)) (b6 _) ⟨by kernel_rfl,by rw[wv hX];kernel_rfl,trivial⟩ ⟨by kernel_rfl,by kernel_rfl,trivial⟩
    (by show _=AHeap.put (AHeap.put _ _ _) _ (kn _ (.row 8 false 0 X));rw[wv hX];kernel_rfl)
theorem kx{g:Nat}{bs:laa}{u u2:TUnit}{A B:AObj}{K K2:AV}(hb:az bs=0)(h1:az [.agg [iV u.act,iV u.item,iV u.n,iV u.kind,.str u.label,.ls (u.head.map aQ),.ls (u.words.map aQ),K]]=0)(h2:az [.agg [iV u2.act,iV u2.item,iV u2.n,iV u2.kind,.str u2.label,.ls (u2.head.map aQ),.ls (u2.words.map aQ),K2]]=0)(h:kD g (.ptr 0 0 0 0::bs) (aw [eZ u K]) (.tuple []) (aw [eZ u2 K2])):
    kD g (.ptr 0 0 0 0::bs) (aw [eZ u K,A,B]) (.tuple []) (aw [eZ u2 K2,A,B]):=
  fI gM 0 h1 h2 h (BS _ rfl hb) rfl rfl (by simp only[az,AV.top,hb];rfl) rfl (by kernel_rfl) (by kernel_rfl)
theorem Np(g:Nat)(bs:laa)(p:PId)(u u2:TUnit)(n2:Nat)(Z:Nat->laa)(hA:az [eU u,aK p,.func (.func g) [] bs]=0)(hp:(ae u.act p.a&&(ae u.item p.i&&ae u.n p.n))=true)(hl:u.kids.length<=2^20)(hne:u.kids≠[])(hn2:u2.kids.length=n2)
    (hdA:∀k,By (Nat.beq k 0) true->kD g (.ptr 0 0 0 0::bs) (aw [eZ u (.slice 3 0 0 u.kids.length (some (u.kids.length+k))),wb p,zO,eX ((u.kids++List.replicate k bo).map aU)]) (.tuple []) (aw [eZ u2 (.ls (u2.kids.map aU)),wb p,zO,eX ((u.kids++List.replicate k bo).map aU)]))
    (hdB:∀k,By (Nat.beq k 0) false->kD g (.ptr 0 0 0 0::bs) (aw [eZ u (.slice 3 0 0 u.kids.length (some (u.kids.length+k))),wb p,zO,eX ((u.kids++List.replicate k bo).map aU)]) (.tuple []) (aw [eZ u2 (.slice 3 0 0 n2 (some (u.kids.length+k))),wb p,zO,eX (u2.kids.map aU++Z k)])):kP 129 [eU u,aK p,.func (.func g) [] bs] (eU u2):=by
  let q:=av (uLx u2);let q1:=[av (uLx u)];let q2:=[iV p.a,iV p.i,iV p.n];let q3:=[av [iV 0,iV 0,iV 0,iV 0,aj [],ah,ah,ah]];exact bH (ht:=oA) Tryz.func129<|Kv 5 (kT ((Tryz.prog).underlying 28) u.act u.item u.n p.a p.i p.n<|aw [aZ 8 false 0 q1,aZ 3 false 0 [av q2],aZ 8 false 0 q3])<|Mt hp<|Mg 1<|Mq (FA u.kids hne hl (aZ 8 false 0 q1) (aZ 3 false 0 [av q2])<|aZ 8 false 0 q3) λa _=>Ks 2 (a.beq 0) (λb=>Me (hdA a b)<|Kf 1<|bA q) λb=>Me (hdB a b)<|M2 (.fza 0 7 3 [3,6]<|u2.kids.map aU) (jp rt rt rt ti) (cL (aY 0) (Xo (xs:=List.map aU u2.kids) (ys:=Z a) (n:=n2) sA)<|aX gO u2.kids)<|Kf 1<|bA q
theorem Nr(g:Nat)(bs:laa)(p:PId)(u u2:TUnit)(hA:az [eU u,aK p,.func (.func g) [] bs]=0)(hp:(ae u.act p.a&&(ae u.item p.i&&ae u.n p.n))=true)(h0:u.kids=[])
    (hdN:kD g (.ptr 0 0 0 0::bs) (aw [eZ u .nils,wb p,zO]) (.tuple []) (aw [eZ u2 (.ls (u2.kids.map aU)),wb p,zO]))
    (hdP:kD g (.ptr 0 0 0 0::bs) (aw [eZ u (.ps [] true),wb p,zO]) (.tuple []) (aw [eZ u2 (.ls (u2.kids.map aU)),wb p,zO])):kP 129 [eU u,aK p,.func (.func g) [] bs] (eU u2):=by
  obtain⟨a,i,n,k,l,h,w,ks⟩:=u
  simp only[TUnit.kids]at h0
  subst h0
  let q:=av (uLx u2);let q1:=[iV p.a,iV p.i,iV p.n];exact bH (ht:=oA) Tryz.func129<|Kv 5 (kT ((Tryz.prog).underlying 28) (TUnit.mk a i n k l h w []).act (TUnit.mk a i n k l h w []).item (TUnit.mk a i n k l h w []).n p.a p.i p.n<|aw [aZ 8 false 0 [av [iV (TUnit.mk a i n k l h w []).act,iV (TUnit.mk a i n k l h w []).item,iV (TUnit.mk a i n k l h w []).n,iV (TUnit.mk a i n k l h w []).kind,aj l,aW<|List.map aQ (TUnit.mk a i n k l h w []).head,aW<|List.map aQ (TUnit.mk a i n k l h w []).words,aW []]],aZ 3 false 0 [av q1],aZ 8 false 0 [av [iV 0,iV 0,iV 0,iV 0,aj [],ah,ah,ah]]])<|Mt hp<|Mg 1<|Mz 17 (λ(_:([]:laa)=[])=>Mp IH<|Ke 2 hdN<|Kf 1<|bA q)<|Mp IG<|Ke 2 hdP<|Kf 1<|bA q
theorem kc{a b:laa}(h1:az a=0)(h2:az b=0):az (a++b)=0:=ke.2 λx hx=>by
  rcases ie.1 hx with h|h
  · exact ke.1 h1 x h
  · exact ke.1 h2 x h
theorem SH(l:lad):dL 8 (l.map aU)=true:=gN (λu=>by cases u;rfl) l
theorem Wz(x:TUnit):dL 8 [eU x]=true:=by kernel_rfl
theorem PC(x:TUnit):(eU x).top=0:=by rw[<-bQ];exact gO x
theorem uc{i:Nat}{x:TUnit}{l:laa}(h:az l=0):az (gL i (eU x) l)=0:=ke.2 λy hy=>by
  unfold gL at hy
  rcases ie.1 hy with h1|h1
  · exact ke.1 h y (sE h1)
  · rcases dO.1 h1 with rfl|h1
    · exact PC x
    · exact ke.1 h y (Qz h1)
theorem Ni(i:Nat)(x:TUnit)(l:lad):(vj i x l).map aU=gL i (eU x) (l.map aU):=by
  unfold vj gL
  rw[mT,eT,List.map_take,List.map_drop,bQ]
theorem NN(i:Nat)(l:lad):(l.eraseIdx i).map aU=(l.map aU).eraseIdx i:=by
  grind[List.eraseIdx_eq_take_drop_succ,List.map_take,List.map_drop]
theorem Du{i:Nat}{x:TUnit}{l:lad}(h:i<=l.length):(vj i x l).length=l.length+1:=by
  grind[vj]
theorem Hl(l:lad)(k:Nat):(l++List.replicate k bo).map aU=l.map aU++List.replicate k (aU bo):=by simp_all
theorem mo(k:Nat):az (List.replicate k (aU bo))=0:=by rw[<-List.map_replicate];exact aX gO _
theorem Qf(p:PId)(i:Nat)(u:TUnit)(hn:nU u<=2^19)(ht:∀x,x∈bV u->x.head.length<2^30/\x.words.length<2^30)(hv:∀v,v∈bV u->gQ p v=true->i<v.kids.length):
    aP Tryz.prog G 129 [eU u,aK p,.func (.func 220) [] [.pptr [.int .i64 (.ofNat i)] 0 0]] (eU (co p (ee i) u)):=by
  refine pz _ _ p (ee i) rfl u hn ht λv hm hid=>?_
  have hi:=hv v hm hid
  have hkl:=bB v
  have hvu:=dT hm
  have hl:v.kids.length<=2^20:=by omega
  refine V2 _ _ p v (ee i v) (v.kids.length-1) (λk=>zU::List.replicate k (aU bo)) (iB rfl v) hid hl (λe=>by grind) (by show(v.kids.eraseIdx i).length=_;grind) λk=>?_
  have h:=TU (v.kids.map aU) (List.replicate k (aU bo)) v.kids.length i hi (cw _) hl (SH _) (kc (aX gO _) (mo k))
  rw[qA]at h
  have hT:az ((v.kids.map aU).eraseIdx i++(zU::List.replicate k (aU bo)))=0:=kc (by rw[<-NN];exact aX gO _) (by show Nat.mx zU.top (az _)=0;rw[mo];rfl)
  rw[Hl]
  show aO _ _ _ _ _ λv1 h1=>v1=.tuple []/\h1=aw [eZ v (.slice 3 0 0 (v.kids.length-1) (some (v.kids.length+k))),wb p,zO,eX ((v.kids.eraseIdx i).map aU++_)]
  rw[NN]
  refine Bm rfl (kc (aX gO _) (mo k)) hT (Z7 v v.kids.length _ i _ _ (kc (aX gO _) (mo k)) hT hi hl ?_)
  exact fI gM 1 (kc (aX gO _) (mo k)) hT h rfl rfl (by simp_all) (by kernel_rfl) (by kernel_rfl) (by kernel_rfl) (by kernel_rfl)
theorem Ya(x:TUnit)(t:Bool)(off len c:Nat)(X:laa):kD 218 [.ps [eU x] t,.slice 0 0 off len (some c)] (aw [eX X]) (.bool false) (aw [eX X]):=
  Ch (tS:=25) (tR:=4) (e:=31) (n:=8) Tryz.func218 (by kernel_rfl) (by kernel_rfl) (by kernel_rfl) (by kernel_rfl) (by simp_all) (by kernel_rfl) (jO _ _) (by kernel_rfl:(aw [eX X]).get 0=some (.row 8 false 0 X))
theorem Hu(L:laa)(x:TUnit)(z:AV)(Z:laa)(n k i:Nat)(hi:i<=n)(hn:L.length=n)(hs:n<2^20)(hk:Z.length=k)(hf:dL 8 L=true)(hT:az (L++z::Z)=0):kD 131 [.slice 0 0 0 n (some (n+(k+1))),nV i,.ps [eU x] true] (aw [eX (L++z::Z)]) (.slice 0 0 0 (n+1) (some (n+(k+1)))) (aw [eX (gL i (eU x) L++Z)]):=by
  rcases fg i n with h|h
  · grind[SX,Wz,Ya]
  · obtain rfl:i=n:=by omega
    exact SK L Z (eU x) z true i k hn hs hk (Wz x)
theorem HC(L:laa)(x:TUnit)(n i:Nat)(hi:i<=n)(hn:L.length=n)(hs:n<2^20)(hf:dL 8 L=true)(hT:az L=0):kD 131 [.slice 0 0 0 n (some n),nV i,.ps [eU x] true] (aw [eX L]) (.ls (gL i (eU x) L)) (aw [eX L]):=by
  rcases fg i n with h|h
  · refine SZ L (eU x) true n i h hn hs (Wz x) hf hT (ke.2 λy hy=>?_) (uc hT)
    rcases ie.1 hy with h1|h1
    · exact ke.1 hT y (sE h1)
    · rcases dO.1 h1 with rfl|h1
      · exact PC x
      · rw[(List.mem_replicate.1 h1).2];rfl
  · grind[SJ,Wz,uc]
theorem Qd(p:PId)(i:Nat)(x u:TUnit)(hn:nU u<=2^19)(ht:∀x,x∈bV u->x.head.length<2^30/\x.words.length<2^30)(hv:∀v,v∈bV u->gQ p v=true->i<=v.kids.length):
    aP Tryz.prog G 129 [eU u,aK p,.func (.func 130) [] [.pptr [.int .i64 (.ofNat i)] 0 0,.pptr [eU x] 0 0]] (eU (co p (dn i x) u)):=by
  have hb:az [.pptr [.int .i64 (.ofNat i)] 0 0,.pptr [eU x] 0 0]=0:=by kernel_rfl
  refine pz _ _ p (dn i x) hb u hn ht λv hm hid=>?_
  have hi:=hv v hm hid
  have hkl:=bB v
  have hvu:=dT hm
  have hl:v.kids.length<2^20:=by omega
  have hK:=aX gO v.kids
  by_cases h0:v.kids=[]
  · rw[h0]at hi
    obtain rfl:i=0:=by simp_all
    have e:(dn 0 x v).kids =[x]:=by show vj 0 x v.kids=[x];rw[h0];rfl
    have e2:(dn 0 x v).kids.map aU=[eU x]:=by rw[e,eT,bQ];rfl
    refine Nr _ _ p v (dn 0 x v) (iB hb v) hid h0 ?_ ?_
    · rw[e2];exact kx (u2:=dn 0 x v) hb (by kernel_rfl) (by kernel_rfl) (YM v x [eU x] (HB x true))
    · rw[e2];exact kx (u2:=dn 0 x v) hb (by kernel_rfl) (by kernel_rfl) (YL v x [eU x] (HA x true))
  · have e2:(dn i x v).kids.map aU=gL i (eU x) (v.kids.map aU):=Ni i x v.kids
    refine Np _ _ p v (dn i x v) (v.kids.length+1) (λk=>List.replicate (k-1) (aU bo)) (iB hb v) hid (by omega) h0 (Du hi) (λk hk=>?_) λk hk=>?_
    · obtain rfl:k=0:=qW hk
      rw[e2,Hl,List.replicate_zero,eu]
      refine D8 (u2:=dn i x v) hb hK (YN v x v.kids.length _ i _ _ hK ?_)
      exact fI gM 1 hK hK (HC (v.kids.map aU) x v.kids.length i hi (cw _) hl (SH _) hK) rfl rfl (by simp_all) (by kernel_rfl) (by kernel_rfl) (by kernel_rfl) (by kernel_rfl)
    · obtain⟨j,rfl⟩:∃j,k=j+1:=⟨k-1,by grind[Nat.ne_of_beq_eq_false]⟩
      rw[e2,Hl,show j+1-1=j from rfl,List.replicate_succ]
      have hT:az (v.kids.map aU++aU bo::List.replicate j (aU bo))=0:=by rw[<-List.replicate_succ];grind[kc,mo]
      have hT2:az (gL i (eU x) (v.kids.map aU)++List.replicate j (aU bo))=0:=kc (uc hK) (mo _)
      refine Bm (u2:=dn i x v) hb hT hT2 (YO v x v.kids.length _ i _ _ hT hT2 ?_)
      exact fI gM 1 hT hT2 (Hu (v.kids.map aU) x (aU bo) (List.replicate j (aU bo)) v.kids.length j i hi (cw _) hl (qA ..) (SH _) hT) rfl rfl (by simp_all) (by kernel_rfl) (by kernel_rfl) (by kernel_rfl) (by kernel_rfl)
theorem Qc(p:PId)(i:Nat)(x u:TUnit)(hn:nU u<=2^19)(ht:∀x,x∈bV u->x.head.length<2^30/\x.words.length<2^30)(hv:∀v,v∈bV u->gQ p v=true->i<=v.kids.length):
    aP Tryz.prog G 129 [eU u,aK p,.func (.func 141) [] [.pptr [.int .i64 (.ofNat i)] 0 0,.pptr [eU x] 0 0]] (eU (co p (dn i x) u)):=by
  have hb:az [.pptr [.int .i64 (.ofNat i)] 0 0,.pptr [eU x] 0 0]=0:=by kernel_rfl
  refine pz _ _ p (dn i x) hb u hn ht λv hm hid=>?_
  have hi:=hv v hm hid
  have hkl:=bB v
  have hvu:=dT hm
  have hl:v.kids.length<2^20:=by omega
  have hK:=aX gO v.kids
  by_cases h0:v.kids=[]
  · rw[h0]at hi
    obtain rfl:i=0:=by simp_all
    have e:(dn 0 x v).kids =[x]:=by show vj 0 x v.kids=[x];rw[h0];rfl
    have e2:(dn 0 x v).kids.map aU=[eU x]:=by rw[e,eT,bQ];rfl
    refine Nr _ _ p v (dn 0 x v) (iB hb v) hid h0 ?_ ?_
    · rw[e2];exact kx (u2:=dn 0 x v) hb (by kernel_rfl) (by kernel_rfl) (Yo v x [eU x] (HB x true))
    · rw[e2];exact kx (u2:=dn 0 x v) hb (by kernel_rfl) (by kernel_rfl) (Yn v x [eU x] (HA x true))
  · have e2:(dn i x v).kids.map aU=gL i (eU x) (v.kids.map aU):=Ni i x v.kids
    refine Np _ _ p v (dn i x v) (v.kids.length+1) (λk=>List.replicate (k-1) (aU bo)) (iB hb v) hid (by omega) h0 (Du hi) (λk hk=>?_) λk hk=>?_
    · obtain rfl:k=0:=qW hk
      rw[e2,Hl,List.replicate_zero,eu]
      refine D8 (u2:=dn i x v) hb hK (Yp v x v.kids.length _ i _ _ hK ?_)
      exact fI gM 1 hK hK (HC (v.kids.map aU) x v.kids.length i hi (cw _) hl (SH _) hK) rfl rfl (by simp_all) (by kernel_rfl) (by kernel_rfl) (by kernel_rfl) (by kernel_rfl)
    · obtain⟨j,rfl⟩:∃j,k=j+1:=⟨k-1,by grind[Nat.ne_of_beq_eq_false]⟩
      rw[e2,Hl,show j+1-1=j from rfl,List.replicate_succ]
      have hT:az (v.kids.map aU++aU bo::List.replicate j (aU bo))=0:=by rw[<-List.replicate_succ];grind[kc,mo]
      have hT2:az (gL i (eU x) (v.kids.map aU)++List.replicate j (aU bo))=0:=kc (uc hK) (mo _)
      refine Bm (u2:=dn i x v) hb hT hT2 (Yr v x v.kids.length _ i _ _ hT hT2 ?_)
      exact fI gM 1 hT hT2 (Hu (v.kids.map aU) x (aU bo) (List.replicate j (aU bo)) v.kids.length j i hi (cw _) hl (qA ..) (SH _) hT) rfl rfl (by simp_all) (by kernel_rfl) (by kernel_rfl) (by kernel_rfl) (by kernel_rfl)
theorem Qy(p:PId)(l:lag)(u:TUnit)(hn:nU u<=2^19)(ht:∀x,x∈bV u->x.head.length<2^30/\x.words.length<2^30):
    kP 129 [eU u,aK p,.func (.func 134) [] [.pptr [.ls (l.map aQ)] 0 0]] (eU (co p (ml l) u)):=by
  have hb:az [.pptr [.ls (l.map aQ)] 0 0]=0:=by kernel_rfl
  refine pz _ _ p (ml l) hb u hn ht λv hm hid=>?_
  have hkl:=bB v
  have hvu:=dT hm
  exact zQ _ _ p v ((ml l) v) (iB hb v) hid (by omega) (kx hb (by kernel_rfl) (by kernel_rfl) (Z5 v l))
theorem Qb(p:PId)(l:lag)(u:TUnit)(hn:nU u<=2^19)(ht:∀x,x∈bV u->x.head.length<2^30/\x.words.length<2^30):
    kP 129 [eU u,aK p,.func (.func 136) [] [.pptr [.ls (l.map aQ)] 0 0]] (eU (co p (ml l) u)):=by
  have hb:az [.pptr [.ls (l.map aQ)] 0 0]=0:=by kernel_rfl
  refine pz _ _ p (ml l) hb u hn ht λv hm hid=>?_
  have hkl:=bB v
  have hvu:=dT hm
  exact zQ _ _ p v ((ml l) v) (iB hb v) hid (by omega) (kx hb (by kernel_rfl) (by kernel_rfl) (aan v l))
theorem Qe(p:PId)(l:lag)(u:TUnit)(hn:nU u<=2^19)(ht:∀x,x∈bV u->x.head.length<2^30/\x.words.length<2^30):
    kP 129 [eU u,aK p,.func (.func 138) [] [.pptr [.ls (l.map aQ)] 0 0]] (eU (co p (BZ l) u)):=by
  have hb:az [.pptr [.ls (l.map aQ)] 0 0]=0:=by kernel_rfl
  refine pz _ _ p (BZ l) hb u hn ht λv hm hid=>?_
  have hkl:=bB v
  have hvu:=dT hm
  exact zQ _ _ p v ((BZ l) v) (iB hb v) hid (by omega) (kx hb (by kernel_rfl) (by kernel_rfl) (aaY v l))
theorem Qa(p:PId)(d:PDeed)(u:TUnit)(hn:nU u<=2^19)(ht:∀x,x∈bV u->x.head.length<2^30/\x.words.length<2^30):
    kP 129 [eU u,aK p,.func (.func 140) [] [.pptr [aV d] 0 0]] (eU (co p (pC d.it.label) u)):=by
  have hb:az [.pptr [aV d] 0 0]=0:=by kernel_rfl
  refine pz _ _ p (pC d.it.label) hb u hn ht λv hm hid=>?_
  have hkl:=bB v
  have hvu:=dT hm
  exact zQ _ _ p v ((pC d.it.label) v) (iB hb v) hid (by omega) (kx hb (by kernel_rfl) (by kernel_rfl) (aak v d))
end Go.Proofs.YtiflidpifinbjaaGreatDoor
