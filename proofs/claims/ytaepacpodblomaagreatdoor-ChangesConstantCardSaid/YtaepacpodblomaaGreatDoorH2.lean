/- Functions walked: what each of them answers, for The book is constant between change days and differs on each change day from the day before: part 2. Conditions: those that each theorem names. -/
import Derived.Test.YtaepacpodblomaaGreatDoorH1
namespace Go.Proofs.YtaepacpodblomaaGreatDoor
open Go Go.Ev
theorem Ue(u:TUnit)(hb:kn []=true):kP 204 [eU u,.ls (([]:List PStep).map az)] (.ls ((dS u []).map aK)):=by
  have hv:=u9 [] (by simp) (fun s h=>by grind)
  rw[GM hb]
  have rr0 b' (h:(List.map aK [u])=b':=by(rw[eF,aR];rfl)):=h;let q:=[ab [iV u.act,iV u.item,iV u.n,iV u.kind,ax u.label,aW (u.head.map aQ),aW (u.words.map aQ),aW (u.kids.map aK)]];exact bD Tryz.func204<|Kp 3 hv<|Kf 10 (Le.lsp (rr0 q)<|by rfl:Le _ (AV.ps q true))
def GP(u:TUnit)(s:PStep)(rs:List PStep)(z1000:List TUnit):Prop:=dS u (s::rs)=gw rs z1000∧eY z1000≤2^22
noncomputable def GO(u:TUnit)(s:PStep)(rs:List PStep)(z1000:List TUnit):List AV×List AObj:=([AV.ptr 0 0 0 0,AV.ptr 1 0 0 0],[AObj.row 1 false 0 [AV.ls ((s::rs).map az)],AObj.row 1 false 0 [AV.ls (z1000.map aK)]])
theorem Q6(u:TUnit)(s:PStep)(rs:List PStep)(hn:nU u≤2^11)(hl:(s::rs).length<2^40)(hs:∀x,x∈s::rs→x.label.length≤2^39):kP 204 [eU u,.ls ((s::rs).map az)] (.ls ((dS u (s::rs)).map aK)):=by
  have hv:=u9 (s::rs) hl hs
  have hk:=H2 s
  have hpb:=GQ s u fun x hx=>dM hx
  have hpm:nU u*nU u≤2^11*2^11:=Nat.mul_le_mul hn hn
  have hd:((s::rs).drop 1).length=rs.length:=rfl
  have rr0 b' (h:((dS u (s::rs)).map aK)=b':=by first|rfl|(rw[Jq ‹_›];rfl)|(rw[hj0.1,Iy])):=h;exact bD Tryz.func204<|Kp 3 hv<|Kn 0 (kn<|s::rs) (fun _=>Kf 0 (Le.lsn<|rr0 []:Le _ (ah))) fun _=>Mg 0<|Mj (List TUnit) [3,5] (GO u s rs) (GP u s rs) (fun a=>Kl 1 21 (ln az<|s::rs)<|Kp 5 hk<|Kb 0 (al s.kind 0&&dT s.label []) (fun _=>Kl 1 31 (Le.lsp (t:=true) (Eq.symm<|TO (f:=aK) (g:=Go.Ev.eU) (ws:=[u]) aR) (aU 0:aq ([ab [iV u.act,iV u.item,iV u.n,iV u.kind,ax u.label,aW (u.head.map aQ),aW (u.words.map aQ),aW (u.kids.map aK)]])=0))<|Mg 0<|M0 (.ren [1,2,0] [] [3,5])<|M1 (.frz 2 [3,5]) (cn rt rt ti)<|Mf<|a [u] (by exact⟨GN (by omega) (by assumption),by grind[bh,mW]⟩:dS u (s::rs)=gw rs [u]∧eY [u]≤2^22)) fun _=>Mg 1<|M0 (.ren [1,2,0] [] [3,5,16,17])<|M1 (.frz 2 [3,5,16,17]) (cn rt rt ti)<|Ms (lJ s u).isEmpty (fun b=>Me (Hy s rs u oA b)<|M1 (.obw 1<|aW []) (Wj bI rfl rfl)<|Mf<|a [] (by exact⟨by rw[xX (by omega) (by assumption),List.isEmpty_iff.1 b],by grind⟩:dS u (s::rs)=gw rs []∧eY []≤2^22)) fun b=>Mq (Rd s rs u oA b) fun b c=>M2 (.fzo 1 2 [3,5]<|b.2.2.map aK) (cn rt rt ti) (cn (aU b.1) (tA aK b.2.2 b.2.1 (oA:(b.2.2).length=b.2.1))<|aX iW b.2.2)<|Mf<|a b.2.2 (by exact⟨by rw[xX (by omega) (by assumption),c.2],by grind⟩:dS u (s::rs)=gw rs b.2.2∧eY b.2.2≤2^22)) fun a b=>have:dS u (s::rs)=gw rs a∧eY a≤2^22:=b;K1 0 (.slp<|((s::rs).drop 1).map az) (cn (hM 2 az (s::rs) fun _=>rfl) (et (sA:1≤((s::rs).map az).length) (oA:((s::rs).map az).length≤((s::rs).map az).length))<|X1 (f:=az) (l:=s::rs) (k:=1))<|Kl 0 34 (ln az<|List.drop 1<|s::rs)<|Mg 0<|M0 (.ren [1,0] [] [5,33,34,35])<|M1 (.frz 1 [5,33,34,35]) (et rt ti)<|JI az (List.drop 1<|s::rs) a [5,33,34,35] (fun a _ b=>([bU 0 0 0 0,aW<|((s::rs).drop 1).map az,nV ((s::rs).drop 1).length,nV a],[aZ 1 false 0 [aW<|b.map aK]])) (fun a b=>dS u (s::rs)=gw a b∧eY b≤2^22) sA (fun _ _ a _ _ _ b hj0=>Kh 0 b<|Kf 1<|cK<|rr0<|a.map aK) fun a _ b _ _ c d e _ f _ g hj0=>have:b.length≤eY b:=yQ _;Kt 0 f<|Mx g<|Kl 5 40 (ln aK b)<|Mg 0<|ko Nat Nat (List TUnit) aK b [5,7,8,33,34,35,39,40,41] (fun d _=>([bU 0 0 0 0,bU 1 0 0 0,ah,aW<|((s::rs).drop 1).map az,nV ((s::rs).drop 1).length,nV a,aW<|b.map aK,nV b.length,nV d],[aZ 1 false 0 [aW<|b.map aK],aZ 2 false 0 [ab [iV c.kind,ax c.label]]])) (fun d _ e f g=>([bU 0 0 0 0,bU 1 0 0 0,aN 2 e 0 f none,aW<|((s::rs).drop 1).map az,nV ((s::rs).drop 1).length,nV a,aW<|b.map aK,nV b.length,nV d],[aZ 1 false 0 [aW<|b.map aK],aZ 2 false 0 [ab [iV c.kind,ax c.label]],aZ 8 true e<|g.map aK])) (fun a=>cp c a=cp c b) (fun a _ d e=>d=e.length∧e++cp c a=cp c b∧e.length+eY a<2^30) (by rfl) (fun _ _ _ _ _ b c=>Kh 0 b<|Kl 0 61 bI<|Kl 1 62 (dK a)<|K1 0 (.frz 1 [5,33,34,35]) (et rt ti)<|Mf<|e []<|by exact fA hj0 c) (fun d _ e f g i j k l n _ o _=>have p:=(o).trans<|congrArg some<|aR g;have:=cw (J:=fun a _=>cp c a=cp c b) (a:=()) l f;have:nU g+eY i≤eY b:=oH e l;have:g.kids.length<nU g:=bf g;have:nU g=1+eY g.kids:=jZ g;Kt 0 n<|Mx p<|Kl 5 47 (ln aK g.kids)<|K1 0 (.frz 2 [5,7,8,33,34,35,39,40,41,46,47,48]) (cn rt rt ti)<|ko Nat Nat (List TUnit) aK g.kids [5,7,8,33,34,35,39,40,41,46,47,48] (fun e _=>([bU 0 0 0 0,bU 1 0 0 0,ah,aW<|((s::rs).drop 1).map az,nV ((s::rs).drop 1).length,nV a,aW<|b.map aK,nV b.length,nV d,aW<|g.kids.map aK,nV g.kids.length,nV e],[aZ 1 false 0 [aW<|b.map aK],aZ 2 false 0 [ab [iV c.kind,ax c.label]]])) (fun e _ f i j=>([bU 0 0 0 0,bU 1 0 0 0,aN 2 f 0 i none,aW<|((s::rs).drop 1).map az,nV ((s::rs).drop 1).length,nV a,aW<|b.map aK,nV b.length,nV d,aW<|g.kids.map aK,nV g.kids.length,nV e],[aZ 1 false 0 [aW<|b.map aK],aZ 2 false 0 [ab [iV c.kind,ax c.label]],aZ 8 true f<|j.map aK])) (fun a=>List.filter (bC c) a++cp c i=cp c b) (fun a _ d e=>d=e.length∧e++(List.filter (bC c) a++cp c i)=cp c b∧e.length+(eY a+eY i)<2^30) (by simp_all[gA]) (fun _ _ _ _ _ a _=>Kh 0 a<|Kl 0 60 (dK d)<|Kf 0<|j sA) (fun a _ d e f j k l n p _ o _=>have o:=(o).trans<|congrArg some<|aR f;have:=cw (J:=fun a _=>List.filter (bC c) a++cp c i=cp c b) (a:=()) n e;have:nU f+eY j≤eY g.kids:=oH d n;Kt 0 p<|Mx o<|Kp 4 (kO f c)<|Mb (bC c f) (fun _=>K1 3 (.obj 3<|aZ 8 true 0<|List.map aK [f]) (congrArg (aZ 8 true 0)<|TO (f:=aK) (g:=Go.Ev.eU) (ws:=[f]) aR)<|Kl 1 59 (dK a)<|K1 0 (.ren [0,1,3,2] [3] [5,7,8,33,34,35,39,40,41,46,47,48]) (tS 8 true 0<|aX iW [f])<|M1 (.frz 3 [5,7,8,33,34,35,39,40,41,46,47,48]) (jJ (tR 8 true 0 3<|aX iW [f]) rt rt ti)<|Mf<|l 0 1 [f] gR) fun _=>Kl 0 59 (dK a)<|K1 0 (.frz 2 [5,7,8,33,34,35,39,40,41,46,47,48]) (cn rt rt ti)<|Mf<|k sA) (fun _ _ a e f _ _ _ g _=>Kh 0 g<|Kl 0 60 (dK d)<|Kf 0<|k a e f gR) fun a _ d e f j k l n _ p q r _ o _=>have o:=(o).trans<|congrArg some<|aR l;have k:=cw (J:=fun a d=>d.2.1=d.2.2.length∧d.2.2++(List.filter (bC c) a++cp c i)=cp c b∧d.2.2.length+(eY a+eY i)<2^30) (a:=(d,e,f)) q k;have:nU l+eY n≤eY g.kids:=oH j q;Kt 0 r<|Mx o<|Kp 4 (kO l c)<|Mb (bC c l) (fun _=>K1 2 .app (cn (aU d) (sA:e=(f.map aK).length) (by(refine aO (m:=2^31) ?_ ?_ ?_<;>omega):small (e+1) 120=true))<|M1 (.obj 2<|aZ 8 true (d+1)<|(f++[l]).map aK) (congrArg (aZ 8 true<|d+1)<|yX (f:=aK) (g:=Go.Ev.eU) (l:=f) (ws:=[l]) aR)<|Kl 1 59 (dK a)<|K1 0 (.frz 3 [5,7,8,33,34,35,39,40,41,46,47,48]) (jJ (tR 8 true (d+1) 3<|aX iW<|f++[l]) rt rt ti)<|Mf<|p (d+1) (e+1) (f++[l])<|by exact hB1 k (by omega)) fun _=>Kl 0 59 (dK a)<|K1 0 (.frz 3 [5,7,8,33,34,35,39,40,41,46,47,48]) (jJ (tR 8 true d 3<|aX iW f) rt rt ti)<|Mf<|p d e f<|by exact hB0 k (by omega)) (fun _ _ b c f _ _ _ g i=>let j:=List.map aK f;Kh 0 g<|Mg 0<|M2 (.fsl 2 [5,33,34,35] 61 j) (cn rt rt ti) (cn (aU b) (tA aK f c (oA:(f).length=c))<|aX iW f)<|Ml 61 (fg j false<|aX iW f)<|Kl 1 62 (dK a)<|K1 0 (.frz 1 [5,33,34,35]) (et rt ti)<|Mf<|e f<|by exact fB hj0 i.2.1) fun d _ e f g i j k l _ n o p _ q _=>have r:=(q).trans<|congrArg some<|aR k;have j:=cw (J:=fun a d=>d.2.1=d.2.2.length∧d.2.2++cp c a=cp c b∧d.2.2.length+eY a<2^30) (a:=(e,f,g)) o j;have:nU k+eY l≤eY b:=oH i o;have:k.kids.length<nU k:=bf k;have:nU k=1+eY k.kids:=jZ k;Kt 0 p<|Mx r<|Kl 5 47 (ln aK k.kids)<|K1 0 (.frz 3 [5,7,8,33,34,35,39,40,41,46,47,48]) (jJ (tR 8 true e 3<|aX iW g) rt rt ti)<|Vj aK k.kids e f g [5,7,8,33,34,35,39,40,41,46,47,48] (fun e _ f g i=>([bU 0 0 0 0,bU 1 0 0 0,aN 2 f 0 g none,aW<|((s::rs).drop 1).map az,nV ((s::rs).drop 1).length,nV a,aW<|b.map aK,nV b.length,nV d,aW<|k.kids.map aK,nV k.kids.length,nV e],[aZ 1 false 0 [aW<|b.map aK],aZ 2 false 0 [ab [iV c.kind,ax c.label]],aZ 8 true f<|i.map aK])) (fun a _ d e=>d=e.length∧e++(List.filter (bC c) a++cp c l)=cp c b∧e.length+(eY a+eY l)<2^30) (by(exact gB j)) (fun _ _ a e f _ _ _ g _=>Kh 0 g<|Kl 0 60 (dK d)<|Kf 0<|n a e f gR) fun a _ d e f g i j n o p r _ q _=>have q:=(q).trans<|congrArg some<|aR j;have i:=cw (J:=fun a d=>d.2.1=d.2.2.length∧d.2.2++(List.filter (bC c) a++cp c l)=cp c b∧d.2.2.length+(eY a+eY l)<2^30) (a:=(d,e,f)) p i;have:nU j+eY n≤eY k.kids:=oH g p;Kt 0 r<|Mx q<|Kp 4 (kO j c)<|Mb (bC c j) (fun _=>K1 2 .app (cn (aU d) (sA:e=(f.map aK).length) (by(refine aO (m:=2^31) ?_ ?_ ?_<;>omega):small (e+1) 120=true))<|M1 (.obj 2<|aZ 8 true (d+1)<|(f++[j]).map aK) (congrArg (aZ 8 true<|d+1)<|yX (f:=aK) (g:=Go.Ev.eU) (l:=f) (ws:=[j]) aR)<|Kl 1 59 (dK a)<|K1 0 (.frz 3 [5,7,8,33,34,35,39,40,41,46,47,48]) (jJ (tR 8 true (d+1) 3<|aX iW<|f++[j]) rt rt ti)<|Mf<|o (d+1) (e+1) (f++[j])<|by exact hB1 i (by omega)) fun _=>Kl 0 59 (dK a)<|K1 0 (.frz 3 [5,7,8,33,34,35,39,40,41,46,47,48]) (jJ (tR 8 true d 3<|aX iW f) rt rt ti)<|Mf<|o d e f<|by exact hB0 i (by omega)
theorem Ud(u:TUnit)(p:List PStep)(hn:nU u≤2^11)(hl:p.length<2^40)(hs:∀x,x∈p→x.label.length≤2^39):kP 204 [eU u,.ls (p.map az)] (.ls ((dS u p).map aK)):=by
  cases p with
  |nil=>exact Ue u rfl
  |cons s rs=>grind[Q6]
theorem NL(u:TUnit)(p:List PStep)(L:List TUnit)(hf:kP 204 [eU u,.ls (p.map az)] (.ls (L.map aK)))(hL:L.length≤2^22):kP 140 [eU u,.ls (p.map az)] (.ls ((L.map bv).map aV)):=by
  have rr0 b' (h:((L.map bv).map aV)=b':=by first|rfl|(rw[←hj0];rfl)|(rw[←hj0.2.2.1];simp)):=h;exact bD Tryz.func140<|Kp 4 hf<|Kl 0 11 (ln aK L)<|K1 0 (.frz 0 [5,10,11,12]) ti<|ko Nat Nat (List PId) aK L [5,10,11,12] (fun a _=>([ah,aW<|L.map aK,nV L.length,nV a],[])) (fun a _ b c d=>([aN 0 b 0 c none,aW<|L.map aK,nV L.length,nV a],[aZ 3 true b<|d.map aV])) (fun a=>a=L) (fun a _ b c=>b=c.length∧(0:Nat)<c.length∧c++List.map bv a=List.map bv L∧c.length+a.length=L.length) (by rfl) (fun _ _ _ _ _ a hj0=>Kh 0 a<|Kf 1 (Le.lsn<|rr0 []:Le _ (ah))) (fun a _ _ b c d _ e f g _ i _=>have i:=(i).trans<|congrArg some<|aR c;have hj0:=cw (J:=fun a _=>a=L) (a:=()) f b;Kt 0 g<|Mx i<|Kl 9 21 (jC a)<|Mg 0<|M0 (.ren [1,0] [] [5,10,11,12])<|M1 (.frz 1 [5,10,11,12]) (et rt ti)<|Mf<|e 0 1 [PId.mk c.act c.item c.n]<|by(refine⟨rfl,by simp,?_,?_⟩<;>(rw[←hj0])<;>(first|rfl|grind))) (fun _ _ a b c _ _ _ d hj0=>Kh 0 d<|Mg 1<|M2 (.fsl 0 [] 4<|c.map aV) ti (cn (aU a) (tA aV c b (oA:(c).length=b))<|aX Jh c)<|Ml 4 (fg (c.map aV) false<|aX Jh c)<|Mf<|cK<|rr0<|c.map aV) fun a _ b c d _ e f g _ i j k _ l _=>have l:=(l).trans<|congrArg some<|aR f;have hj0:=cw (J:=fun a b=>b.2.1=b.2.2.length∧(0:Nat)<b.2.2.length∧b.2.2++List.map bv a=List.map bv L∧b.2.2.length+a.length=L.length) (a:=(b,c,d)) j e;Kt 0 k<|Mx l<|K1 6 .app (cn (aU b) (sA:c=(d.map aV).length) (by(refine aO (m:=2^25) ?_ ?_ ?_<;>omega):small (c+1) 24=true))<|M1 (.obj 0<|aZ 3 true (b+1)<|(d++[PId.mk f.act f.item f.n]).map aV) (congrArg (aZ 3 true<|b+1)<|dQ (f:=aV) (l:=d) (ws:=[PId.mk f.act f.item f.n]))<|Kl 1 21 (jC a)<|K1 0 (.frz 1 [5,10,11,12]) (et (tR 3 true (b+1) 1<|aX Jh<|d++[PId.mk f.act f.item f.n]) ti)<|Mf<|i (b+1) (c+1) (d++[PId.mk f.act f.item f.n])<|by(refine⟨by simp_all,by simp,?_,?_⟩<;>first|(rw[←hj0.2.2.1,eF,nR];rfl)|(rw[←hj0.2.2.1];simp;done)|grind)
theorem NG(u:TUnit)(p:List PStep)(hf:kP 140 [eU u,.ls (p.map az)] (.ls (([]:List PId).map aV))):kP 107 [eU u,.ls (p.map az)] (.tuple [aV bR,iV 7]):=by
  exact bD Tryz.func107<|Kp 4 hf<|Kf 8<|bc<|bO [ab [iV 0,iV 0,iV 0],iV 7]
theorem NI(u x:TUnit)(p:List PStep)(hf:kP 140 [eU u,.ls (p.map az)] (.ls ([bv x].map aV))):kP 107 [eU u,.ls (p.map az)] (.tuple [aV (bv x),iV 0]):=by
  exact bD Tryz.func107<|Kp 4 hf<|Kf 13<|bc<|bO [ab [iV (bv x).a,iV (bv x).i,iV (bv x).n],iV 0]
theorem NH(u:TUnit)(p:List PStep)(a b:PId)(r:List PId)(hf:kP 140 [eU u,.ls (p.map az)] (.ls ((a::b::r).map aV))):kP 107 [eU u,.ls (p.map az)] (.tuple [aV bR,iV 8]):=by
  have q1:al (Int.ofNat (r.length+1+1)) 0=false:=rfl
  have q2:al (Int.ofNat (r.length+1+1)) 1=false:=rfl
  exact bD Tryz.func107<|Kp 4 hf<|Kl 2 11 (ln aV<|a::b::r)<|Kf 8<|bc<|bO [ab [iV 0,iV 0,iV 0],iV 8]
/-- The way of an address, whatever it finds. -/
theorem NF(u:TUnit)(p:List PStep)(hf:kP 204 [eU u,.ls (p.map az)] (.ls ((dS u p).map aK)))(hn:nU u≤2^11):kP 107 [eU u,.ls (p.map az)] (.tuple [aV (aF u p).1,iV (aF u p).2]):=by
  have ha:=NL u p (dS u p) hf (JU p hn)
  cases e:dS u p with
  |nil=>grind[G2,NG]
  | cons x r=>
    cases r with
    |nil=>grind[G1,NI]
    |cons y r=>grind[G0,NH]
noncomputable abbrev zU:AV:=.agg [iV 0,iV 0,iV 0,iV 0,.str [],.nils,.nils,.nils]
noncomputable abbrev dF(xs:List AV):AObj:=.row 8 false 0 xs
theorem UC{L Z:List AV}{n i:Nat}(hn:L.length=n)(hi:i<n):((L++Z).drop (i+1)).take (n-(i+1))=L.drop (i+1):=by
  grind
theorem UD{L Z:List AV}{n i:Nat}(hn:L.length=n)(hi:i<n):bL (L++Z) (0+i) (L.drop (i+1))=L.eraseIdx i++(L.drop (n-1)++Z):=by
  unfold bL
  grind
theorem Eg{L Z:List AV}{z:AV}{n i:Nat}(hn:L.length=n)(hi:i<n):bL (L.eraseIdx i++(L.drop (n-1)++Z)) (n-1) (List.replicate 1 z)=L.eraseIdx i++(z::Z):=by
  unfold bL
  have h1:(L.eraseIdx i).length=n-1:=by grind
  have h2:(L.drop (n-1)).length=1:=by grind
  grind
theorem Yj{a b:Nat}(h:a≠b):al (Int.ofNat a) (Int.ofNat b)=false:=by
  grind[rf]
theorem Rn(L Z:List AV)(n k i:Nat)(hi:i+1<n)(hn:L.length=n)(hs:n≤2^20)(hf:dB 8 L=true)(hZ:Z.length=k)(hT:aq (L++Z)=0):kD 228 [.slice 0 0 0 n (some (n+k)),nV i,nV (i+1)] (av [dF (L++Z)]) (.slice 0 0 0 (n-1) (some (n+k))) (av [dF (L.eraseIdx i++(zU::Z))]):=by
  have hq:al (Int.ofNat i) (Int.ofNat (i+1))=false:=Yj (by omega)
  let q:=AHeap.mk 1000000 (bB (av [aZ 8 false 0 (L++Z)]) ([0]) Tr.nil);let q1:=av [aZ 8 false 0 (L.eraseIdx i++(L.drop (n-1)++Z))];let q2:=av [aZ 8 false 0 (L++Z)];let q3:=(some (aN 0 0 0 n (some (n+k))));let q4:=aN 0 0 (i+1) (n-(i+1)) (some (n+k-(i+1)));let q5:=(some (nV (i+1)));let q6:=(some (nV i));let q7:=(some (nV n));let q8:=AHeap.mk 1 (bB q2 ([0,0]) Tr.nil);let q9:=aN 0 0 0 (n-1) (some (n+k));let q10:=aN 0 0 (n-1) 1 (some (k+1));let q11:=aN 0 0 0 i (some (n+k));exact ej Tryz.func228 fun a=>Ko 5 (by exact Df (xs:=L++Z) (l:=i) (h:=i+1) (m:=n) (by kernel_rfl) (by rfl) (by rfl) (by rfl) (by omega) (by omega) (by omega) (by omega) (by omega) (by omega) (by omega):ba q2 (dU (8) q2 q3 q6 q5 q7)=some (ARes.val (AV.slice 0 0 i 1 (some (n-i))) q2))<|Kh 2 hq<|Kv 4 (by exact iw (xs:=L++Z) (l:=0) (h:=i) (by kernel_rfl) (by rfl) (by rfl) (by omega) (by omega) (by omega) (by omega) (by omega) (by omega):ba (q) (dU (8) (q) q3 (none) q6 (none))=some (ARes.val q11 q))<|Kv 1 (by exact iw (xs:=L++Z) (l:=i+1) (h:=n) (by kernel_rfl) (by rfl) (by rfl) (by omega) (by omega) (by omega) (by omega) (by omega) (by omega):ba (q) (dU (8) (q) q3 q5 (none) (none))=some (ARes.val q4 q))<|Md rt (gS (tR 8 false 0 1 (oA:aq (L++Z)=0))<|gS (tR 8 false 0 1 (oA:aq (L++Z)=0)) rt) (by exact L4 (new:=L.drop (i+1)) rfl (yM rfl (UC hn (by omega))) (re hf) (fun e=>by have:=congrArg List.length e;grind) (by grind) (by grind) (aO (m:=2^20) (by grind) (by omega) (by omega)) (by grind) (UD hn (by omega)):fX (dX (8) (120) (q8) ((some q11)) ((some q4)))=some (ARes.val q9 (AHeap.put q8 0 (AObj.row 8 false 0 (L.eraseIdx i++(L.drop (n-1)++Z))))))<|Ko 4 (by exact iw (xs:=L.eraseIdx i++(L.drop (n-1)++Z)) (l:=n-1) (h:=n) (by kernel_rfl) (by rfl) (by rfl) (by omega) (by omega) (by omega) (by omega) (by omega) (by omega):ba q1 (dU (8) q1 ((some q9)) ((some (nV (n-1)))) q7 (none))=some (ARes.val q10 q1))<|Mo (by exact Js rfl (by kernel_rfl) (Eg hn (by omega)):fX (v8 (8) (AV.agg [iV 0,iV 0,iV 0,iV 0,AV.str [],AV.nils,AV.nils,AV.nils]) q1 ((some q10)))=some (ARes.val (AV.tuple []) (av [AObj.row 8 false 0 (L.eraseIdx i++zU::Z)])))<|Kf 1 a
theorem Rm(L Z:List AV)(k i:Nat)(hn:L.length=i+1)(hs:i<2^20)(hk:0<k)(hZ:Z.length=k)(hT:aq (L++Z)=0):kD 228 [.slice 0 0 0 (i+1) (some (i+1+k)),nV i,nV (i+1)] (av [dF (L++Z)]) (.slice 0 0 0 i (some (i+1+k))) (av [dF (L.eraseIdx i++(zU::Z))]):=by
  have hq:al (Int.ofNat i) (Int.ofNat (i+1))=false:=Yj (by omega)
  have hr:L.eraseIdx i++(L.drop (i+1-1)++Z)=L++Z:=by
    rw[Ot,E2 (by omega),ef,←nR,show i+1-1=i from rfl,JP]
  have hc:bL (L++Z) i (List.replicate 1 zU)=L.eraseIdx i++(zU::Z):=by
    have h:=Eg (z:=zU) (Z:=Z) hn (show i<i+1 by omega)
    grind
  let q:=av [aZ 8 false 0 (L++Z)];let q1:=AHeap.mk 1000000 (bB q ([0]) Tr.nil);let q2:=(some (nV (i+1)));let q3:=aN 0 0 0 i (some (i+1+k));let q4:=(some (aN 0 0 0 (i+1) (some (i+1+k))));let q5:=(some (nV i));let q6:=AHeap.mk 1 (bB q ([0,0]) Tr.nil);let q7:=aN 0 0 (i+1) 0 (some k);let q8:=aN 0 0 i 1 (some (k+1));exact ej Tryz.func228 fun a=>Ko 5 (by exact Df (xs:=L++Z) (l:=i) (h:=i+1) (m:=i+1) (by kernel_rfl) (by rfl) (by rfl) (by rfl) (by omega) (by omega) (by omega) (by omega) (by omega) (by omega) (by omega):ba q (dU (8) q q4 q5 q2 q2)=some (ARes.val (AV.slice 0 0 i 1 (some 1)) q))<|Kh 2 hq<|Kv 4 (by exact iw (xs:=L++Z) (l:=0) (h:=i) (by kernel_rfl) (by rfl) (by rfl) (by omega) (by omega) (by omega) (by omega) (by omega) (by omega):ba (q1) (dU (8) (q1) q4 (none) q5 (none))=some (ARes.val q3 q1))<|Kv 1 (by exact iw (xs:=L++Z) (l:=i+1) (h:=i+1) (by kernel_rfl) (by rfl) (by rfl) (by omega) (by omega) (by omega) (by omega) (by omega) (by omega):ba (q1) (dU (8) (q1) q4 q2 (none) (none))=some (ARes.val q7 q1))<|Md rt (gS (tR 8 false 0 1 (oA:aq (L++Z)=0))<|gS (tR 8 false 0 1 (oA:aq (L++Z)=0)) rt) (by exact Sx (yM rfl List.take_zero):fX (dX (8) (120) (q6) ((some q3)) ((some q7)))=some (ARes.val q3 q6))<|Ko 4 (by exact iw (xs:=L++Z) (l:=i) (h:=i+1) (by kernel_rfl) (by rfl) (by rfl) (by omega) (by omega) (by omega) (by omega) (by omega) (by omega):ba q (dU (8) q ((some q3)) q5 q2 (none))=some (ARes.val q8 q))<|Mo (by exact Js rfl (by kernel_rfl) hc:fX (v8 (8) (AV.agg [iV 0,iV 0,iV 0,iV 0,AV.str [],AV.nils,AV.nils,AV.nils]) q ((some q8)))=some (ARes.val (AV.tuple []) (av [AObj.row 8 false 0 (L.eraseIdx i++zU::Z)])))<|Kf 1 a
theorem Rl(L:List AV)(i:Nat)(hn:L.length=i+1)(hs:i<2^20)(hT:aq L=0):kD 228 [.slice 0 0 0 (i+1) (some (i+1)),nV i,nV (i+1)] (av [dF L]) (.slice 0 0 0 i (some (i+1))) (av [dF (L.eraseIdx i++[zU])]):=by
  have hq:al (Int.ofNat i) (Int.ofNat (i+1))=false:=Yj (by omega)
  have hr:L.eraseIdx i++(L.drop (i+1-1)++[])=L:=by
    rw[Ot,E2 (by omega),ef,ef,show i+1-1=i from rfl,JP]
  have hc:bL L i (List.replicate 1 zU)=L.eraseIdx i++[zU]:=by
    have h:=Eg (z:=zU) (Z:=[]) hn (show i<i+1 by omega)
    grind
  let q:=av [aZ 8 false 0 L];let q1:=AHeap.mk 1000000 (bB q ([0]) Tr.nil);let q2:=(some (nV (i+1)));let q3:=aN 0 0 0 i (some (i+1));let q4:=(some (aN 0 0 0 (i+1) (some (i+1))));let q5:=(some (nV i));let q6:=aN 0 0 i 1 (some 1);let q7:=AHeap.mk 1 (bB q ([0,0]) Tr.nil);let q8:=aN 0 0 0 0 (some 0);exact ej Tryz.func228 fun a=>Ko 5 (by exact Df (xs:=L) (l:=i) (h:=i+1) (m:=i+1) (by kernel_rfl) (by rfl) (by rfl) (by rfl) (by omega) (by omega) (by omega) (by omega) (by omega) (by omega) (by omega):ba q (dU (8) q q4 q5 q2 q2)=some (ARes.val q6 q))<|Kh 2 hq<|Kv 4 (by exact iw (xs:=L) (l:=0) (h:=i) (by kernel_rfl) (by rfl) (by rfl) (by omega) (by omega) (by omega) (by omega) (by omega) (by omega):ba (q1) (dU (8) (q1) q4 (none) q5 (none))=some (ARes.val q3 q1))<|Kv 1 (by exact KY (xs:=L) (l:=i+1) (h:=i+1) (by kernel_rfl) (by rfl) (by rfl) (by rfl) rfl:ba (q1) (dU (8) (q1) q4 q2 (none) (none))=some (ARes.val q8 q1))<|Md rt (gS (tR 8 false 0 1 (oA:aq (L)=0))<|gS (tR 8 false 0 1 (oA:aq (L)=0)) rt) (by exact Sx (yM rfl List.take_zero):fX (dX (8) (120) (q7) ((some q3)) ((some q8)))=some (ARes.val q3 q7))<|Ko 4 (by exact iw (xs:=L) (l:=i) (h:=i+1) (by kernel_rfl) (by rfl) (by rfl) (by omega) (by omega) (by omega) (by omega) (by omega) (by omega):ba q (dU (8) q ((some q3)) q5 q2 (none))=some (ARes.val q6 q))<|Mo (by exact Js rfl (by kernel_rfl) hc:fX (v8 (8) (AV.agg [iV 0,iV 0,iV 0,iV 0,AV.str [],AV.nils,AV.nils,AV.nils]) q ((some q6)))=some (ARes.val (AV.tuple []) (av [AObj.row 8 false 0 (L.eraseIdx i++[zU])])))<|Kf 1 a
theorem Ri(L Z:List AV)(n i:Nat)(hi:i<n)(hn:L.length=n)(hs:n≤2^20)(hf:dB 8 L=true)(hT:aq (L++Z)=0):kD 228 [.slice 0 0 0 n (some (n+Z.length)),nV i,nV (i+1)] (av [dF (L++Z)]) (.slice 0 0 0 (n-1) (some (n+Z.length))) (av [dF (L.eraseIdx i++(zU::Z))]):=by
  rcases fZ (i+1) n with h|h
  · exact Rn L Z n _ i h hn hs hf rfl hT
  · obtain rfl:n=i+1:=by omega
    cases Z with
    |nil=>rw[ef];rw[ef]at hT;exact Rl L i hn (by omega) hT
    |cons z r=>exact Rm L (z::r) _ i hn (by omega) (wK _) rfl hT
/-- A list with an element more at a place. -/
def ge(i:Nat)(x:AV)(l:List AV):List AV:=l.take i++(x::l.drop i)
theorem AZ{i:Nat}{x:AV}{l:List AV}(h:i≤l.length):(ge i x l).length=l.length+1:=by
  grind[ge]
theorem Gn{x:AV}{l:List AV}{n:Nat}(h:l.length=n):ge n x l=l++[x]:=by
  grind[ge]
theorem YA(n:Nat):al (Int.ofNat n) (Int.ofNat n)=true:=bY _
theorem ZP{a b:Nat}(h:a<b):ao (Int.ofNat a) (Int.ofNat b)=true:=jy (by simp_all)
theorem ZR{a b:Nat}(h:b≤a):ao (Int.ofNat a) (Int.ofNat b)=false:=iQ (by simp_all)
theorem Us{L Z:List AV}{x z:AV}{n:Nat}(h:L.length=n):bL (L++z::Z) (0+n) [x]=ge n x L++Z:=by
  unfold bL
  rw[Gn h,fw,←h,List.take_left,show(L++z::Z).drop (L.length+[x].length)=Z by rw[←BI,List.drop_left];rfl]
theorem TB{L Z:List AV}{z:AV}{n i:Nat}(h:L.length=n)(hi:i<n):bL (L++z::Z) (i+1) (L.drop i)=L.take (i+1)++(L.drop i++Z):=by
  unfold bL
  rw[List.take_append_of_le_length (by omega),nR,yc,show i+1+(L.length-i)=L.length+1 by omega,←BI,List.drop_left];rfl
theorem QK{L Z:List AV}{x:AV}{n i:Nat}(h:L.length=n)(hi:i<n):bL (L.take (i+1)++(L.drop i++Z)) i [x]=ge i x L++Z:=by
  unfold bL ge
  grind
theorem Tm{L:List AV}{z x:AV}{n i:Nat}(h:L.length=n)(hi:i<n):bL (L.take i++List.replicate (n+1-i) z) i [x]=L.take i++(x::List.replicate (n-i) z):=by
  unfold bL
  have h1:(L.take i).length=i:=by grind
  have e:n+1-i=(n-i)+1:=by omega
  rw[List.take_append_of_le_length (by omega),BH (by omega),←BI]
  simp_all
theorem QW{L:List AV}{z x:AV}{n i:Nat}(h:L.length=n)(hi:i<n):bL (L.take i++(x::List.replicate (n-i) z)) (i+1) (L.drop i)=ge i x L:=by
  unfold bL ge
  have h1:(L.take i).length=i:=by grind
  have h2:(L.take i++(x::List.replicate (n-i) z)).length=n+1:=by grind
  have e:(L.take i++(x::List.replicate (n-i) z)).drop (i+1+(L.drop i).length)=[]:=E2 (by grind)
  grind
theorem Qp(L Z:List AV)(x z:AV)(t:Bool)(n k:Nat)(hn:L.length=n)(hs:n<2^20)(hk:Z.length=k)(hx:dB 8 [x]=true):kD 163 [.slice 0 0 0 n (some (n+(k+1))),nV n,.ps [x] t] (av [dF (L++z::Z)]) (.slice 0 0 0 (n+1) (some (n+(k+1)))) (av [dF (ge n x L++Z)]):=by
  have hq:=YA n
  let q:=av [aZ 8 false 0 (L++z::Z)];exact ej Tryz.func163 fun a=>Ko 2 (by exact iw (xs:=L++z::Z) (l:=n) (h:=n) (by kernel_rfl) (by rfl) (by rfl) (by omega) (by omega) (by omega) (by omega) (by omega) (by omega):ba q (dU (8) q ((some (AV.slice 0 0 0 n (some (n+(k+1)))))) ((some (nV n))) (none) (none))=some (ARes.val (AV.slice 0 0 n 0 (some (k+1))) q))<|Kt 11 hq<|Ko 1 (by exact L4 (new:=[x]) rfl (by rfl) hx (pf _ _) (by simp_all) (by simp_all) (aO (m:=2^20) (by grind) (by omega) (by omega)) rfl (Us hn):fX (dX (8) (120) (av [AObj.row 8 false 0 (L++z::Z)]) ((some (AV.slice 0 0 0 n (some (n+(k+1)))))) ((some (AV.ps [x] t))))=some (ARes.val (AV.slice 0 0 0 (n+1) (some (n+(k+1)))) (av [AObj.row 8 false 0 (ge n x L++Z)])))<|Kf 0 a
theorem Qo(L:List AV)(x:AV)(t:Bool)(n:Nat)(hn:L.length=n)(hs:n<2^20)(hx:dB 8 [x]=true)(hT:aq L=0)(hI:aq (ge n x L)=0):kD 163 [.slice 0 0 0 n (some n),nV n,.ps [x] t] (av [dF L]) (.ls (ge n x L)) (av [dF L]):=by
  have hq:=YA n
  have hIl:(ge n x L).length=n+1:=(AZ (by omega)).trans (by omega)
  let q:=av [aZ 8 false 0 L];exact ej Tryz.func163 fun a=>Ko 2 (by exact KY (xs:=L) (l:=n) (h:=n) (by kernel_rfl) (by rfl) (by rfl) (by rfl) rfl:ba q (dU (8) q ((some (AV.slice 0 0 0 n (some n)))) ((some (nV n))) (none) (none))=some (ARes.val (AV.slice 0 0 0 0 (some 0)) q))<|Kt 11 hq<|Ko 1 (by exact VJ (new:=[x]) rfl (by rfl) hx (pf _ _) (by simp_all) (aO (m:=2^20) (by grind) (by omega) (by omega)) (by grind[Gn]) ((AZ (by omega)).trans (by omega)):fX (dX (8) (120) (av [AObj.row 8 false 0 L]) ((some (AV.slice 0 0 0 n (some n)))) ((some (AV.ps [x] t))))=some (ARes.val (AV.slice 1 0 0 (n+1) none) (av [AObj.row 8 false 0 L,AObj.row 8 true 0 (ge n x L)])))<|Mg 0<|M2 (.fsl 1 [] 6<|ge n x L) (et (tR 8 false 0 1 (oA:aq (L)=0)) ti) (cn (aU 0) (Va (oA:(ge n x L).length=n+1)) (oA:aq (ge n x L)=0))<|Ml 6 (fg (ge n x L) false (oA:aq (ge n x L)=0))<|Mf a
theorem Qn(L Z:List AV)(x z:AV)(t:Bool)(n k i:Nat)(hi:i<n)(hn:L.length=n)(hs:n<2^20)(hk:Z.length=k)(hx:dB 8 [x]=true)(hf:dB 8 L=true)(hT:aq (L++z::Z)=0)(hov:kD 225 [.ps [x] t,.slice 0 0 (i+1) (n-i) (some (n+(k+1)-(i+1)))] (av [dF (L++z::Z)]) (.bool false) (av [dF (L++z::Z)])):kD 163 [.slice 0 0 0 n (some (n+(k+1))),nV i,.ps [x] t] (av [dF (L++z::Z)]) (.slice 0 0 0 (n+1) (some (n+(k+1)))) (av [dF (ge i x L++Z)]):=by
  have hq:al (Int.ofNat i) (Int.ofNat n)=false:=Yj (by omega)
  have hl:ao (Int.ofNat (n+(k+1))) (Int.ofNat (n+1))=false:=ZR (by omega)
  let q:=av [aZ 8 false 0 (L++z::Z)];let q1:=av [aZ 8 false 0 (L.take (i+1)++(L.drop i++Z))];let q2:=AHeap.mk 1000000 (bB q ([0]) Tr.nil);let q3:=aN 0 0 0 (n+1) (some (n+(k+1)));let q4:=aN 0 0 i (n+1-i) (some (n+(k+1)-i));let q5:=(some (nV i));let q6:=aN 0 0 (i+1) (n-i) (some (n+(k+1)-(i+1)));let q7:=(some (nV (i+1)));let q8:=(some (aN 0 0 0 n (some (n+(k+1)))));exact ej Tryz.func163 fun a=>Ko 2 (by exact iw (xs:=L++z::Z) (l:=i) (h:=n) (by kernel_rfl) (by rfl) (by rfl) (by omega) (by omega) (by omega) (by omega) (by omega) (by omega):ba q (dU (8) q q8 q5 (none) (none))=some (ARes.val (AV.slice 0 0 i (n-i) (some (n+(k+1)-i))) q))<|Kh 11 hq<|Kl 2 28 (jC n)<|Kh 2 hl<|Kl 3 59 (jC n)<|Mo (by exact iw (xs:=L++z::Z) (l:=0) (h:=n+1) (by kernel_rfl) (by rfl) (by rfl) (by omega) (by omega) (by omega) (by omega) (by omega) (by omega):ba q (dU (8) q q8 (none) ((some (nV (n+1)))) (none))=some (ARes.val q3 q))<|Kl 5 65 (jC i)<|Mo (by exact iw (xs:=L++z::Z) (l:=i+1) (h:=n+1) (by kernel_rfl) (by rfl) (by rfl) (by omega) (by omega) (by omega) (by omega) (by omega) (by omega):ba q (dU (8) q ((some q3)) q7 (none) (none))=some (ARes.val q6 q))<|Me hov<|Mg 4<|Ma (jC i)<|Mv (by exact iw (xs:=L++z::Z) (l:=i+1) (h:=n+1) (by kernel_rfl) (by rfl) (by rfl) (by omega) (by omega) (by omega) (by omega) (by omega) (by omega):ba (q2) (dU (8) (q2) ((some q3)) q7 (none) (none))=some (ARes.val q6 q2))<|Kv 1 (by exact iw (xs:=L++z::Z) (l:=i) (h:=n+1) (by kernel_rfl) (by rfl) (by rfl) (by omega) (by omega) (by omega) (by omega) (by omega) (by omega):ba (q2) (dU (8) (q2) ((some q3)) q5 (none) (none))=some (ARes.val q4 q2))<|Md rt (gS (tR 8 false 0 1 (oA:aq (L++z::Z)=0))<|gS (tR 8 false 0 1 (oA:aq (L++z::Z)=0)) rt) (by exact LF (zs:=((L++z::Z).drop i).take (n+1-i)) rfl (yM rfl rfl) (by grind[re]) (by grind) (by grind[TB]):fX (uC (8) ((AHeap.mk 1 (bB (av [AObj.row 8 false 0 (L++z::Z)]) ([0,0]) Tr.nil))) ((some (AV.slice 0 0 (i+1) (n-i) (some (n+(k+1)-(i+1)))))) ((some (AV.slice 0 0 i (n+1-i) (some (n+(k+1)-i))))))=some (ARes.val (nV (n-i)) (AHeap.put (AHeap.mk 1 (bB (av [AObj.row 8 false 0 (L++z::Z)]) ([0,0]) Tr.nil)) 0 (AObj.row 8 false 0 (L.take (i+1)++(L.drop i++Z))))))<|Ko 1 (by exact iw (xs:=L.take (i+1)++(L.drop i++Z)) (l:=i) (h:=n+1) (by kernel_rfl) (by rfl) (by rfl) (by omega) (by omega) (by omega) (by omega) (by omega) (by omega):ba q1 (dU (8) q1 ((some q3)) q5 (none) (none))=some (ARes.val q4 q1))<|Ko 0 (by exact LF (zs:=[x]) rfl (by rfl) (rb hx) (by grind) (by grind[List.take_of_length_le,QK]):fX (uC (8) q1 ((some q4)) ((some (AV.ps [x] t))))=some (ARes.val (iV 1) (av [AObj.row 8 false 0 (ge i x L++Z)])))<|Kf 1 a
theorem Qm(L:List AV)(x:AV)(t:Bool)(n i:Nat)(hi:i<n)(hn:L.length=n)(hs:n<2^20)(hx:dB 8 [x]=true)(hf:dB 8 L=true)(hT:aq L=0)(hT2:aq (L.take i++(x::List.replicate (n-i) zU))=0)(hI:aq (ge i x L)=0):kD 163 [.slice 0 0 0 n (some n),nV i,.ps [x] t] (av [dF L]) (.ls (ge i x L)) (av [dF L]):=by
  have hq:al (Int.ofNat i) (Int.ofNat n)=false:=Yj (by omega)
  have hl:ao (Int.ofNat n) (Int.ofNat (n+1))=true:=ZP (by omega)
  have hIl:(ge i x L).length=n+1:=(AZ (by omega)).trans (by omega)
  let q:=av [aZ 8 false 0 L,aZ 8 true 0 (L.take i++x::List.replicate (n-i) zU)];let q1:=av [aZ 8 false 0 L,aZ 8 true 0 (L.take i++List.replicate (n+1-i) zU)];let q2:=av [aZ 8 false 0 L];let q3:=(some (nV i));let q4:=AHeap.mk 1000000 (bB q ([0]) Tr.nil);let q5:=aN 0 0 i (n-i) (some (n-i));let q6:=(some (aN 0 0 0 n (some n)));let q7:=AHeap.mk 2 (bB q ([1,0]) Tr.nil);let q8:=aN 1 0 i (n+1-i) none;let q9:=aN 1 0 0 (n+1) none;let q10:=aN 0 0 0 i (some n);exact ej Tryz.func163 fun a=>Ko 2 (by exact iw (xs:=L) (l:=i) (h:=n) (by kernel_rfl) (by rfl) (by rfl) (by omega) (by omega) (by omega) (by omega) (by omega) (by omega):ba q2 (dU (8) q2 q6 q3 (none) (none))=some (ARes.val q5 q2))<|Kh 11 hq<|Kl 2 28 (jC n)<|Kt 2 hl<|Ko 1 (by exact iw (xs:=L) (l:=0) (h:=i) (by kernel_rfl) (by rfl) (by rfl) (by omega) (by omega) (by omega) (by omega) (by omega) (by omega):ba q2 (dU (8) q2 q6 (none) q3 (none))=some (ARes.val q10 q2))<|Kl 2 37 (jC n)<|Ko 0 (by(show ba _ (some (AV.int .i64 (IntKind.i64.wrap (Int.ofNat (n+1)-Int.ofNat i))))=_;rw[show(Int.ofNat (n+1)-Int.ofNat i)=Int.ofNat (n+1-i) by grind,qP (by simp_all) (by grind)];rfl):ba (av [AObj.row 8 false 0 L]) (SH (pF BinOp.sub (Tryz.prog.underlying 3) (cL Tryz.prog 3) (cO Tryz.prog 3) (dR Tryz.prog 10 3 0)) ((some (nV (n+1)))) ((some (nV i))))=some (ARes.val (nV (n+1-i)) (av [AObj.row 8 false 0 L])))<|Mo (by exact Tu rfl (by omega) (by omega) (by kernel_rfl) (aO (m:=2^21) (by omega) (by omega) (by omega)) (aO (m:=2^21) (by omega) (by omega) (by omega)) (by simp_all) (by grind):fX (Cr (8) (120) (AV.agg [iV 0,iV 0,iV 0,iV 0,AV.str [],AV.nils,AV.nils,AV.nils]) q2 ((some q10)) ((some (nV (n+1-i)))))=some (ARes.val q9 q1))<|Ko 2 (by exact KV (xs:=L.take i++List.replicate (n+1-i) zU) (l:=i) (h:=n+1) (by kernel_rfl) (by rfl) (by rfl) (by omega) (by grind) (by omega) (by omega):ba q1 (dU (8) q1 ((some q9)) q3 (none) (none))=some (ARes.val q8 q1))<|Ko 0 (by exact LF (zs:=[x]) rfl (by rfl) (rb hx) (by grind) (by grind[List.take_of_length_le,Tm]):fX (uC (8) q1 ((some q8)) ((some (AV.ps [x] t))))=some (ARes.val (iV 1) q))<|Mg 2<|Ma (jC i)<|Mv (by exact KV (xs:=L.take i++(x::List.replicate (n-i) zU)) (l:=i+1) (h:=n+1) (by kernel_rfl) (by rfl) (by rfl) (by omega) (by grind) (by omega) (by omega):ba ((AHeap.mk 1000000 (bB (av [AObj.row 8 false 0 L,AObj.row 8 true 0 (L.take i++x::List.replicate (n-i) zU)]) ([1]) Tr.nil))) (dU (8) ((AHeap.mk 1000000 (bB (av [AObj.row 8 false 0 L,AObj.row 8 true 0 (L.take i++x::List.replicate (n-i) zU)]) ([1]) Tr.nil))) ((some (AV.slice 1 0 0 (n+1) none))) ((some (nV (i+1)))) (none) (none))=some (ARes.val (AV.slice 1 0 (i+1) (n-i) none) (AHeap.mk 1000000 (bB (av [AObj.row 8 false 0 L,AObj.row 8 true 0 (L.take i++x::List.replicate (n-i) zU)]) ([1]) Tr.nil))))<|Kv 1 (by exact iw (xs:=L) (l:=i) (h:=n) (by kernel_rfl) (by rfl) (by rfl) (by omega) (by omega) (by omega) (by omega) (by omega) (by omega):ba (q4) (dU (8) (q4) q6 q3 (none) (none))=some (ARes.val q5 q4))<|Md rt (gS (tR 8 true 0 2 (oA:aq (L.take i++x::List.replicate (n-i) zU)=0))<|gS (tR 8 false 0 2 (oA:aq (L)=0)) rt) (by exact LF (zs:=L.drop i) rfl (yM rfl (BH (by simp_all))) (rb (re hf)) (by simp_all) (by grind[List.length_drop,QW]):fX (uC (8) (q7) ((some (AV.slice 1 0 (i+1) (n-i) none))) ((some q5)))=some (ARes.val (nV (n-i)) (AHeap.put q7 1 (AObj.row 8 true 0 (ge i x L)))))<|Mg 1<|M2 (.fsl 1 [] 6<|ge i x L) (et (tR 8 false 0 1 (oA:aq (L)=0)) ti) (cn (aU 0) (Va (oA:(ge i x L).length=n+1)) (oA:aq (ge i x L)=0))<|Ml 6 (fg (ge i x L) false (oA:aq (ge i x L)=0))<|Mf a
theorem Gl(x:TUnit)(t:Bool):kP 163 [.nils,iV 0,.ps [eU x] t] (.ls [eU x]):=by
  have hx:dB 8 [eU x]=true:=by kernel_rfl
  have hIl:[eU x].length=1:=rfl
  have hI:aq [eU x]=0:=by kernel_rfl
  let q:=[ab [iV x.act,iV x.item,iV x.n,iV x.kind,ax x.label,aW (x.head.map aQ),aW (x.words.map aQ),aW (x.kids.map aK)]];exact bD Tryz.func163<|Ko 18 (by(simp only[dX,gj,ka,kx,gP,hx];rfl):fX (dX (8) (120) (av []) ((some (AV.nils))) ((some (AV.ps [AV.agg [iV x.act,iV x.item,iV x.n,iV x.kind,AV.str x.label,AV.ls (x.head.map aQ),AV.ls (x.words.map aQ),AV.ls (x.kids.map aK)]] t))))=some (ARes.val (AV.slice 0 0 0 1 none) (av [AObj.row 8 true 0 [eU x]])))<|K1 0 (.frz 0 [6]) ti<|Mf (fg q _<|by rfl:Le _ (AV.ps q false))
theorem Gi(x:TUnit)(t:Bool):kP 163 [.ps [] true,iV 0,.ps [eU x] t] (.ls [eU x]):=by
  have hx:dB 8 [eU x]=true:=by kernel_rfl
  have hIl:[eU x].length=1:=rfl
  have hI:aq [eU x]=0:=by kernel_rfl
  let q:=[ab [iV x.act,iV x.item,iV x.n,iV x.kind,ax x.label,aW (x.head.map aQ),aW (x.words.map aQ),aW (x.kids.map aK)]];exact bD Tryz.func163<|Ko 18 (by(simp only[dX,gj,ka,kx,gP,hx];rfl):fX (dX (8) (120) (av []) ((some (AV.ps [] true))) ((some (AV.ps [AV.agg [iV x.act,iV x.item,iV x.n,iV x.kind,AV.str x.label,AV.ls (x.head.map aQ),AV.ls (x.words.map aQ),AV.ls (x.kids.map aK)]] t))))=some (ARes.val (AV.slice 0 0 0 1 none) (av [AObj.row 8 true 0 [eU x]])))<|K1 0 (.frz 0 [6]) ti<|Mf (fg q _<|by rfl:Le _ (AV.ps q false))
noncomputable def J8:TypeInfo:=(Tryz.prog.info? 38).getD default
theorem O0:Tryz.prog.info? 38=some J8:=by kernel_rfl
/-- A unit of zero values says no more than the zero value. -/
theorem XL:Le (aK bd) zU:=bQ (.cons (Le.refl _) (.cons (Le.refl _) (.cons (Le.refl _) (.cons (Le.refl _) (.cons (Le.refl _) (.cons Le.nils (.cons Le.nils (.cons Le.nils .nil)))))))) rfl
theorem Iw:J8.size=8:=by kernel_rfl
theorem Fq:J8.bytes=120:=by kernel_rfl
theorem Yp(l:List TUnit):dB 8 (l.map aK)=true:=gg (fun u=>by cases u;rfl) l
/-- A copy of units: a row of its own, which holds zero values behind them. -/
theorem Eh(xs:List TUnit)(hne:xs≠[])(hl:xs.length≤2^20)(a b c:AObj):kC 224 [.ls (xs.map aK)] (av [a,b,c])
    (fun v h=>∃k:Nat,True∧v=.slice 3 0 0 xs.length (some (xs.length+k))∧h=av [a,b,c,dF ((xs++List.replicate k bd).map aK)]):=by
  simp only[rH,List.map_replicate]
  have hn:xs.map aK≠[]:=fun h=>hne (List.map_eq_nil_iff.1 h)
  have hf:=Yp xs
  have hsm:small (xs.map aK).length 120=true:=by grind[aO]
  have hlen:xs.length=(xs.map aK).length:=(cJ ..).symm
  rw[hlen]
  generalize xs.map aK=L at hn hf hsm
  refine aL.enter 2 (fn:=Tryz.f224) Tryz.func224 (by kernel_rfl) rfl ⟨by kernel_rfl,by kernel_rfl⟩ ?_
  refine aA.seq (aA.mono (EQ qc jU (ev 40) (s':=⟨eZ 8 [(0,.ls L),(2,.nils)],av [a,b,c]⟩) (.go 0 .fin) (by kernel_rfl)) ?_)
  rintro _ _ ⟨rfl,rfl⟩
  refine aA.seq (aA.seq (aA.mono (xS jU (ev 40) (Ψ:=fun s=>s=⟨eZ 8 [(0,.ls L),(2,.nils),(3,.ps L false),(4,.bool false)],av [a,b,c]⟩) (.go 0 (.nz 3 .abs (.go 0 .fin)))
    (W:=(L=[]→False)∧(⟨eZ 8 [(0,.ls L),(2,.nils),(3,.ps L false),(4,.bool false)],av [a,b,c]⟩:St)=⟨eZ 8 [(0,.ls L),(2,.nils),(3,.ps L false),(4,.bool false)],av [a,b,c]⟩) ⟨hn,rfl⟩ (by kernel_rfl)) ?_))
  rintro _ _ ⟨rfl,rfl⟩
  refine aA.cond (t:=false) (by kernel_rfl) (fun h=>by grind) fun _=>aA.skip ?_
  refine aA.seq (aA.region ?_)
  show cb _ _ _ _ [_,_,_,_] _ _
  refine cb.one (s':=⟨eZ 8 [(0,.ls L),(2,.nils),(3,.ps L false),(4,.bool false),(5,.ps [] true)],av [a,b,c]⟩) (ev 40) (by kernel_rfl) ?_
  refine cb.one (s':=⟨eZ 8 [(0,.ls L),(2,.nils),(3,.ps L false),(4,.bool false),(5,.ps [] true),(6,.ls L)],av [a,b,c]⟩) (ev 40) (by kernel_rfl) ?_
  refine rD (I:=fun _=>True) (r:=fun k:Nat=>.slice 3 0 0 L.length (some (L.length+k))) (H:=fun k=>av [a,b,c,.row 8 false 0 (L++List.replicate k (aK bd))]) (by kernel_rfl)
    (fun pl M a w g1 g2 g3=>uR (z:=aK bd) (z0:=zU) (xs:=L) (t:=36) (tx:=36) (e:=38) (i:=J8) Iw Fq (by kernel_rfl) ⟨38,by kernel_rfl⟩ O0 (by kernel_rfl) XL (by kernel_rfl) (by kernel_rfl) hn hf (by kernel_rfl) hsm (by omega) pl M a w g1 g2 g3) fun k _=>?_
  refine⟨eZ 8 [(0,.ls L),(2,.nils),(3,.ps L false),(4,.bool false),(5,.ps [] true),(6,.ls L),(7,.slice 3 0 0 L.length (some (L.length+k)))],by kernel_rfl,?_⟩
  refine cb.one (s':=⟨eZ 8 [(0,.ls L),(2,.slice 3 0 0 L.length (some (L.length+k))),(3,.ps L false),(4,.bool false),(5,.ps [] true),(6,.ls L),(7,.slice 3 0 0 L.length (some (L.length+k)))],av [a,b,c,.row 8 false 0 (L++List.replicate k (aK bd))]⟩) (ev 40) (by kernel_rfl) (cb.nil (aA.ret ⟨fun id h=>(by grind),.slice 3 0 0 L.length (some (L.length+k)),by kernel_rfl,k,trivial,by kernel_rfl,by kernel_rfl⟩))
/-- The unit that a closure changes: its kids are 'K'. -/
noncomputable abbrev dE(u:TUnit)(K:AV):AObj:=.row 8 false 0 [.agg [iV u.act,iV u.item,iV u.n,iV u.kind,.str u.label,.ls (u.head.map aQ),.ls (u.words.map aQ),K]]
theorem XO(u:TUnit)(n c i:Nat)(R R':List AV)(hT:aq R=0)(hT2:aq R'=0)(hi:i<n)(hs:n≤2^20)(hD:kD 228 [.slice 1 0 0 n (some c),nV i,nV (i+1)] (av [dE u (.slice 1 0 0 n (some c)),dF R]) (.slice 1 0 0 (n-1) (some c)) (av [dE u (.slice 1 0 0 n (some c)),dF R'])):
    kD 227 [.ptr 0 0 0 0,.pptr [nV i] 0 0] (av [dE u (.slice 1 0 0 n (some c)),dF R]) (.tuple []) (av [dE u (.slice 1 0 0 (n-1) (some c)),dF R']):=by
  exact ej Tryz.func227 fun a=>Mg 6<|Ma (jC i)<|M3 (.efx false (aN 1 0 0 (n-1)<|some c)<|av [aZ 8 false 0 [ab [iV u.act,iV u.item,iV u.n,iV u.kind,ax u.label,aW<|u.head.map aQ,aW<|u.words.map aQ,aN 1 0 0 n<|some c]],aZ 8 false 0 R']) (cn (tR 8 false 0 2 (oA:aq (R)=0)) rt ti) ti hD<|Kf 2 a
theorem WG(u x:TUnit)(n c i:Nat)(R R':List AV)(hT:aq R=0)(hT2:aq R'=0)(hD:kD 163 [.slice 1 0 0 n (some c),nV i,.ps [eU x] true] (av [dE u (.slice 1 0 0 n (some c)),dF R]) (.slice 1 0 0 (n+1) (some c)) (av [dE u (.slice 1 0 0 n (some c)),dF R'])):
    kD 162 [.ptr 0 0 0 0,.pptr [nV i] 0 0,.pptr [eU x] 0 0] (av [dE u (.slice 1 0 0 n (some c)),dF R]) (.tuple []) (av [dE u (.slice 1 0 0 (n+1) (some c)),dF R']):=by
  exact ej Tryz.func162 fun a=>Mg 7<|M3 (.efx false (aN 1 0 0 (n+1)<|some c)<|av [aZ 8 false 0 [ab [iV u.act,iV u.item,iV u.n,iV u.kind,ax u.label,aW<|u.head.map aQ,aW<|u.words.map aQ,aN 1 0 0 n<|some c]],aZ 8 false 0 R']) (cn (tR 8 false 0 2 (oA:aq (R)=0)) rt ti) ti hD<|Kf 2 a
theorem WF(u x:TUnit)(n c i:Nat)(R Y:List AV)(hT:aq R=0)(hD:kD 163 [.slice 1 0 0 n (some c),nV i,.ps [eU x] true] (av [dE u (.slice 1 0 0 n (some c)),dF R]) (.ls Y) (av [dE u (.slice 1 0 0 n (some c)),dF R])):
    kD 162 [.ptr 0 0 0 0,.pptr [nV i] 0 0,.pptr [eU x] 0 0] (av [dE u (.slice 1 0 0 n (some c)),dF R]) (.tuple []) (av [dE u (.ls Y),dF R]):=by
  let q:=[ab [iV u.act,iV u.item,iV u.n,iV u.kind,ax u.label,aW (u.head.map aQ),aW (u.words.map aQ),aN 1 0 0 n (some c)]];exact ej Tryz.func162 fun a=>Mg 7<|M3 (.efx true (aW Y)<|av [aZ 8 false 0 q,aZ 8 false 0 R]) (cn (tR 8 false 0 2 (oA:aq (R)=0)) rt ti) (cn (aU<|some<|aZ 8 false 0 R) (aU<|some<|aZ 8 false 0 q) ti) hD<|Kf 2 a
theorem WE(u x:TUnit)(Y:List AV)(hD:kP 163 [.nils,iV 0,.ps [eU x] true] (.ls Y)):
    kD 162 [.ptr 0 0 0 0,.pptr [iV 0] 0 0,.pptr [eU x] 0 0] (av [dE u .nils]) (.tuple []) (av [dE u (.ls Y)]):=by
  exact ej Tryz.func162 fun a=>Kp 7 hD<|Kf 2 a
theorem WD(u x:TUnit)(Y:List AV)(hD:kP 163 [(.ps [] true),iV 0,.ps [eU x] true] (.ls Y)):
    kD 162 [.ptr 0 0 0 0,.pptr [iV 0] 0 0,.pptr [eU x] 0 0] (av [dE u (.ps [] true)]) (.tuple []) (av [dE u (.ls Y)]):=by
  exact ej Tryz.func162 fun a=>Kp 7 hD<|Kf 2 a
theorem We(u x:TUnit)(n c i:Nat)(R R':List AV)(hT:aq R=0)(hT2:aq R'=0)(hD:kD 163 [.slice 1 0 0 n (some c),nV i,.ps [eU x] true] (av [dE u (.slice 1 0 0 n (some c)),dF R]) (.slice 1 0 0 (n+1) (some c)) (av [dE u (.slice 1 0 0 n (some c)),dF R'])):
    kD 173 [.ptr 0 0 0 0,.pptr [nV i] 0 0,.pptr [eU x] 0 0] (av [dE u (.slice 1 0 0 n (some c)),dF R]) (.tuple []) (av [dE u (.slice 1 0 0 (n+1) (some c)),dF R']):=by
  exact ej Tryz.func173 fun a=>Mg 7<|M3 (.efx false (aN 1 0 0 (n+1)<|some c)<|av [aZ 8 false 0 [ab [iV u.act,iV u.item,iV u.n,iV u.kind,ax u.label,aW<|u.head.map aQ,aW<|u.words.map aQ,aN 1 0 0 n<|some c]],aZ 8 false 0 R']) (cn (tR 8 false 0 2 (oA:aq (R)=0)) rt ti) ti hD<|Kf 2 a
theorem Wd(u x:TUnit)(n c i:Nat)(R Y:List AV)(hT:aq R=0)(hD:kD 163 [.slice 1 0 0 n (some c),nV i,.ps [eU x] true] (av [dE u (.slice 1 0 0 n (some c)),dF R]) (.ls Y) (av [dE u (.slice 1 0 0 n (some c)),dF R])):
    kD 173 [.ptr 0 0 0 0,.pptr [nV i] 0 0,.pptr [eU x] 0 0] (av [dE u (.slice 1 0 0 n (some c)),dF R]) (.tuple []) (av [dE u (.ls Y),dF R]):=by
  let q:=[ab [iV u.act,iV u.item,iV u.n,iV u.kind,ax u.label,aW (u.head.map aQ),aW (u.words.map aQ),aN 1 0 0 n (some c)]];exact ej Tryz.func173 fun a=>Mg 7<|M3 (.efx true (aW Y)<|av [aZ 8 false 0 q,aZ 8 false 0 R]) (cn (tR 8 false 0 2 (oA:aq (R)=0)) rt ti) (cn (aU<|some<|aZ 8 false 0 R) (aU<|some<|aZ 8 false 0 q) ti) hD<|Kf 2 a
theorem Wc(u x:TUnit)(Y:List AV)(hD:kP 163 [.nils,iV 0,.ps [eU x] true] (.ls Y)):
    kD 173 [.ptr 0 0 0 0,.pptr [iV 0] 0 0,.pptr [eU x] 0 0] (av [dE u .nils]) (.tuple []) (av [dE u (.ls Y)]):=by
  exact ej Tryz.func173 fun a=>Kp 7 hD<|Kf 2 a
theorem Wb(u x:TUnit)(Y:List AV)(hD:kP 163 [(.ps [] true),iV 0,.ps [eU x] true] (.ls Y)):
    kD 173 [.ptr 0 0 0 0,.pptr [iV 0] 0 0,.pptr [eU x] 0 0] (av [dE u (.ps [] true)]) (.tuple []) (av [dE u (.ls Y)]):=by
  exact ej Tryz.func173 fun a=>Kp 7 hD<|Kf 2 a
theorem XM(u:TUnit)(l:List PWord):kD 166 [.ptr 0 0 0 0,.pptr [.ls (l.map aQ)] 0 0] (av [dE u (.ls (u.kids.map aK))]) (.tuple []) (av [dE (mQ l u) (.ls (u.kids.map aK))]):=by
  exact ej Tryz.func166 fun a=>Kf 4 a
theorem X8(u:TUnit)(l:List PWord):kD 168 [.ptr 0 0 0 0,.pptr [.ls (l.map aQ)] 0 0] (av [dE u (.ls (u.kids.map aK))]) (.tuple []) (av [dE (mQ l u) (.ls (u.kids.map aK))]):=by
  exact ej Tryz.func168 fun a=>Kf 4 a
theorem Yl(u:TUnit)(l:List PWord):kD 170 [.ptr 0 0 0 0,.pptr [.ls (l.map aQ)] 0 0] (av [dE u (.ls (u.kids.map aK))]) (.tuple []) (av [dE (AW l u) (.ls (u.kids.map aK))]):=by
  exact ej Tryz.func170 fun a=>Kf 4 a
theorem X6(u:TUnit)(d:PDeed):kD 172 [.ptr 0 0 0 0,.pptr [aY d] 0 0] (av [dE u (.ls (u.kids.map aK))]) (.tuple []) (av [dE (pZ d.it.label u) (.ls (u.kids.map aK))]):=by
  exact ej Tryz.func172 fun a=>Kf 6 a
noncomputable abbrev vg(p:PId):AObj:=.row 3 false 0 [aV p]
noncomputable abbrev zO:AObj:=.row 8 false 0 [zU]
theorem Ho:kP 224 [.nils] .nils:=by
  exact wk Tryz.func224 (.go 4 .fin)<|bc ah
theorem Hn:kP 224 [.ps [] false] (.ps [] true):=by
  exact wk Tryz.func224 (.go 7 .fin)<|bc<|jj [] true
theorem RE(w:TUnit)(r:List TUnit)(hl:r.length<2^20):kP 224 [.ls ((w::r).map aK)] (.ls ((w::r).map aK)):=by
  let q:=List.map aK (w::r);exact bD Tryz.func224<|Mg 1<|Mz 3 (fun(a:((w::r).map aK:List AV)=[])=>Mw .abs<|pf _ _ a)<|Mg 3<|M2 .apl (et (sA:List.map aK (w::r)≠[])<|gg (sz:=8) (f:=aK) (fun _=>by(rw[aR];rfl))<|w::r) (by(refine aO (m:=2^21) ?_ ?_ ?_<;>first|omega|grind):small ((w::r).map aK).length 120=true)<|Mg 0<|M2 (.fsl 0 [] 2 q) ti (cn (aU 0) (tA aK (w::r) q.length (sA:(w::r).length=((w::r).map aK).length))<|aX iW<|w::r)<|Ml 2 (fg q false<|aX iW<|w::r)<|Mf<|bc<|aW q
theorem C7(l:List TUnit)(hl:l.length≤2^20):kP 224 [.ls (l.map aK)] (.ls (l.map aK)):=by
  cases l with
  |nil=>exact bW.ls0 (Ho.less Le.nils) (Hn.lessB (u:=.ls []) (by kernel_rfl))
  |cons w r=>grind[RE]
/-- The unit is found; its kids stay what they are. -/
theorem yV(g:Nat)(bs:List AV)(p:PId)(u u2:TUnit)(hA:aq [eU u,aV p,.func (.func g) [] bs]=0)(hp:(al u.act p.a&&(al u.item p.i&&al u.n p.n))=true)(hl:u.kids.length≤2^20)(hd:kD g (.ptr 0 0 0 0::bs) (av [dE u (.ls (u.kids.map aK)),vg p,zO]) (.tuple []) (av [dE u2 (.ls (u2.kids.map aK)),vg p,zO])):kP 161 [eU u,aV p,.func (.func g) [] bs] (eU u2):=by
  have hc:=C7 u.kids hl
  let q:=[iV p.a,iV p.i,iV p.n];exact bD (ht:=oA) Tryz.func161<|Kv 5 (lj ((Tryz.prog).underlying 34) u.act u.item u.n p.a p.i p.n<|av [aZ 8 false 0 [ab [iV u.act,iV u.item,iV u.n,iV u.kind,ax u.label,aW<|u.head.map aQ,aW<|u.words.map aQ,aW<|u.kids.map aK]],aZ 3 false 0 [ab q],aZ 8 false 0 [ab [iV 0,iV 0,iV 0,iV 0,ax [],ah,ah,ah]]])<|Mt hp<|Kp 1 hc<|Ke 2 hd<|Kf 1<|bc<|ab [iV u2.act,iV u2.item,iV u2.n,iV u2.kind,ax u2.label,aW<|u2.head.map aQ,aW<|u2.words.map aQ,aW<|u2.kids.map aK]
/-- The unit is found; it has kids; in its own row something is done. -/
theorem Uz(g:Nat)(bs:List AV)(p:PId)(u u2:TUnit)(n2:Nat)(Z:Nat→List AV)(hA:aq [eU u,aV p,.func (.func g) [] bs]=0)(hp:(al u.act p.a&&(al u.item p.i&&al u.n p.n))=true)(hl:u.kids.length≤2^20)(hne:u.kids≠[])(hn2:u2.kids.length=n2)(hd:∀k,kD g (.ptr 0 0 0 0::bs) (av [dE u (.slice 3 0 0 u.kids.length (some (u.kids.length+k))),vg p,zO,dF ((u.kids++List.replicate k bd).map aK)]) (.tuple []) (av [dE u2 (.slice 3 0 0 n2 (some (u.kids.length+k))),vg p,zO,dF (u2.kids.map aK++Z k)])):kP 161 [eU u,aV p,.func (.func g) [] bs] (eU u2):=by
  let q:=[ab [iV u.act,iV u.item,iV u.n,iV u.kind,ax u.label,aW (u.head.map aQ),aW (u.words.map aQ),aW (u.kids.map aK)]];let q1:=[iV p.a,iV p.i,iV p.n];let q2:=[ab [iV 0,iV 0,iV 0,iV 0,ax [],ah,ah,ah]];let q3:=List.map aK u2.kids;exact bD (ht:=oA) Tryz.func161<|Kv 5 (lj ((Tryz.prog).underlying 34) u.act u.item u.n p.a p.i p.n<|av [aZ 8 false 0 q,aZ 3 false 0 [ab q1],aZ 8 false 0 q2])<|Mt hp<|Mg 1<|Mq (Eh u.kids hne hl (aZ 8 false 0 q) (aZ 3 false 0 [ab q1])<|aZ 8 false 0 q2) fun a _=>Ke 2 (hd a)<|M2 (.fza 0 7 3 [3,6] q3) (jJ rt rt rt ti) (cn (aU 0) (Vb (xs:=List.map aK u2.kids) (ys:=Z a) (n:=n2) sA)<|aX iW u2.kids)<|Kf 1<|bc<|ab [iV u2.act,iV u2.item,iV u2.n,iV u2.kind,ax u2.label,aW<|u2.head.map aQ,aW<|u2.words.map aQ,aW q3]
theorem Uy{l m:List TUnit}{i:Nat}(h:i<l.length):gD (l++m) i=gD l i:=by
  grind[gD]
theorem tc{l m:List TUnit}{i n:Nat}{x:TUnit}(h:l.length=n)(hi:i<n):((l++m).set i x).take n=l.set i x:=by
  simp_all
theorem Sb{l m:List TUnit}{n:Nat}(h:l.length=n):(l++m).take n=l:=by simp_all
theorem Ls{l:List TUnit}{i:Nat}(h:i<l.length):l.drop i=gD l i::l.drop (i+1):=by
  grind[List.drop_eq_getElem_cons,gD]
theorem XS{p:PId}{f:TUnit→TUnit}{l:List TUnit}{i:Nat}(h:jK p f l i (l.drop i))(hi:l.length≤i):eu p f l=l:=by
  grind[List.drop_eq_nil_of_le,jK.done]
theorem XP{p:PId}{f:TUnit→TUnit}{l:List TUnit}{i:Nat}(h:jK p f l i (l.drop i))(hi:i<l.length)(hw:cq p (gD l i)=false):jK p f l (i+1) (l.drop (i+1)):=by
  grind[Ls,jK.skip]
theorem XR{p:PId}{f:TUnit→TUnit}{l:List TUnit}{i:Nat}(h:jK p f l i (l.drop i))(hi:i<l.length)(hw:cq p (gD l i)=true):eu p f l=l.set i (dW p f (gD l i)):=by
  grind[Ls,jK.hit]
/-- The unit is another one without kids. -/
theorem Yy(g:Nat)(bs:List AV)(p:PId)(u:TUnit)(hA:aq [eU u,aV p,.func (.func g) [] bs]=0)(hA2:(AV.func (.func g) [] bs).top=0)(hp:(al u.act p.a&&(al u.item p.i&&al u.n p.n))=false)(h0:u.kids.length=0)(hl0:ao 0 (Int.ofNat u.kids.length)=false):kP 161 [eU u,aV p,.func (.func g) [] bs] (eU u):=by
  have hc:=C7 u.kids (by omega)
  let q:=[aZ 8 false 0 [ab [iV u.act,iV u.item,iV u.n,iV u.kind,ax u.label,aW (u.head.map aQ),aW (u.words.map aQ),aW (u.kids.map aK)]],aZ 3 false 0 [ab [iV p.a,iV p.i,iV p.n]],aZ 8 false 0 [ab [iV 0,iV 0,iV 0,iV 0,ax [],ah,ah,ah]]];let q1:=[bj (bx g) [] bs,bU 0 0 0 0,bU 1 0 0 0,bU 2 0 0 0,aW (u.kids.map aK),aW (u.kids.map aK),nV u.kids.length,iV 0];exact bD (ht:=oA) Tryz.func161<|Kv 5 (lj ((Tryz.prog).underlying 34) u.act u.item u.n p.a p.i p.n<|av q)<|Mh hp<|Kp 1 hc<|Kl 2 27 (ln aK u.kids)<|Mg 0<|Zv [2,3,4,6,7,26,27,28] (q1,q) True 0 ti fun _ _=>Kh 0 hl0<|Kf 4<|bc<|ab [iV u.act,iV u.item,iV u.n,iV u.kind,ax u.label,aW<|u.head.map aQ,aW<|u.words.map aQ,aW<|u.kids.map aK]
/-- The unit is another: what is done below. -/
theorem Yv(g:Nat)(bs:List AV)(p:PId)(f:TUnit→TUnit)(u:TUnit)(hA:aq [eU u,aV p,.func (.func g) [] bs]=0)(hA2:(AV.func (.func g) [] bs).top=0)(hp:(al u.act p.a&&(al u.item p.i&&al u.n p.n))=false)(hne:u.kids≠[])(hn:u.kids.length≤2^20)
    (hf:∀k,k∈u.kids→kP 62 [eU k,aV p] (.tuple [eU (ei p k),.bool (cq p k)]))
    (ih:∀k,k∈u.kids→kP 161 [eU k,aV p,.func (.func g) [] bs] (eU (dW p f k))):kP 161 [eU u,aV p,.func (.func g) [] bs] (eU (js u (eu p f u.kids))):=by
  have rr0:∀b',(h:(List.map aK (js u (eu p f u.kids)).kids)=b':=by first|rfl|(rw[XR hx0.2 (by(first|omega|(simp only[oN]at *;omega))) (by rw[←q0 (by(first|omega|(simp only[oN]at *;omega)))];assumption),q0 (by(first|omega|(simp only[oN]at *;omega)))];exact congrArg _ (tc rfl (by(first|omega|(simp only[oN]at *;omega)))).symm)|(rw[XS hx0.2 (by(first|omega|(simp only[oN]at *;omega)))];exact congrArg _ (Sb rfl).symm))→(List.map aK (js u (eu p f u.kids)).kids)=b':=(fun _ h=>h);exact bD (ht:=oA) Tryz.func161<|Kv 5 (lj ((Tryz.prog).underlying 34) u.act u.item u.n p.a p.i p.n<|av [aZ 8 false 0 [ab [iV u.act,iV u.item,iV u.n,iV u.kind,ax u.label,aW<|u.head.map aQ,aW<|u.words.map aQ,aW<|u.kids.map aK]],aZ 3 false 0 [ab [iV p.a,iV p.i,iV p.n]],aZ 8 false 0 [ab [iV 0,iV 0,iV 0,iV 0,ax [],ah,ah,ah]]])<|Mh hp<|Mg 1<|Mq (Eh u.kids hne hn (aZ 8 false 0 [ab [iV u.act,iV u.item,iV u.n,iV u.kind,ax u.label,aW<|u.head.map aQ,aW<|u.words.map aQ,aW<|u.kids.map aK]]) (aZ 3 false 0 [ab [iV p.a,iV p.i,iV p.n]])<|aZ 8 false 0 [ab [iV 0,iV 0,iV 0,iV 0,ax [],ah,ah,ah]]) fun a _=>Mg 3<|MO1 (0:Nat) [2,3,4,6,7,26,27,28] (fun b=>([bj (bx g) [] bs,bU 0 0 0 0,bU 1 0 0 0,bU 2 0 0 0,aN 3 0 0 u.kids.length<|some<|u.kids.length+a,aN 3 0 0 u.kids.length<|some<|u.kids.length+a,nV u.kids.length,nV b],[aZ 8 false 0 [ab [iV u.act,iV u.item,iV u.n,iV u.kind,ax u.label,aW<|u.head.map aQ,aW<|u.words.map aQ,aW<|u.kids.map aK]],aZ 3 false 0 [ab [iV p.a,iV p.i,iV p.n]],aZ 8 false 0 [ab [iV 0,iV 0,iV 0,iV 0,ax [],ah,ah,ah]],aZ 8 false 0<|(u.kids++List.replicate a bd).map aK])) (fun a=>a≤u.kids.length∧jK p f u.kids a (u.kids.drop a)) (fun a=>u.kids.length-a) (by simp_all[jK.start]) fun b hx0 c=>have hx0:b≤u.kids.length∧jK p f u.kids b (u.kids.drop b):=hx0;have q0:b<u.kids.length→gD (u.kids++List.replicate a bd) b=gD u.kids b:=fun h=>Uy h;Ka 0 (Int.ofNat b) (Int.ofNat u.kids.length) (fun _ _=>K1 0 .rix (et (aU 0) (sA:b<u.kids.length))<|Mr (et (aU 0)<|rU aK (g:=Go.Ev.eU) aR (gR:b<(u.kids++List.replicate a bd).length))<|Kp 4 (hf (gD (u.kids++List.replicate a bd) b)<|by grind[gV])<|Kb 6 (cq p<|gD (u.kids++List.replicate a bd) b) (fun _=>Kp 4 (ih (gD (u.kids++List.replicate a bd) b)<|by grind[gV])<|M1 .rix (et (aU 0) (sA:b<u.kids.length))<|M1 (.rst (ab [iV (gD (u.kids++List.replicate a bd) b).act,iV (gD (u.kids++List.replicate a bd) b).item,iV (gD (u.kids++List.replicate a bd) b).n,iV (gD (u.kids++List.replicate a bd) b).kind,ax (gD (u.kids++List.replicate a bd) b).label,aW<|List.map aQ (gD (u.kids++List.replicate a bd) b).head,aW<|List.map aQ (gD (u.kids++List.replicate a bd) b).words,aW<|List.map aK (gD (u.kids++List.replicate a bd) b).kids])<|((u.kids++List.replicate a bd).set b<|dW p f<|gD (u.kids++List.replicate a bd) b).map aK) (cn (aU 0) (rU aK (g:=Go.Ev.eU) aR (gR:b<(u.kids++List.replicate a bd).length))<|Dg (f:=aK) (g:=Go.Ev.eU) aR (l:=u.kids++List.replicate a bd) (i:=b) (w:=dW p f<|gD (u.kids++List.replicate a bd) b))<|Mg 0<|M2 (.fsl 3 [3,6] 48<|(((u.kids++List.replicate a bd).set b<|dW p f<|gD (u.kids++List.replicate a bd) b).take u.kids.length).map aK) (jJ rt rt rt ti) (cn (aU 0) (yD (f:=aK) (l:=(u.kids++List.replicate a bd).set b<|dW p f<|gD (u.kids++List.replicate a bd) b) (n:=u.kids.length))<|aX iW<|((u.kids++List.replicate a bd).set b<|dW p f<|gD (u.kids++List.replicate a bd) b).take u.kids.length)<|Ml 48 (fg ((((u.kids++List.replicate a bd).set b<|dW p f<|gD (u.kids++List.replicate a bd) b).take u.kids.length).map aK) (oQ (some<|u.kids.length+a)<|some u.kids.length)<|aX iW<|((u.kids++List.replicate a bd).set b<|dW p f<|gD (u.kids++List.replicate a bd) b).take u.kids.length)<|Kf 3 (bQ (.cons (bc _)<|.cons (bc _)<|.cons (bc _)<|.cons (bc _)<|.cons (bc _)<|.cons (bc _)<|.cons (bc _)<|.cons (cK<|rr0<|(((u.kids++List.replicate a bd).set b<|dW p f<|gD (u.kids++List.replicate a bd) b).take u.kids.length).map aK) .nil)<|by kernel_rfl:Le _ (AV.agg [iV u.act,iV u.item,iV u.n,iV u.kind,AV.str u.label,AV.ls (u.head.map aQ),AV.ls (u.words.map aQ),AV.ls ((((u.kids++List.replicate a bd).set b (dW p f (gD (u.kids++List.replicate a bd) b))).take u.kids.length).map aK)]))) fun _=>Kl 0 47 (jC b)<|Mg 0<|M2 (.frl 4 [3,4,6,7,26,27,28] [2]) (xV (O6 (sz:=8) (op:=false) (ep:=0) (n:=4)<|aX iW<|u.kids++List.replicate a bd) rt rt rt ti) (et (oA:(AV.func (Fn.func g) [] bs).top≤4) ti)<|Mf<|c (b+1) (by grind[XP]) gR) fun _ _=>Mg 0<|M2 (.fsl 3 [3,6] 48<|((u.kids++List.replicate a bd).take u.kids.length).map aK) (jJ rt rt rt ti) (cn (aU 0) (yD (f:=aK) (l:=u.kids++List.replicate a bd) (n:=u.kids.length))<|aX iW<|(u.kids++List.replicate a bd).take u.kids.length)<|Ml 48 (fg (((u.kids++List.replicate a bd).take u.kids.length).map aK) (oQ (some<|u.kids.length+a)<|some u.kids.length)<|aX iW<|(u.kids++List.replicate a bd).take u.kids.length)<|Kf 3 (bQ (.cons (bc _)<|.cons (bc _)<|.cons (bc _)<|.cons (bc _)<|.cons (bc _)<|.cons (bc _)<|.cons (bc _)<|.cons (cK<|rr0<|((u.kids++List.replicate a bd).take u.kids.length).map aK) .nil)<|by kernel_rfl:Le _ (AV.agg [iV u.act,iV u.item,iV u.n,iV u.kind,AV.str u.label,AV.ls (u.head.map aQ),AV.ls (u.words.map aQ),AV.ls (((u.kids++List.replicate a bd).take u.kids.length).map aK)]))
theorem iK{g:Nat}{bs:List AV}{p:PId}(hb:aq bs=0)(x:TUnit):aq [eU x,aV p,.func (.func g) [] bs]=0:=by
  have h1:(eU x).top=0:=by rw[←aR];exact iW x
  have h2:(AV.func (.func g) [] bs).top=0:=by simp only[AV.top,aq,hb];rfl
  exact jT.2 fun y hy=>by
    simp only[ez,List.mem_nil_iff,or_false]at hy
    rcases hy with rfl|rfl|rfl
    · omega
    · exact Jh p
    omega
/-- with: the first unit of the number is changed, wherever it stands. -/
theorem om(g:Nat)(bs:List AV)(p:PId)(f:TUnit→TUnit)(hb:aq bs=0):∀(u:TUnit),nU u≤2^19→(∀x,x∈bp u→x.head.length<2^30∧x.words.length<2^30)→
    (∀v,v∈bp u→fE p v=true→kP 161 [eU v,aV p,.func (.func g) [] bs] (eU (f v)))→kP 161 [eU u,aV p,.func (.func g) [] bs] (eU (dW p f u)):=by
  refine TUnit.ind fun u ih hn ht hit=>?_
  have hA:=iK (g:=g) (bs:=bs) (p:=p) hb
  cases hi:fE p u with
  |true=>grind[qR,dq]
  | false=>
    have hkl:=bf u
    rw[kr hi]
    by_cases h0:u.kids=[]
    · have e:js u (eu p f u.kids)=u:=by rw[h0,sj];cases u;simp only[TUnit.kids]at h0;subst h0;rfl
      rw[e]
      exact Yy g bs p u (hA u) (by simp only[AV.top,aq,hb];rfl) hi (by simp_all) (by rw[h0];rfl)
    · exact Yv g bs p f u (hA u) (by simp only[AV.top,aq,hb];rfl) hi h0 (by omega) (fun k hk=>RX p k (by have:=iy hk;omega) fun x hx=>ht x (bA hk hx))
        fun k hk=>ih k hk (by have:=iy hk;omega) (fun x hx=>ht x (bA hk hx)) fun v hv=>hit v (bA hk hv)
theorem A6{bs:List AV}(rs:List Nat)(h0:fF rs 0=0)(hb:aq bs=0):lG (fF rs) (.ptr 0 0 0 0::bs)=.ptr 0 0 0 0::bs:=by
  grind[lG,Ev.ren,eS]
theorem Am{g:Nat}{bs:List AV}{u u2:TUnit}{n n2 c:Nat}{X X2:List AV}{A B:AObj}(hb:aq bs=0)(hX:aq X=0)(hX2:aq X2=0)(h:kD g (.ptr 0 0 0 0::bs) (av [dE u (.slice 1 0 0 n (some c)),dF X]) (.tuple []) (av [dE u2 (.slice 1 0 0 n2 (some c)),dF X2])):
    kD g (.ptr 0 0 0 0::bs) (av [dE u (.slice 3 0 0 n (some c)),A,B,dF X]) (.tuple []) (av [dE u2 (.slice 3 0 0 n2 (some c)),A,B,dF X2]):=
  pd jU [0,3] h (A6 _ rfl hb) rfl rfl ⟨⟨rfl,vJ (by kernel_rfl)⟩,⟨rfl,by show aq X≤2;omega⟩,trivial⟩ ⟨⟨rfl,vJ (by kernel_rfl)⟩,⟨rfl,by show aq X2≤2;omega⟩,trivial⟩
    (by show Nat.mx _ (aq bs)≤2;rw[hb];exact vJ (by kernel_rfl)) (bH _) ⟨by kernel_rfl,by rw[vc hX];kernel_rfl,trivial⟩ ⟨by kernel_rfl,by kernel_rfl,trivial⟩
    (by show _=AHeap.put (AHeap.put _ _ _) _ (j9 _ (.row 8 false 0 X2));rw[vc hX2];kernel_rfl)
theorem C2{g:Nat}{bs:List AV}{u u2:TUnit}{n c:Nat}{X Y:List AV}{A B:AObj}(hb:aq bs=0)(hX:aq X=0)(h:kD g (.ptr 0 0 0 0::bs) (av [dE u (.slice 1 0 0 n (some c)),dF X]) (.tuple []) (av [dE u2 (.ls Y),dF X])):
    kD g (.ptr 0 0 0 0::bs) (av [dE u (.slice 3 0 0 n (some c)),A,B,dF X]) (.tuple []) (av [dE u2 (.ls Y),A,B,dF X]):=
  pd jU [0,3] h (A6 _ rfl hb) rfl rfl ⟨⟨rfl,vJ (by kernel_rfl)⟩,⟨rfl,by show aq X≤2;omega⟩,trivial⟩ ⟨⟨rfl,vJ (by kernel_rfl)⟩,⟨rfl,by show aq X≤2;omega⟩,trivial⟩
    (by show Nat.mx _ (aq bs)≤2;rw[hb];exact vJ (by kernel_rfl)) (bH _) ⟨by kernel_rfl,by rw[vc hX];kernel_rfl,trivial⟩ ⟨by kernel_rfl,by kernel_rfl,trivial⟩
    (by show _=AHeap.put (AHeap.put _ _ _) _ (j9 _ (.row 8 false 0 X));rw[vc hX];kernel_rfl)
theorem jO{g:Nat}{bs:List AV}{u u2:TUnit}{A B:AObj}{K K2:AV}(hb:aq bs=0)(h1:aq [.agg [iV u.act,iV u.item,iV u.n,iV u.kind,.str u.label,.ls (u.head.map aQ),.ls (u.words.map aQ),K]]=0)(h2:aq [.agg [iV u2.act,iV u2.item,iV u2.n,iV u2.kind,.str u2.label,.ls (u2.head.map aQ),.ls (u2.words.map aQ),K2]]=0)(h:kD g (.ptr 0 0 0 0::bs) (av [dE u K]) (.tuple []) (av [dE u2 K2])):
    kD g (.ptr 0 0 0 0::bs) (av [dE u K,A,B]) (.tuple []) (av [dE u2 K2,A,B]):=
  fj jU 0 h1 h2 h (A6 _ rfl hb) rfl rfl (by simp only[aq,AV.top,hb];rfl) rfl (by kernel_rfl) (by kernel_rfl)
/-- The unit is found; it has kids; a kid more is laid into its row, or into a new one. -/
theorem Ld(g:Nat)(bs:List AV)(p:PId)(u u2:TUnit)(n2:Nat)(Z:Nat→List AV)(hA:aq [eU u,aV p,.func (.func g) [] bs]=0)(hp:(al u.act p.a&&(al u.item p.i&&al u.n p.n))=true)(hl:u.kids.length≤2^20)(hne:u.kids≠[])(hn2:u2.kids.length=n2)
    (hdA:∀k,By (Nat.beq k 0) true→kD g (.ptr 0 0 0 0::bs) (av [dE u (.slice 3 0 0 u.kids.length (some (u.kids.length+k))),vg p,zO,dF ((u.kids++List.replicate k bd).map aK)]) (.tuple []) (av [dE u2 (.ls (u2.kids.map aK)),vg p,zO,dF ((u.kids++List.replicate k bd).map aK)]))
    (hdB:∀k,By (Nat.beq k 0) false→kD g (.ptr 0 0 0 0::bs) (av [dE u (.slice 3 0 0 u.kids.length (some (u.kids.length+k))),vg p,zO,dF ((u.kids++List.replicate k bd).map aK)]) (.tuple []) (av [dE u2 (.slice 3 0 0 n2 (some (u.kids.length+k))),vg p,zO,dF (u2.kids.map aK++Z k)])):kP 161 [eU u,aV p,.func (.func g) [] bs] (eU u2):=by
  let q:=ab [iV u2.act,iV u2.item,iV u2.n,iV u2.kind,ax u2.label,aW (u2.head.map aQ),aW (u2.words.map aQ),aW (u2.kids.map aK)];let q1:=[ab [iV u.act,iV u.item,iV u.n,iV u.kind,ax u.label,aW (u.head.map aQ),aW (u.words.map aQ),aW (u.kids.map aK)]];let q2:=[iV p.a,iV p.i,iV p.n];let q3:=[ab [iV 0,iV 0,iV 0,iV 0,ax [],ah,ah,ah]];exact bD (ht:=oA) Tryz.func161<|Kv 5 (lj ((Tryz.prog).underlying 34) u.act u.item u.n p.a p.i p.n<|av [aZ 8 false 0 q1,aZ 3 false 0 [ab q2],aZ 8 false 0 q3])<|Mt hp<|Mg 1<|Mq (Eh u.kids hne hl (aZ 8 false 0 q1) (aZ 3 false 0 [ab q2])<|aZ 8 false 0 q3) fun a _=>Ks 2 (a.beq 0) (fun b=>Me (hdA a b)<|Kf 1<|bc q) fun b=>Me (hdB a b)<|M2 (.fza 0 7 3 [3,6]<|u2.kids.map aK) (jJ rt rt rt ti) (cn (aU 0) (Vb (xs:=List.map aK u2.kids) (ys:=Z a) (n:=n2) sA)<|aX iW u2.kids)<|Kf 1<|bc q
/-- The unit is found; it has no kids; it gets one. -/
theorem Lf(g:Nat)(bs:List AV)(p:PId)(u u2:TUnit)(hA:aq [eU u,aV p,.func (.func g) [] bs]=0)(hp:(al u.act p.a&&(al u.item p.i&&al u.n p.n))=true)(h0:u.kids=[])
    (hdN:kD g (.ptr 0 0 0 0::bs) (av [dE u .nils,vg p,zO]) (.tuple []) (av [dE u2 (.ls (u2.kids.map aK)),vg p,zO]))
    (hdP:kD g (.ptr 0 0 0 0::bs) (av [dE u (.ps [] true),vg p,zO]) (.tuple []) (av [dE u2 (.ls (u2.kids.map aK)),vg p,zO])):kP 161 [eU u,aV p,.func (.func g) [] bs] (eU u2):=by
  obtain⟨a,i,n,k,l,h,w,ks⟩:=u
  simp only[TUnit.kids]at h0
  subst h0
  let q:=ab [iV u2.act,iV u2.item,iV u2.n,iV u2.kind,ax u2.label,aW (u2.head.map aQ),aW (u2.words.map aQ),aW (u2.kids.map aK)];let q1:=[iV p.a,iV p.i,iV p.n];exact bD (ht:=oA) Tryz.func161<|Kv 5 (lj ((Tryz.prog).underlying 34) (TUnit.mk a i n k l h w []).act (TUnit.mk a i n k l h w []).item (TUnit.mk a i n k l h w []).n p.a p.i p.n<|av [aZ 8 false 0 [ab [iV (TUnit.mk a i n k l h w []).act,iV (TUnit.mk a i n k l h w []).item,iV (TUnit.mk a i n k l h w []).n,iV (TUnit.mk a i n k l h w []).kind,ax l,aW<|List.map aQ (TUnit.mk a i n k l h w []).head,aW<|List.map aQ (TUnit.mk a i n k l h w []).words,aW []]],aZ 3 false 0 [ab q1],aZ 8 false 0 [ab [iV 0,iV 0,iV 0,iV 0,ax [],ah,ah,ah]]])<|Mt hp<|Mg 1<|Mz 17 (fun(_:([]:List AV)=[])=>Mp Ho<|Ke 2 hdN<|Kf 1<|bc q)<|Mp Hn<|Ke 2 hdP<|Kf 1<|bc q
theorem jS{a b:List AV}(h1:aq a=0)(h2:aq b=0):aq (a++b)=0:=jT.2 fun x hx=>by
  rcases jA.1 hx with h|h
  · exact jT.1 h1 x h
  · exact jT.1 h2 x h
theorem RZ(l:List TUnit):dB 8 (l.map aK)=true:=gg (fun u=>by cases u;rfl) l
theorem Uf(x:TUnit):dB 8 [eU x]=true:=by kernel_rfl
theorem N0(x:TUnit):(eU x).top=0:=by rw[←aR];exact iW x
theorem tq{i:Nat}{x:TUnit}{l:List AV}(h:aq l=0):aq (ge i (eU x) l)=0:=jT.2 fun y hy=>by
  unfold ge at hy
  rcases jA.1 hy with h1|h1
  · exact jT.1 h y (tK h1)
  · rcases ez.1 h1 with rfl|h1
    · exact N0 x
    · exact jT.1 h y (Ou h1)
theorem La(i:Nat)(x:TUnit)(l:List TUnit):(wS i x l).map aK=ge i (eU x) (l.map aK):=by
  unfold wS ge
  rw[rH,eF,List.map_take,List.map_drop,aR]
theorem Lu(i:Nat)(l:List TUnit):(l.eraseIdx i).map aK=(l.map aK).eraseIdx i:=by
  grind[List.eraseIdx_eq_take_drop_succ,List.map_take,List.map_drop]
theorem CC{i:Nat}{x:TUnit}{l:List TUnit}(h:i≤l.length):(wS i x l).length=l.length+1:=by
  grind[wS]
theorem Gw(l:List TUnit)(k:Nat):(l++List.replicate k bd).map aK=l.map aK++List.replicate k (aK bd):=by simp_all
theorem mX(k:Nat):aq (List.replicate k (aK bd))=0:=by rw[←List.map_replicate];exact aX iW _
/-- A kid is taken out. -/
theorem OO(p:PId)(i:Nat)(u:TUnit)(hn:nU u≤2^19)(ht:∀x,x∈bp u→x.head.length<2^30∧x.words.length<2^30)(hv:∀v,v∈bp u→fE p v=true→i<v.kids.length):
    bW Tryz.prog G 161 [eU u,aV p,.func (.func 227) [] [.pptr [.int .i64 (.ofNat i)] 0 0]] (eU (dW p (gh i) u)):=by
  refine om _ _ p (gh i) rfl u hn ht fun v hm hid=>?_
  have hi:=hv v hm hid
  have hkl:=bf v
  have hvu:=dM hm
  have hl:v.kids.length≤2^20:=by omega
  refine Uz _ _ p v (gh i v) (v.kids.length-1) (fun k=>zU::List.replicate k (aK bd)) (iK rfl v) hid hl (fun e=>by grind) (by show(v.kids.eraseIdx i).length=_;grind) fun k=>?_
  have h:=Ri (v.kids.map aK) (List.replicate k (aK bd)) v.kids.length i hi (cJ _) hl (RZ _) (jS (aX iW _) (mX k))
  rw[pO]at h
  have hT:aq ((v.kids.map aK).eraseIdx i++(zU::List.replicate k (aK bd)))=0:=jS (by rw[←Lu];exact aX iW _) (by show Nat.mx zU.top (aq _)=0;rw[mX];rfl)
  rw[Gw]
  show aL _ _ _ _ _ fun v1 h1=>v1=.tuple []∧h1=av [dE v (.slice 3 0 0 (v.kids.length-1) (some (v.kids.length+k))),vg p,zO,dF ((v.kids.eraseIdx i).map aK++_)]
  rw[Lu]
  refine Am rfl (jS (aX iW _) (mX k)) hT (XO v v.kids.length _ i _ _ (jS (aX iW _) (mX k)) hT hi hl ?_)
  exact fj jU 1 (jS (aX iW _) (mX k)) hT h rfl rfl (by simp_all) (by kernel_rfl) (by kernel_rfl) (by kernel_rfl) (by kernel_rfl)
theorem Wq(x:TUnit)(t:Bool)(off len c:Nat)(X:List AV):kD 225 [.ps [eU x] t,.slice 0 0 off len (some c)] (av [dF X]) (.bool false) (av [dF X]):=
  Bi (tS:=36) (tR:=4) (e:=38) (n:=8) Tryz.func225 (by kernel_rfl) (by kernel_rfl) (by kernel_rfl) (by kernel_rfl) (by simp_all) (by kernel_rfl) (pf _ _) (by kernel_rfl:(av [dF X]).get 0=some (.row 8 false 0 X))
/-- A kid laid into a row that has room. -/
theorem Gh(L:List AV)(x:TUnit)(z:AV)(Z:List AV)(n k i:Nat)(hi:i≤n)(hn:L.length=n)(hs:n<2^20)(hk:Z.length=k)(hf:dB 8 L=true)(hT:aq (L++z::Z)=0):kD 163 [.slice 0 0 0 n (some (n+(k+1))),nV i,.ps [eU x] true] (av [dF (L++z::Z)]) (.slice 0 0 0 (n+1) (some (n+(k+1)))) (av [dF (ge i (eU x) L++Z)]):=by
  rcases fZ i n with h|h
  · grind[Qn,Uf,Wq]
  · obtain rfl:i=n:=by omega
    exact Qp L Z (eU x) z true i k hn hs hk (Uf x)
theorem Gm(L:List AV)(x:TUnit)(n i:Nat)(hi:i≤n)(hn:L.length=n)(hs:n<2^20)(hf:dB 8 L=true)(hT:aq L=0):kD 163 [.slice 0 0 0 n (some n),nV i,.ps [eU x] true] (av [dF L]) (.ls (ge i (eU x) L)) (av [dF L]):=by
  rcases fZ i n with h|h
  · refine Qm L (eU x) true n i h hn hs (Uf x) hf hT (jT.2 fun y hy=>?_) (tq hT)
    rcases jA.1 hy with h1|h1
    · exact jT.1 hT y (tK h1)
    · rcases ez.1 h1 with rfl|h1
      · exact N0 x
      · rw[(List.mem_replicate.1 h1).2];rfl
  · grind[Qo,Uf,tq]
/-- A kid is laid in. -/
theorem OM(p:PId)(i:Nat)(x u:TUnit)(hn:nU u≤2^19)(ht:∀x,x∈bp u→x.head.length<2^30∧x.words.length<2^30)(hv:∀v,v∈bp u→fE p v=true→i≤v.kids.length):
    bW Tryz.prog G 161 [eU u,aV p,.func (.func 162) [] [.pptr [.int .i64 (.ofNat i)] 0 0,.pptr [eU x] 0 0]] (eU (dW p (du i x) u)):=by
  have hb:aq [.pptr [.int .i64 (.ofNat i)] 0 0,.pptr [eU x] 0 0]=0:=by kernel_rfl
  refine om _ _ p (du i x) hb u hn ht fun v hm hid=>?_
  have hi:=hv v hm hid
  have hkl:=bf v
  have hvu:=dM hm
  have hl:v.kids.length<2^20:=by omega
  have hK:=aX iW v.kids
  by_cases h0:v.kids=[]
  · rw[h0]at hi
    obtain rfl:i=0:=by simp_all
    have e:(du 0 x v).kids =[x]:=by show wS 0 x v.kids=[x];rw[h0];rfl
    have e2:(du 0 x v).kids.map aK=[eU x]:=by rw[e,eF,aR];rfl
    refine Lf _ _ p v (du 0 x v) (iK hb v) hid h0 ?_ ?_
    · rw[e2];exact jO (u2:=du 0 x v) hb (by kernel_rfl) (by kernel_rfl) (WE v x [eU x] (Gl x true))
    · rw[e2];exact jO (u2:=du 0 x v) hb (by kernel_rfl) (by kernel_rfl) (WD v x [eU x] (Gi x true))
  · have e2:(du i x v).kids.map aK=ge i (eU x) (v.kids.map aK):=La i x v.kids
    refine Ld _ _ p v (du i x v) (v.kids.length+1) (fun k=>List.replicate (k-1) (aK bd)) (iK hb v) hid (by omega) h0 (CC hi) (fun k hk=>?_) fun k hk=>?_
    · obtain rfl:k=0:=pM hk
      rw[e2,Gw,List.replicate_zero,ef]
      refine C2 (u2:=du i x v) hb hK (WF v x v.kids.length _ i _ _ hK ?_)
      exact fj jU 1 hK hK (Gm (v.kids.map aK) x v.kids.length i hi (cJ _) hl (RZ _) hK) rfl rfl (by simp_all) (by kernel_rfl) (by kernel_rfl) (by kernel_rfl) (by kernel_rfl)
    · obtain⟨j,rfl⟩:∃j,k=j+1:=⟨k-1,by grind[Nat.ne_of_beq_eq_false]⟩
      rw[e2,Gw,show j+1-1=j from rfl,List.replicate_succ]
      have hT:aq (v.kids.map aK++aK bd::List.replicate j (aK bd))=0:=by rw[←List.replicate_succ];grind[jS,mX]
      have hT2:aq (ge i (eU x) (v.kids.map aK)++List.replicate j (aK bd))=0:=jS (tq hK) (mX _)
      refine Am (u2:=du i x v) hb hT hT2 (WG v x v.kids.length _ i _ _ hT hT2 ?_)
      exact fj jU 1 hT hT2 (Gh (v.kids.map aK) x (aK bd) (List.replicate j (aK bd)) v.kids.length j i hi (cJ _) hl (pO ..) (RZ _) hT) rfl rfl (by simp_all) (by kernel_rfl) (by kernel_rfl) (by kernel_rfl) (by kernel_rfl)
/-- A kid is laid in. -/
theorem OI(p:PId)(i:Nat)(x u:TUnit)(hn:nU u≤2^19)(ht:∀x,x∈bp u→x.head.length<2^30∧x.words.length<2^30)(hv:∀v,v∈bp u→fE p v=true→i≤v.kids.length):
    bW Tryz.prog G 161 [eU u,aV p,.func (.func 173) [] [.pptr [.int .i64 (.ofNat i)] 0 0,.pptr [eU x] 0 0]] (eU (dW p (du i x) u)):=by
  have hb:aq [.pptr [.int .i64 (.ofNat i)] 0 0,.pptr [eU x] 0 0]=0:=by kernel_rfl
  refine om _ _ p (du i x) hb u hn ht fun v hm hid=>?_
  have hi:=hv v hm hid
  have hkl:=bf v
  have hvu:=dM hm
  have hl:v.kids.length<2^20:=by omega
  have hK:=aX iW v.kids
  by_cases h0:v.kids=[]
  · rw[h0]at hi
    obtain rfl:i=0:=by simp_all
    have e:(du 0 x v).kids =[x]:=by show wS 0 x v.kids=[x];rw[h0];rfl
    have e2:(du 0 x v).kids.map aK=[eU x]:=by rw[e,eF,aR];rfl
    refine Lf _ _ p v (du 0 x v) (iK hb v) hid h0 ?_ ?_
    · rw[e2];exact jO (u2:=du 0 x v) hb (by kernel_rfl) (by kernel_rfl) (Wc v x [eU x] (Gl x true))
    · rw[e2];exact jO (u2:=du 0 x v) hb (by kernel_rfl) (by kernel_rfl) (Wb v x [eU x] (Gi x true))
  · have e2:(du i x v).kids.map aK=ge i (eU x) (v.kids.map aK):=La i x v.kids
    refine Ld _ _ p v (du i x v) (v.kids.length+1) (fun k=>List.replicate (k-1) (aK bd)) (iK hb v) hid (by omega) h0 (CC hi) (fun k hk=>?_) fun k hk=>?_
    · obtain rfl:k=0:=pM hk
      rw[e2,Gw,List.replicate_zero,ef]
      refine C2 (u2:=du i x v) hb hK (Wd v x v.kids.length _ i _ _ hK ?_)
      exact fj jU 1 hK hK (Gm (v.kids.map aK) x v.kids.length i hi (cJ _) hl (RZ _) hK) rfl rfl (by simp_all) (by kernel_rfl) (by kernel_rfl) (by kernel_rfl) (by kernel_rfl)
    · obtain⟨j,rfl⟩:∃j,k=j+1:=⟨k-1,by grind[Nat.ne_of_beq_eq_false]⟩
      rw[e2,Gw,show j+1-1=j from rfl,List.replicate_succ]
      have hT:aq (v.kids.map aK++aK bd::List.replicate j (aK bd))=0:=by rw[←List.replicate_succ];grind[jS,mX]
      have hT2:aq (ge i (eU x) (v.kids.map aK)++List.replicate j (aK bd))=0:=jS (tq hK) (mX _)
      refine Am (u2:=du i x v) hb hT hT2 (We v x v.kids.length _ i _ _ hT hT2 ?_)
      exact fj jU 1 hT hT2 (Gh (v.kids.map aK) x (aK bd) (List.replicate j (aK bd)) v.kids.length j i hi (cJ _) hl (pO ..) (RZ _) hT) rfl rfl (by simp_all) (by kernel_rfl) (by kernel_rfl) (by kernel_rfl) (by kernel_rfl)
theorem OE(p:PId)(l:List PWord)(u:TUnit)(hn:nU u≤2^19)(ht:∀x,x∈bp u→x.head.length<2^30∧x.words.length<2^30):
    kP 161 [eU u,aV p,.func (.func 166) [] [.pptr [.ls (l.map aQ)] 0 0]] (eU (dW p (mQ l) u)):=by
  have hb:aq [.pptr [.ls (l.map aQ)] 0 0]=0:=by kernel_rfl
  refine om _ _ p (mQ l) hb u hn ht fun v hm hid=>?_
  have hkl:=bf v
  have hvu:=dM hm
  exact yV _ _ p v ((mQ l) v) (iK hb v) hid (by omega) (jO hb (by kernel_rfl) (by kernel_rfl) (XM v l))
theorem OH(p:PId)(l:List PWord)(u:TUnit)(hn:nU u≤2^19)(ht:∀x,x∈bp u→x.head.length<2^30∧x.words.length<2^30):
    kP 161 [eU u,aV p,.func (.func 168) [] [.pptr [.ls (l.map aQ)] 0 0]] (eU (dW p (mQ l) u)):=by
  have hb:aq [.pptr [.ls (l.map aQ)] 0 0]=0:=by kernel_rfl
  refine om _ _ p (mQ l) hb u hn ht fun v hm hid=>?_
  have hkl:=bf v
  have hvu:=dM hm
  exact yV _ _ p v ((mQ l) v) (iK hb v) hid (by omega) (jO hb (by kernel_rfl) (by kernel_rfl) (X8 v l))
theorem ON(p:PId)(l:List PWord)(u:TUnit)(hn:nU u≤2^19)(ht:∀x,x∈bp u→x.head.length<2^30∧x.words.length<2^30):
    kP 161 [eU u,aV p,.func (.func 170) [] [.pptr [.ls (l.map aQ)] 0 0]] (eU (dW p (AW l) u)):=by
  have hb:aq [.pptr [.ls (l.map aQ)] 0 0]=0:=by kernel_rfl
  refine om _ _ p (AW l) hb u hn ht fun v hm hid=>?_
  have hkl:=bf v
  have hvu:=dM hm
  exact yV _ _ p v ((AW l) v) (iK hb v) hid (by omega) (jO hb (by kernel_rfl) (by kernel_rfl) (Yl v l))
theorem OG(p:PId)(d:PDeed)(u:TUnit)(hn:nU u≤2^19)(ht:∀x,x∈bp u→x.head.length<2^30∧x.words.length<2^30):
    kP 161 [eU u,aV p,.func (.func 172) [] [.pptr [aY d] 0 0]] (eU (dW p (pZ d.it.label) u)):=by
  have hb:aq [.pptr [aY d] 0 0]=0:=by kernel_rfl
  refine om _ _ p (pZ d.it.label) hb u hn ht fun v hm hid=>?_
  have hkl:=bf v
  have hvu:=dM hm
  exact yV _ _ p v ((pZ d.it.label) v) (iK hb v) hid (by omega) (jO hb (by kernel_rfl) (by kernel_rfl) (X6 v d))
end Go.Proofs.YtaepacpodblomaaGreatDoor
