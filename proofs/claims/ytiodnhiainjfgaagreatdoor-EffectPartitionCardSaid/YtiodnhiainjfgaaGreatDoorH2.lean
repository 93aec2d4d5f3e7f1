/- Functions walked: what each of them answers, for Each item of an act that is in force either takes effect or is reported as a failure with the reason that consolidation reports: part 2. Conditions: those that each theorem names. -/
import Derived.Test.YtiodnhiainjfgaaGreatDoorH1
namespace Go.Proofs.YtiodnhiainjfgaaGreatDoor
open Go Go.Ev
theorem Tc(u:TUnit)(hb:ky []=true):kP 58 [eU u,.ls (([]:List PStep).map az)] (.ls ((dL u []).map aV)):=by
  have hv:=uj [] (by simp) (fun s h=>by grind)
  rw[F8 hb]
  have rr0 b' (h:(List.map aV [u])=b':=by(rw[ej,aO];rfl)):=h;let q:=[aw [iV u.act,iV u.item,iV u.n,iV u.kind,aj u.label,aW (u.head.map aQ),aW (u.words.map aQ),aW (u.kids.map aV)]];exact bu Tryz.func58<|Kp 3 hv<|Kf 10 (Le.lsp (rr0 q)<|by rfl:Le _ (AV.ps q true))
def GZ(u:TUnit)(s:PStep)(rs:List PStep)(z1000:List TUnit):Prop:=dL u (s::rs)=gY rs z1000∧dO z1000≤2^22
noncomputable def GQ(u:TUnit)(s:PStep)(rs:List PStep)(z1000:List TUnit):List AV×List AObj:=([AV.ptr 0 0 0 0,AV.ptr 1 0 0 0],[AObj.row 1 false 0 [AV.ls ((s::rs).map az)],AObj.row 1 false 0 [AV.ls (z1000.map aV)]])
theorem P7(u:TUnit)(s:PStep)(rs:List PStep)(hn:nU u≤2^11)(hl:(s::rs).length<2^40)(hs:∀x,x∈s::rs→x.label.length≤2^39):kP 58 [eU u,.ls ((s::rs).map az)] (.ls ((dL u (s::rs)).map aV)):=by
  have hv:=uj (s::rs) hl hs
  have hk:=G9 s
  have hpb:=Fy s u fun x hx=>dE hx
  have hpm:nU u*nU u≤2^11*2^11:=Nat.mul_le_mul hn hn
  have hd:((s::rs).drop 1).length=rs.length:=rfl
  have rr0 b' (h:((dL u (s::rs)).map aV)=b':=by first|rfl|(rw[Ij ‹_›];rfl)|(rw[hj0.1,Hg])):=h;exact bu Tryz.func58<|Kp 3 hv<|Kn 0 (ky<|s::rs) (fun _=>Kf 0 (Le.lsn<|rr0 []:Le _ (aa))) fun _=>Mg 0<|Mj (List TUnit) [3,5] (GQ u s rs) (GZ u s rs) (fun a=>Kl 1 21 (ln az<|s::rs)<|Kp 5 hk<|Kb 0 (ab s.kind 0&&dR s.label []) (fun _=>Kl 1 31 (Le.lsp (t:=true) (Eq.symm<|SG (f:=aV) (g:=Go.Ev.eU) (ws:=[u]) aO) (aU 0:aq ([aw [iV u.act,iV u.item,iV u.n,iV u.kind,aj u.label,aW (u.head.map aQ),aW (u.words.map aQ),aW (u.kids.map aV)]])=0))<|Mg 0<|M0 (.ren [1,2,0] [] [3,5])<|M1 (.frz 2 [3,5]) (cn rt rt ti)<|Mf<|a [u] (by exact⟨F9 (by omega) (by assumption),by grind[bc,lG]⟩:dL u (s::rs)=gY rs [u]∧dO [u]≤2^22)) fun _=>Mg 1<|M0 (.ren [1,2,0] [] [3,5,16,17])<|M1 (.frz 2 [3,5,16,17]) (cn rt rt ti)<|Ms (kO s u).isEmpty (fun b=>Me (Gr s rs u oA b)<|M1 (.obw 1<|aW []) (VV bo rfl rfl)<|Mf<|a [] (by exact⟨by rw[ww (by omega) (by assumption),List.isEmpty_iff.1 b],by grind⟩:dL u (s::rs)=gY rs []∧dO []≤2^22)) fun b=>Mq (Qg s rs u oA b) fun b c=>M2 (.fzo 1 2 [3,5]<|b.2.2.map aV) (cn rt rt ti) (cn (aU b.1) (tA aV b.2.2 b.2.1 (oA:(b.2.2).length=b.2.1))<|aX gN b.2.2)<|Mf<|a b.2.2 (by exact⟨by rw[ww (by omega) (by assumption),c.2],by grind⟩:dL u (s::rs)=gY rs b.2.2∧dO b.2.2≤2^22)) fun a b=>have:dL u (s::rs)=gY rs a∧dO a≤2^22:=b;K1 0 (.slp<|((s::rs).drop 1).map az) (cn (hM 2 az (s::rs) fun _=>rfl) (et (sA:1≤((s::rs).map az).length) (oA:((s::rs).map az).length≤((s::rs).map az).length))<|WS (f:=az) (l:=s::rs) (k:=1))<|Kl 0 34 (ln az<|List.drop 1<|s::rs)<|Mg 0<|M0 (.ren [1,0] [] [5,33,34,35])<|M1 (.frz 1 [5,33,34,35]) (et rt ti)<|KT az (List.drop 1<|s::rs) a [5,33,34,35] (fun a _ b=>([bY 0 0 0 0,aW<|((s::rs).drop 1).map az,nV ((s::rs).drop 1).length,nV a],[aZ 1 false 0 [aW<|b.map aV]])) (fun a b=>dL u (s::rs)=gY a b∧dO b≤2^22) sA (fun _ _ a _ _ _ b hj0=>Kh 0 b<|Kf 1<|cj<|rr0<|a.map aV) fun a _ b _ _ c d e _ f _ g hj0=>have:b.length≤dO b:=xf _;Kt 0 f<|Mx g<|Kl 5 40 (ln aV b)<|Mg 0<|lk Nat Nat (List TUnit) aV b [5,7,8,33,34,35,39,40,41] (fun d _=>([bY 0 0 0 0,bY 1 0 0 0,aa,aW<|((s::rs).drop 1).map az,nV ((s::rs).drop 1).length,nV a,aW<|b.map aV,nV b.length,nV d],[aZ 1 false 0 [aW<|b.map aV],aZ 2 false 0 [aw [iV c.kind,aj c.label]]])) (fun d _ e f g=>([bY 0 0 0 0,bY 1 0 0 0,aG 2 e 0 f none,aW<|((s::rs).drop 1).map az,nV ((s::rs).drop 1).length,nV a,aW<|b.map aV,nV b.length,nV d],[aZ 1 false 0 [aW<|b.map aV],aZ 2 false 0 [aw [iV c.kind,aj c.label]],aZ 8 true e<|g.map aV])) (fun a=>cq c a=cq c b) (fun a _ d e=>d=e.length∧e++cq c a=cq c b∧e.length+dO a<2^30) (by rfl) (fun _ _ _ _ _ b c=>Kh 0 b<|Kl 0 61 bo<|Kl 1 62 (de a)<|K1 0 (.frz 1 [5,33,34,35]) (et rt ti)<|Mf<|e []<|by exact fA hj0 c) (fun d _ e f g i j k l n _ o _=>have p:=(o).trans<|congrArg some<|aO g;have:=cH (J:=fun a _=>cq c a=cq c b) (a:=()) l f;have:nU g+dO i≤dO b:=om e l;have:g.kids.length<nU g:=bd g;have:nU g=1+dO g.kids:=iS g;Kt 0 n<|Mx p<|Kl 5 47 (ln aV g.kids)<|K1 0 (.frz 2 [5,7,8,33,34,35,39,40,41,46,47,48]) (cn rt rt ti)<|lk Nat Nat (List TUnit) aV g.kids [5,7,8,33,34,35,39,40,41,46,47,48] (fun e _=>([bY 0 0 0 0,bY 1 0 0 0,aa,aW<|((s::rs).drop 1).map az,nV ((s::rs).drop 1).length,nV a,aW<|b.map aV,nV b.length,nV d,aW<|g.kids.map aV,nV g.kids.length,nV e],[aZ 1 false 0 [aW<|b.map aV],aZ 2 false 0 [aw [iV c.kind,aj c.label]]])) (fun e _ f i j=>([bY 0 0 0 0,bY 1 0 0 0,aG 2 f 0 i none,aW<|((s::rs).drop 1).map az,nV ((s::rs).drop 1).length,nV a,aW<|b.map aV,nV b.length,nV d,aW<|g.kids.map aV,nV g.kids.length,nV e],[aZ 1 false 0 [aW<|b.map aV],aZ 2 false 0 [aw [iV c.kind,aj c.label]],aZ 8 true f<|j.map aV])) (fun a=>List.filter (bi c) a++cq c i=cq c b) (fun a _ d e=>d=e.length∧e++(List.filter (bi c) a++cq c i)=cq c b∧e.length+(dO a+dO i)<2^30) (by simp_all[gA]) (fun _ _ _ _ _ a _=>Kh 0 a<|Kl 0 60 (de d)<|Kf 0<|j sA) (fun a _ d e f j k l n p _ o _=>have o:=(o).trans<|congrArg some<|aO f;have:=cH (J:=fun a _=>List.filter (bi c) a++cq c i=cq c b) (a:=()) n e;have:nU f+dO j≤dO g.kids:=om d n;Kt 0 p<|Mx o<|Kp 4 (ku f c)<|Mb (bi c f) (fun _=>K1 3 (.obj 3<|aZ 8 true 0<|List.map aV [f]) (congrArg (aZ 8 true 0)<|SG (f:=aV) (g:=Go.Ev.eU) (ws:=[f]) aO)<|Kl 1 59 (de a)<|K1 0 (.ren [0,1,3,2] [3] [5,7,8,33,34,35,39,40,41,46,47,48]) (tS 8 true 0<|aX gN [f])<|M1 (.frz 3 [5,7,8,33,34,35,39,40,41,46,47,48]) (jF (tR 8 true 0 3<|aX gN [f]) rt rt ti)<|Mf<|l 0 1 [f] gR) fun _=>Kl 0 59 (de a)<|K1 0 (.frz 2 [5,7,8,33,34,35,39,40,41,46,47,48]) (cn rt rt ti)<|Mf<|k sA) (fun _ _ a e f _ _ _ g _=>Kh 0 g<|Kl 0 60 (de d)<|Kf 0<|k a e f gR) fun a _ d e f j k l n _ p q r _ o _=>have o:=(o).trans<|congrArg some<|aO l;have k:=cH (J:=fun a d=>d.2.1=d.2.2.length∧d.2.2++(List.filter (bi c) a++cq c i)=cq c b∧d.2.2.length+(dO a+dO i)<2^30) (a:=(d,e,f)) q k;have:nU l+dO n≤dO g.kids:=om j q;Kt 0 r<|Mx o<|Kp 4 (ku l c)<|Mb (bi c l) (fun _=>K1 2 .app (cn (aU d) (sA:e=(f.map aV).length) (by(refine aC (m:=2^31) ?_ ?_ ?_<;>omega):small (e+1) 120=true))<|M1 (.obj 2<|aZ 8 true (d+1)<|(f++[l]).map aV) (congrArg (aZ 8 true<|d+1)<|xh (f:=aV) (g:=Go.Ev.eU) (l:=f) (ws:=[l]) aO)<|Kl 1 59 (de a)<|K1 0 (.frz 3 [5,7,8,33,34,35,39,40,41,46,47,48]) (jF (tR 8 true (d+1) 3<|aX gN<|f++[l]) rt rt ti)<|Mf<|p (d+1) (e+1) (f++[l])<|by exact ZX k (by omega)) fun _=>Kl 0 59 (de a)<|K1 0 (.frz 3 [5,7,8,33,34,35,39,40,41,46,47,48]) (jF (tR 8 true d 3<|aX gN f) rt rt ti)<|Mf<|p d e f<|by exact ZW k (by omega)) (fun _ _ b c f _ _ _ g i=>let j:=List.map aV f;Kh 0 g<|Mg 0<|M2 (.fsl 2 [5,33,34,35] 61 j) (cn rt rt ti) (cn (aU b) (tA aV f c (oA:(f).length=c))<|aX gN f)<|Ml 61 (fw j false<|aX gN f)<|Kl 1 62 (de a)<|K1 0 (.frz 1 [5,33,34,35]) (et rt ti)<|Mf<|e f<|by exact fB hj0 i.2.1) fun d _ e f g i j k l _ n o p _ q _=>have r:=(q).trans<|congrArg some<|aO k;have j:=cH (J:=fun a d=>d.2.1=d.2.2.length∧d.2.2++cq c a=cq c b∧d.2.2.length+dO a<2^30) (a:=(e,f,g)) o j;have:nU k+dO l≤dO b:=om i o;have:k.kids.length<nU k:=bd k;have:nU k=1+dO k.kids:=iS k;Kt 0 p<|Mx r<|Kl 5 47 (ln aV k.kids)<|K1 0 (.frz 3 [5,7,8,33,34,35,39,40,41,46,47,48]) (jF (tR 8 true e 3<|aX gN g) rt rt ti)<|Ux aV k.kids e f g [5,7,8,33,34,35,39,40,41,46,47,48] (fun e _ f g i=>([bY 0 0 0 0,bY 1 0 0 0,aG 2 f 0 g none,aW<|((s::rs).drop 1).map az,nV ((s::rs).drop 1).length,nV a,aW<|b.map aV,nV b.length,nV d,aW<|k.kids.map aV,nV k.kids.length,nV e],[aZ 1 false 0 [aW<|b.map aV],aZ 2 false 0 [aw [iV c.kind,aj c.label]],aZ 8 true f<|i.map aV])) (fun a _ d e=>d=e.length∧e++(List.filter (bi c) a++cq c l)=cq c b∧e.length+(dO a+dO l)<2^30) (by(exact gB j)) (fun _ _ a e f _ _ _ g _=>Kh 0 g<|Kl 0 60 (de d)<|Kf 0<|n a e f gR) fun a _ d e f g i j n o p r _ q _=>have q:=(q).trans<|congrArg some<|aO j;have i:=cH (J:=fun a d=>d.2.1=d.2.2.length∧d.2.2++(List.filter (bi c) a++cq c l)=cq c b∧d.2.2.length+(dO a+dO l)<2^30) (a:=(d,e,f)) p i;have:nU j+dO n≤dO k.kids:=om g p;Kt 0 r<|Mx q<|Kp 4 (ku j c)<|Mb (bi c j) (fun _=>K1 2 .app (cn (aU d) (sA:e=(f.map aV).length) (by(refine aC (m:=2^31) ?_ ?_ ?_<;>omega):small (e+1) 120=true))<|M1 (.obj 2<|aZ 8 true (d+1)<|(f++[j]).map aV) (congrArg (aZ 8 true<|d+1)<|xh (f:=aV) (g:=Go.Ev.eU) (l:=f) (ws:=[j]) aO)<|Kl 1 59 (de a)<|K1 0 (.frz 3 [5,7,8,33,34,35,39,40,41,46,47,48]) (jF (tR 8 true (d+1) 3<|aX gN<|f++[j]) rt rt ti)<|Mf<|o (d+1) (e+1) (f++[j])<|by exact ZX i (by omega)) fun _=>Kl 0 59 (de a)<|K1 0 (.frz 3 [5,7,8,33,34,35,39,40,41,46,47,48]) (jF (tR 8 true d 3<|aX gN f) rt rt ti)<|Mf<|o d e f<|by exact ZW i (by omega)
theorem Tb(u:TUnit)(p:List PStep)(hn:nU u≤2^11)(hl:p.length<2^40)(hs:∀x,x∈p→x.label.length≤2^39):kP 58 [eU u,.ls (p.map az)] (.ls ((dL u p).map aV)):=by
  cases p with
  |nil=>exact Tc u rfl
  |cons s rs=>grind[P7]
theorem MU(u:TUnit)(p:List PStep)(L:List TUnit)(hf:kP 58 [eU u,.ls (p.map az)] (.ls (L.map aV)))(hL:L.length≤2^22):kP 26 [eU u,.ls (p.map az)] (.ls ((L.map bz).map aK)):=by
  have rr0 b' (h:((L.map bz).map aK)=b':=by first|rfl|(rw[←hj0];rfl)|(rw[←hj0.2.2.1];simp)):=h;exact bu Tryz.func26<|Kp 4 hf<|Kl 0 11 (ln aV L)<|K1 0 (.frz 0 [5,10,11,12]) ti<|lk Nat Nat (List PId) aV L [5,10,11,12] (fun a _=>([aa,aW<|L.map aV,nV L.length,nV a],[])) (fun a _ b c d=>([aG 0 b 0 c none,aW<|L.map aV,nV L.length,nV a],[aZ 3 true b<|d.map aK])) (fun a=>a=L) (fun a _ b c=>b=c.length∧(0:Nat)<c.length∧c++List.map bz a=List.map bz L∧c.length+a.length=L.length) (by rfl) (fun _ _ _ _ _ a hj0=>Kh 0 a<|Kf 1 (Le.lsn<|rr0 []:Le _ (aa))) (fun a _ _ b c d _ e f g _ i _=>have i:=(i).trans<|congrArg some<|aO c;have hj0:=cH (J:=fun a _=>a=L) (a:=()) f b;Kt 0 g<|Mx i<|Kl 9 21 (iz a)<|Mg 0<|M0 (.ren [1,0] [] [5,10,11,12])<|M1 (.frz 1 [5,10,11,12]) (et rt ti)<|Mf<|e 0 1 [PId.mk c.act c.item c.n]<|by(refine⟨rfl,by simp,?_,?_⟩<;>(rw[←hj0])<;>(first|rfl|grind))) (fun _ _ a b c _ _ _ d hj0=>Kh 0 d<|Mg 1<|M2 (.fsl 0 [] 4<|c.map aK) ti (cn (aU a) (tA aK c b (oA:(c).length=b))<|aX Io c)<|Ml 4 (fw (c.map aK) false<|aX Io c)<|Mf<|cj<|rr0<|c.map aK) fun a _ b c d _ e f g _ i j k _ l _=>have l:=(l).trans<|congrArg some<|aO f;have hj0:=cH (J:=fun a b=>b.2.1=b.2.2.length∧(0:Nat)<b.2.2.length∧b.2.2++List.map bz a=List.map bz L∧b.2.2.length+a.length=L.length) (a:=(b,c,d)) j e;Kt 0 k<|Mx l<|K1 6 .app (cn (aU b) (sA:c=(d.map aK).length) (by(refine aC (m:=2^25) ?_ ?_ ?_<;>omega):small (c+1) 24=true))<|M1 (.obj 0<|aZ 3 true (b+1)<|(d++[PId.mk f.act f.item f.n]).map aK) (congrArg (aZ 3 true<|b+1)<|dz (f:=aK) (l:=d) (ws:=[PId.mk f.act f.item f.n]))<|Kl 1 21 (iz a)<|K1 0 (.frz 1 [5,10,11,12]) (et (tR 3 true (b+1) 1<|aX Io<|d++[PId.mk f.act f.item f.n]) ti)<|Mf<|i (b+1) (c+1) (d++[PId.mk f.act f.item f.n])<|by(refine⟨by simp_all,by simp,?_,?_⟩<;>first|(rw[←hj0.2.2.1,ej,nD];rfl)|(rw[←hj0.2.2.1];simp;done)|grind)
theorem MJ(u:TUnit)(p:List PStep)(hf:kP 26 [eU u,.ls (p.map az)] (.ls (([]:List PId).map aK))):kP 13 [eU u,.ls (p.map az)] (.tuple [aK bL,iV 7]):=by
  exact bu Tryz.func13<|Kp 4 hf<|Kf 8<|ba<|cV [aw [iV 0,iV 0,iV 0],iV 7]
theorem MY(u x:TUnit)(p:List PStep)(hf:kP 26 [eU u,.ls (p.map az)] (.ls ([bz x].map aK))):kP 13 [eU u,.ls (p.map az)] (.tuple [aK (bz x),iV 0]):=by
  exact bu Tryz.func13<|Kp 4 hf<|Kf 13<|ba<|cV [aw [iV (bz x).a,iV (bz x).i,iV (bz x).n],iV 0]
theorem MK(u:TUnit)(p:List PStep)(a b:PId)(r:List PId)(hf:kP 26 [eU u,.ls (p.map az)] (.ls ((a::b::r).map aK))):kP 13 [eU u,.ls (p.map az)] (.tuple [aK bL,iV 8]):=by
  have q1:ab (Int.ofNat (r.length+1+1)) 0=false:=rfl
  have q2:ab (Int.ofNat (r.length+1+1)) 1=false:=rfl
  exact bu Tryz.func13<|Kp 4 hf<|Kl 2 11 (ln aK<|a::b::r)<|Kf 8<|ba<|cV [aw [iV 0,iV 0,iV 0],iV 8]
/-- The way of an address, whatever it finds. -/
theorem MW(u:TUnit)(p:List PStep)(hf:kP 58 [eU u,.ls (p.map az)] (.ls ((dL u p).map aV)))(hn:nU u≤2^11):kP 13 [eU u,.ls (p.map az)] (.tuple [aK (au u p).1,iV (au u p).2]):=by
  have ha:=MU u p (dL u p) hf (Ix p hn)
  cases e:dL u p with
  |nil=>grind[GY,MJ]
  | cons x r=>
    cases r with
    |nil=>grind[GV,MY]
    |cons y r=>grind[GK,MK]
noncomputable abbrev zU:AV:=.agg [iV 0,iV 0,iV 0,iV 0,.str [],.nils,.nils,.nils]
noncomputable abbrev dn(xs:List AV):AObj:=.row 8 false 0 xs
theorem TB{L Z:List AV}{n i:Nat}(hn:L.length=n)(hi:i<n):((L++Z).drop (i+1)).take (n-(i+1))=L.drop (i+1):=by
  grind
theorem TC{L Z:List AV}{n i:Nat}(hn:L.length=n)(hi:i<n):bp (L++Z) (0+i) (L.drop (i+1))=L.eraseIdx i++(L.drop (n-1)++Z):=by
  unfold bp
  grind
theorem DD{L Z:List AV}{z:AV}{n i:Nat}(hn:L.length=n)(hi:i<n):bp (L.eraseIdx i++(L.drop (n-1)++Z)) (n-1) (List.replicate 1 z)=L.eraseIdx i++(z::Z):=by
  unfold bp
  have h1:(L.eraseIdx i).length=n-1:=by grind
  have h2:(L.drop (n-1)).length=1:=by grind
  grind
theorem Xh{a b:Nat}(h:a≠b):ab (Int.ofNat a) (Int.ofNat b)=false:=by
  grind[o5]
theorem Qr(L Z:List AV)(n k i:Nat)(hi:i+1<n)(hn:L.length=n)(hs:n≤2^20)(hf:dh 8 L=true)(hZ:Z.length=k)(hT:aq (L++Z)=0):kD 247 [.slice 0 0 0 n (some (n+k)),nV i,nV (i+1)] (ay [dn (L++Z)]) (.slice 0 0 0 (n-1) (some (n+k))) (ay [dn (L.eraseIdx i++(zU::Z))]):=by
  have hq:ab (Int.ofNat i) (Int.ofNat (i+1))=false:=Xh (by omega)
  let q:=AHeap.mk 1000000 (bm (ay [aZ 8 false 0 (L++Z)]) ([0]) Tr.nil);let q1:=ay [aZ 8 false 0 (L.eraseIdx i++(L.drop (n-1)++Z))];let q2:=ay [aZ 8 false 0 (L++Z)];let q3:=(some (aG 0 0 0 n (some (n+k))));let q4:=aG 0 0 (i+1) (n-(i+1)) (some (n+k-(i+1)));let q5:=(some (nV (i+1)));let q6:=(some (nV i));let q7:=(some (nV n));let q8:=AHeap.mk 1 (bm q2 ([0,0]) Tr.nil);let q9:=aG 0 0 0 (n-1) (some (n+k));let q10:=aG 0 0 (n-1) 1 (some (k+1));let q11:=aG 0 0 0 i (some (n+k));exact fq Tryz.func247 fun a=>Ko 5 (by exact CN (xs:=L++Z) (l:=i) (h:=i+1) (m:=n) (by kernel_rfl) (by rfl) (by rfl) (by rfl) (by omega) (by omega) (by omega) (by omega) (by omega) (by omega) (by omega):bj q2 (c8 (8) q2 q3 q6 q5 q7)=some (ARes.val (AV.slice 0 0 i 1 (some (n-i))) q2))<|Kh 2 hq<|Kv 4 (by exact hJ (xs:=L++Z) (l:=0) (h:=i) (by kernel_rfl) (by rfl) (by rfl) (by omega) (by omega) (by omega) (by omega) (by omega) (by omega):bj (q) (c8 (8) (q) q3 (none) q6 (none))=some (ARes.val q11 q))<|Kv 1 (by exact hJ (xs:=L++Z) (l:=i+1) (h:=n) (by kernel_rfl) (by rfl) (by rfl) (by omega) (by omega) (by omega) (by omega) (by omega) (by omega):bj (q) (c8 (8) (q) q3 q5 (none) (none))=some (ARes.val q4 q))<|Md rt (iX (tR 8 false 0 1 (oA:aq (L++Z)=0))<|iX (tR 8 false 0 1 (oA:aq (L++Z)=0)) rt) (by exact KP (new:=L.drop (i+1)) rfl (yz rfl (TB hn (by omega))) (qP hf) (fun e=>by have:=congrArg List.length e;grind) (by grind) (by grind) (aC (m:=2^20) (by grind) (by omega) (by omega)) (by grind) (TC hn (by omega)):fJ (dV (8) (120) (q8) ((some q11)) ((some q4)))=some (ARes.val q9 (AHeap.put q8 0 (AObj.row 8 false 0 (L.eraseIdx i++(L.drop (n-1)++Z))))))<|Ko 4 (by exact hJ (xs:=L.eraseIdx i++(L.drop (n-1)++Z)) (l:=n-1) (h:=n) (by kernel_rfl) (by rfl) (by rfl) (by omega) (by omega) (by omega) (by omega) (by omega) (by omega):bj q1 (c8 (8) q1 ((some q9)) ((some (nV (n-1)))) q7 (none))=some (ARes.val q10 q1))<|Mo (by exact DE rfl (by kernel_rfl) (DD hn (by omega)):fJ (vw (8) (AV.agg [iV 0,iV 0,iV 0,iV 0,AV.str [],AV.nils,AV.nils,AV.nils]) q1 ((some q10)))=some (ARes.val (AV.tuple []) (ay [AObj.row 8 false 0 (L.eraseIdx i++zU::Z)])))<|Kf 1 a
theorem Qp(L Z:List AV)(k i:Nat)(hn:L.length=i+1)(hs:i<2^20)(hk:0<k)(hZ:Z.length=k)(hT:aq (L++Z)=0):kD 247 [.slice 0 0 0 (i+1) (some (i+1+k)),nV i,nV (i+1)] (ay [dn (L++Z)]) (.slice 0 0 0 i (some (i+1+k))) (ay [dn (L.eraseIdx i++(zU::Z))]):=by
  have hq:ab (Int.ofNat i) (Int.ofNat (i+1))=false:=Xh (by omega)
  have hr:L.eraseIdx i++(L.drop (i+1-1)++Z)=L++Z:=by
    rw[Nm,xH (by omega),dr,←nD,show i+1-1=i from rfl,I1]
  have hc:bp (L++Z) i (List.replicate 1 zU)=L.eraseIdx i++(zU::Z):=by
    have h:=DD (z:=zU) (Z:=Z) hn (show i<i+1 by omega)
    grind
  let q:=ay [aZ 8 false 0 (L++Z)];let q1:=AHeap.mk 1000000 (bm q ([0]) Tr.nil);let q2:=(some (nV (i+1)));let q3:=aG 0 0 0 i (some (i+1+k));let q4:=(some (aG 0 0 0 (i+1) (some (i+1+k))));let q5:=(some (nV i));let q6:=AHeap.mk 1 (bm q ([0,0]) Tr.nil);let q7:=aG 0 0 (i+1) 0 (some k);let q8:=aG 0 0 i 1 (some (k+1));exact fq Tryz.func247 fun a=>Ko 5 (by exact CN (xs:=L++Z) (l:=i) (h:=i+1) (m:=i+1) (by kernel_rfl) (by rfl) (by rfl) (by rfl) (by omega) (by omega) (by omega) (by omega) (by omega) (by omega) (by omega):bj q (c8 (8) q q4 q5 q2 q2)=some (ARes.val (AV.slice 0 0 i 1 (some 1)) q))<|Kh 2 hq<|Kv 4 (by exact hJ (xs:=L++Z) (l:=0) (h:=i) (by kernel_rfl) (by rfl) (by rfl) (by omega) (by omega) (by omega) (by omega) (by omega) (by omega):bj (q1) (c8 (8) (q1) q4 (none) q5 (none))=some (ARes.val q3 q1))<|Kv 1 (by exact hJ (xs:=L++Z) (l:=i+1) (h:=i+1) (by kernel_rfl) (by rfl) (by rfl) (by omega) (by omega) (by omega) (by omega) (by omega) (by omega):bj (q1) (c8 (8) (q1) q4 q2 (none) (none))=some (ARes.val q7 q1))<|Md rt (iX (tR 8 false 0 1 (oA:aq (L++Z)=0))<|iX (tR 8 false 0 1 (oA:aq (L++Z)=0)) rt) (by exact RJ (yz rfl List.take_zero):fJ (dV (8) (120) (q6) ((some q3)) ((some q7)))=some (ARes.val q3 q6))<|Ko 4 (by exact hJ (xs:=L++Z) (l:=i) (h:=i+1) (by kernel_rfl) (by rfl) (by rfl) (by omega) (by omega) (by omega) (by omega) (by omega) (by omega):bj q (c8 (8) q ((some q3)) q5 q2 (none))=some (ARes.val q8 q))<|Mo (by exact DE rfl (by kernel_rfl) hc:fJ (vw (8) (AV.agg [iV 0,iV 0,iV 0,iV 0,AV.str [],AV.nils,AV.nils,AV.nils]) q ((some q8)))=some (ARes.val (AV.tuple []) (ay [AObj.row 8 false 0 (L.eraseIdx i++zU::Z)])))<|Kf 1 a
theorem Qo(L:List AV)(i:Nat)(hn:L.length=i+1)(hs:i<2^20)(hT:aq L=0):kD 247 [.slice 0 0 0 (i+1) (some (i+1)),nV i,nV (i+1)] (ay [dn L]) (.slice 0 0 0 i (some (i+1))) (ay [dn (L.eraseIdx i++[zU])]):=by
  have hq:ab (Int.ofNat i) (Int.ofNat (i+1))=false:=Xh (by omega)
  have hr:L.eraseIdx i++(L.drop (i+1-1)++[])=L:=by
    rw[Nm,xH (by omega),dr,dr,show i+1-1=i from rfl,I1]
  have hc:bp L i (List.replicate 1 zU)=L.eraseIdx i++[zU]:=by
    have h:=DD (z:=zU) (Z:=[]) hn (show i<i+1 by omega)
    grind
  let q:=ay [aZ 8 false 0 L];let q1:=AHeap.mk 1000000 (bm q ([0]) Tr.nil);let q2:=(some (nV (i+1)));let q3:=aG 0 0 0 i (some (i+1));let q4:=(some (aG 0 0 0 (i+1) (some (i+1))));let q5:=(some (nV i));let q6:=aG 0 0 i 1 (some 1);let q7:=AHeap.mk 1 (bm q ([0,0]) Tr.nil);let q8:=aG 0 0 0 0 (some 0);exact fq Tryz.func247 fun a=>Ko 5 (by exact CN (xs:=L) (l:=i) (h:=i+1) (m:=i+1) (by kernel_rfl) (by rfl) (by rfl) (by rfl) (by omega) (by omega) (by omega) (by omega) (by omega) (by omega) (by omega):bj q (c8 (8) q q4 q5 q2 q2)=some (ARes.val q6 q))<|Kh 2 hq<|Kv 4 (by exact hJ (xs:=L) (l:=0) (h:=i) (by kernel_rfl) (by rfl) (by rfl) (by omega) (by omega) (by omega) (by omega) (by omega) (by omega):bj (q1) (c8 (8) (q1) q4 (none) q5 (none))=some (ARes.val q3 q1))<|Kv 1 (by exact Jj (xs:=L) (l:=i+1) (h:=i+1) (by kernel_rfl) (by rfl) (by rfl) (by rfl) rfl:bj (q1) (c8 (8) (q1) q4 q2 (none) (none))=some (ARes.val q8 q1))<|Md rt (iX (tR 8 false 0 1 (oA:aq (L)=0))<|iX (tR 8 false 0 1 (oA:aq (L)=0)) rt) (by exact RJ (yz rfl List.take_zero):fJ (dV (8) (120) (q7) ((some q3)) ((some q8)))=some (ARes.val q3 q7))<|Ko 4 (by exact hJ (xs:=L) (l:=i) (h:=i+1) (by kernel_rfl) (by rfl) (by rfl) (by omega) (by omega) (by omega) (by omega) (by omega) (by omega):bj q (c8 (8) q ((some q3)) q5 q2 (none))=some (ARes.val q6 q))<|Mo (by exact DE rfl (by kernel_rfl) hc:fJ (vw (8) (AV.agg [iV 0,iV 0,iV 0,iV 0,AV.str [],AV.nils,AV.nils,AV.nils]) q ((some q6)))=some (ARes.val (AV.tuple []) (ay [AObj.row 8 false 0 (L.eraseIdx i++[zU])])))<|Kf 1 a
theorem Qn(L Z:List AV)(n i:Nat)(hi:i<n)(hn:L.length=n)(hs:n≤2^20)(hf:dh 8 L=true)(hT:aq (L++Z)=0):kD 247 [.slice 0 0 0 n (some (n+Z.length)),nV i,nV (i+1)] (ay [dn (L++Z)]) (.slice 0 0 0 (n-1) (some (n+Z.length))) (ay [dn (L.eraseIdx i++(zU::Z))]):=by
  rcases eH (i+1) n with h|h
  · exact Qr L Z n _ i h hn hs hf rfl hT
  · obtain rfl:n=i+1:=by omega
    cases Z with
    |nil=>rw[dr];rw[dr]at hT;exact Qo L i hn (by omega) hT
    |cons z r=>exact Qp L (z::r) _ i hn (by omega) (Nat.succ_pos _) rfl hT
/-- A list with an element more at a place. -/
def gx(i:Nat)(x:AV)(l:List AV):List AV:=l.take i++(x::l.drop i)
theorem zx{i:Nat}{x:AV}{l:List AV}(h:i≤l.length):(gx i x l).length=l.length+1:=by
  grind[gx]
theorem FI{x:AV}{l:List AV}{n:Nat}(h:l.length=n):gx n x l=l++[x]:=by
  grind[gx]
theorem XS(n:Nat):ab (Int.ofNat n) (Int.ofNat n)=true:=aR _
theorem YI{a b:Nat}(h:a<b):ap (Int.ofNat a) (Int.ofNat b)=true:=nQ (by simp_all)
theorem YL{a b:Nat}(h:b≤a):ap (Int.ofNat a) (Int.ofNat b)=false:=lr (by simp_all)
theorem To{L Z:List AV}{x z:AV}{n:Nat}(h:L.length=n):bp (L++z::Z) (0+n) [x]=gx n x L++Z:=by
  unfold bp
  rw[FI h,gQ,←h,List.take_left,show(L++z::Z).drop (L.length+[x].length)=Z by rw[←vg,List.drop_left];rfl]
theorem So{L Z:List AV}{z:AV}{n i:Nat}(h:L.length=n)(hi:i<n):bp (L++z::Z) (i+1) (L.drop i)=L.take (i+1)++(L.drop i++Z):=by
  unfold bp
  rw[List.take_append_of_le_length (by omega),nD,xF,show i+1+(L.length-i)=L.length+1 by omega,←vg,List.drop_left];rfl
theorem PW{L Z:List AV}{x:AV}{n i:Nat}(h:L.length=n)(hi:i<n):bp (L.take (i+1)++(L.drop i++Z)) i [x]=gx i x L++Z:=by
  unfold bp gx
  grind
theorem Se{L:List AV}{z x:AV}{n i:Nat}(h:L.length=n)(hi:i<n):bp (L.take i++List.replicate (n+1-i) z) i [x]=L.take i++(x::List.replicate (n-i) z):=by
  unfold bp
  have h1:(L.take i).length=i:=by grind
  have e:n+1-i=(n-i)+1:=by omega
  rw[List.take_append_of_le_length (by omega),xI (by omega),←vg]
  simp_all
theorem PQ{L:List AV}{z x:AV}{n i:Nat}(h:L.length=n)(hi:i<n):bp (L.take i++(x::List.replicate (n-i) z)) (i+1) (L.drop i)=gx i x L:=by
  unfold bp gx
  have h1:(L.take i).length=i:=by grind
  have h2:(L.take i++(x::List.replicate (n-i) z)).length=n+1:=by grind
  have e:(L.take i++(x::List.replicate (n-i) z)).drop (i+1+(L.drop i).length)=[]:=xH (by grind)
  grind
theorem Pm(L Z:List AV)(x z:AV)(t:Bool)(n k:Nat)(hn:L.length=n)(hs:n<2^20)(hk:Z.length=k)(hx:dh 8 [x]=true):kD 166 [.slice 0 0 0 n (some (n+(k+1))),nV n,.ps [x] t] (ay [dn (L++z::Z)]) (.slice 0 0 0 (n+1) (some (n+(k+1)))) (ay [dn (gx n x L++Z)]):=by
  have hq:=XS n
  let q:=ay [aZ 8 false 0 (L++z::Z)];exact fq Tryz.func166 fun a=>Ko 2 (by exact hJ (xs:=L++z::Z) (l:=n) (h:=n) (by kernel_rfl) (by rfl) (by rfl) (by omega) (by omega) (by omega) (by omega) (by omega) (by omega):bj q (c8 (8) q ((some (AV.slice 0 0 0 n (some (n+(k+1)))))) ((some (nV n))) (none) (none))=some (ARes.val (AV.slice 0 0 n 0 (some (k+1))) q))<|Kt 11 hq<|Ko 1 (by exact KP (new:=[x]) rfl (by rfl) hx (pK _ _) (by simp_all) (by simp_all) (aC (m:=2^20) (by grind) (by omega) (by omega)) rfl (To hn):fJ (dV (8) (120) (ay [AObj.row 8 false 0 (L++z::Z)]) ((some (AV.slice 0 0 0 n (some (n+(k+1)))))) ((some (AV.ps [x] t))))=some (ARes.val (AV.slice 0 0 0 (n+1) (some (n+(k+1)))) (ay [AObj.row 8 false 0 (gx n x L++Z)])))<|Kf 0 a
theorem Pi(L:List AV)(x:AV)(t:Bool)(n:Nat)(hn:L.length=n)(hs:n<2^20)(hx:dh 8 [x]=true)(hT:aq L=0)(hI:aq (gx n x L)=0):kD 166 [.slice 0 0 0 n (some n),nV n,.ps [x] t] (ay [dn L]) (.ls (gx n x L)) (ay [dn L]):=by
  have hq:=XS n
  have hIl:(gx n x L).length=n+1:=(zx (by omega)).trans (by omega)
  let q:=ay [aZ 8 false 0 L];exact fq Tryz.func166 fun a=>Ko 2 (by exact Jj (xs:=L) (l:=n) (h:=n) (by kernel_rfl) (by rfl) (by rfl) (by rfl) rfl:bj q (c8 (8) q ((some (AV.slice 0 0 0 n (some n)))) ((some (nV n))) (none) (none))=some (ARes.val (AV.slice 0 0 0 0 (some 0)) q))<|Kt 11 hq<|Ko 1 (by exact T9 (new:=[x]) rfl (by rfl) hx (pK _ _) (by simp_all) (aC (m:=2^20) (by grind) (by omega) (by omega)) (by grind[FI]) ((zx (by omega)).trans (by omega)):fJ (dV (8) (120) (ay [AObj.row 8 false 0 L]) ((some (AV.slice 0 0 0 n (some n)))) ((some (AV.ps [x] t))))=some (ARes.val (AV.slice 1 0 0 (n+1) none) (ay [AObj.row 8 false 0 L,AObj.row 8 true 0 (gx n x L)])))<|Mg 0<|M2 (.fsl 1 [] 6<|gx n x L) (et (tR 8 false 0 1 (oA:aq (L)=0)) ti) (cn (aU 0) (Ua (oA:(gx n x L).length=n+1)) (oA:aq (gx n x L)=0))<|Ml 6 (fw (gx n x L) false (oA:aq (gx n x L)=0))<|Mf a
theorem Ph(L Z:List AV)(x z:AV)(t:Bool)(n k i:Nat)(hi:i<n)(hn:L.length=n)(hs:n<2^20)(hk:Z.length=k)(hx:dh 8 [x]=true)(hf:dh 8 L=true)(hT:aq (L++z::Z)=0)(hov:kD 244 [.ps [x] t,.slice 0 0 (i+1) (n-i) (some (n+(k+1)-(i+1)))] (ay [dn (L++z::Z)]) (.bool false) (ay [dn (L++z::Z)])):kD 166 [.slice 0 0 0 n (some (n+(k+1))),nV i,.ps [x] t] (ay [dn (L++z::Z)]) (.slice 0 0 0 (n+1) (some (n+(k+1)))) (ay [dn (gx i x L++Z)]):=by
  have hq:ab (Int.ofNat i) (Int.ofNat n)=false:=Xh (by omega)
  have hl:ap (Int.ofNat (n+(k+1))) (Int.ofNat (n+1))=false:=YL (by omega)
  let q:=ay [aZ 8 false 0 (L++z::Z)];let q1:=ay [aZ 8 false 0 (L.take (i+1)++(L.drop i++Z))];let q2:=AHeap.mk 1000000 (bm q ([0]) Tr.nil);let q3:=aG 0 0 0 (n+1) (some (n+(k+1)));let q4:=aG 0 0 i (n+1-i) (some (n+(k+1)-i));let q5:=(some (nV i));let q6:=aG 0 0 (i+1) (n-i) (some (n+(k+1)-(i+1)));let q7:=(some (nV (i+1)));let q8:=(some (aG 0 0 0 n (some (n+(k+1)))));exact fq Tryz.func166 fun a=>Ko 2 (by exact hJ (xs:=L++z::Z) (l:=i) (h:=n) (by kernel_rfl) (by rfl) (by rfl) (by omega) (by omega) (by omega) (by omega) (by omega) (by omega):bj q (c8 (8) q q8 q5 (none) (none))=some (ARes.val (AV.slice 0 0 i (n-i) (some (n+(k+1)-i))) q))<|Kh 11 hq<|Kl 2 28 (iz n)<|Kh 2 hl<|Kl 3 59 (iz n)<|Mo (by exact hJ (xs:=L++z::Z) (l:=0) (h:=n+1) (by kernel_rfl) (by rfl) (by rfl) (by omega) (by omega) (by omega) (by omega) (by omega) (by omega):bj q (c8 (8) q q8 (none) ((some (nV (n+1)))) (none))=some (ARes.val q3 q))<|Kl 5 65 (iz i)<|Mo (by exact hJ (xs:=L++z::Z) (l:=i+1) (h:=n+1) (by kernel_rfl) (by rfl) (by rfl) (by omega) (by omega) (by omega) (by omega) (by omega) (by omega):bj q (c8 (8) q ((some q3)) q7 (none) (none))=some (ARes.val q6 q))<|Me hov<|Mg 4<|Ma (iz i)<|Mv (by exact hJ (xs:=L++z::Z) (l:=i+1) (h:=n+1) (by kernel_rfl) (by rfl) (by rfl) (by omega) (by omega) (by omega) (by omega) (by omega) (by omega):bj (q2) (c8 (8) (q2) ((some q3)) q7 (none) (none))=some (ARes.val q6 q2))<|Kv 1 (by exact hJ (xs:=L++z::Z) (l:=i) (h:=n+1) (by kernel_rfl) (by rfl) (by rfl) (by omega) (by omega) (by omega) (by omega) (by omega) (by omega):bj (q2) (c8 (8) (q2) ((some q3)) q5 (none) (none))=some (ARes.val q4 q2))<|Md rt (iX (tR 8 false 0 1 (oA:aq (L++z::Z)=0))<|iX (tR 8 false 0 1 (oA:aq (L++z::Z)=0)) rt) (by exact KC (zs:=((L++z::Z).drop i).take (n+1-i)) rfl (yz rfl rfl) (by grind[qP]) (by grind) (by grind[So]):fJ (uQ (8) ((AHeap.mk 1 (bm (ay [AObj.row 8 false 0 (L++z::Z)]) ([0,0]) Tr.nil))) ((some (AV.slice 0 0 (i+1) (n-i) (some (n+(k+1)-(i+1)))))) ((some (AV.slice 0 0 i (n+1-i) (some (n+(k+1)-i))))))=some (ARes.val (nV (n-i)) (AHeap.put (AHeap.mk 1 (bm (ay [AObj.row 8 false 0 (L++z::Z)]) ([0,0]) Tr.nil)) 0 (AObj.row 8 false 0 (L.take (i+1)++(L.drop i++Z))))))<|Ko 1 (by exact hJ (xs:=L.take (i+1)++(L.drop i++Z)) (l:=i) (h:=n+1) (by kernel_rfl) (by rfl) (by rfl) (by omega) (by omega) (by omega) (by omega) (by omega) (by omega):bj q1 (c8 (8) q1 ((some q3)) q5 (none) (none))=some (ARes.val q4 q1))<|Ko 0 (by exact KC (zs:=[x]) rfl (by rfl) (qO hx) (by grind) (by grind[List.take_of_length_le,PW]):fJ (uQ (8) q1 ((some q4)) ((some (AV.ps [x] t))))=some (ARes.val (iV 1) (ay [AObj.row 8 false 0 (gx i x L++Z)])))<|Kf 1 a
theorem Pg(L:List AV)(x:AV)(t:Bool)(n i:Nat)(hi:i<n)(hn:L.length=n)(hs:n<2^20)(hx:dh 8 [x]=true)(hf:dh 8 L=true)(hT:aq L=0)(hT2:aq (L.take i++(x::List.replicate (n-i) zU))=0)(hI:aq (gx i x L)=0):kD 166 [.slice 0 0 0 n (some n),nV i,.ps [x] t] (ay [dn L]) (.ls (gx i x L)) (ay [dn L]):=by
  have hq:ab (Int.ofNat i) (Int.ofNat n)=false:=Xh (by omega)
  have hl:ap (Int.ofNat n) (Int.ofNat (n+1))=true:=YI (by omega)
  have hIl:(gx i x L).length=n+1:=(zx (by omega)).trans (by omega)
  let q:=ay [aZ 8 false 0 L,aZ 8 true 0 (L.take i++x::List.replicate (n-i) zU)];let q1:=ay [aZ 8 false 0 L,aZ 8 true 0 (L.take i++List.replicate (n+1-i) zU)];let q2:=ay [aZ 8 false 0 L];let q3:=(some (nV i));let q4:=AHeap.mk 1000000 (bm q ([0]) Tr.nil);let q5:=aG 0 0 i (n-i) (some (n-i));let q6:=(some (aG 0 0 0 n (some n)));let q7:=AHeap.mk 2 (bm q ([1,0]) Tr.nil);let q8:=aG 1 0 i (n+1-i) none;let q9:=aG 1 0 0 (n+1) none;let q10:=aG 0 0 0 i (some n);exact fq Tryz.func166 fun a=>Ko 2 (by exact hJ (xs:=L) (l:=i) (h:=n) (by kernel_rfl) (by rfl) (by rfl) (by omega) (by omega) (by omega) (by omega) (by omega) (by omega):bj q2 (c8 (8) q2 q6 q3 (none) (none))=some (ARes.val q5 q2))<|Kh 11 hq<|Kl 2 28 (iz n)<|Kt 2 hl<|Ko 1 (by exact hJ (xs:=L) (l:=0) (h:=i) (by kernel_rfl) (by rfl) (by rfl) (by omega) (by omega) (by omega) (by omega) (by omega) (by omega):bj q2 (c8 (8) q2 q6 (none) q3 (none))=some (ARes.val q10 q2))<|Kl 2 37 (iz n)<|Ko 0 (by(show bj _ (some (AV.int .i64 (IntKind.i64.wrap (Int.ofNat (n+1)-Int.ofNat i))))=_;rw[show(Int.ofNat (n+1)-Int.ofNat i)=Int.ofNat (n+1-i) by grind,xJ (by simp_all) (by grind)];rfl):bj (ay [AObj.row 8 false 0 L]) (Ru (pf BinOp.sub (Tryz.prog.underlying 3) (cC Tryz.prog 3) (cE Tryz.prog 3) (dI Tryz.prog 10 3 0)) ((some (nV (n+1)))) ((some (nV i))))=some (ARes.val (nV (n+1-i)) (ay [AObj.row 8 false 0 L])))<|Mo (by exact Sm rfl (by omega) (by omega) (by kernel_rfl) (aC (m:=2^21) (by omega) (by omega) (by omega)) (aC (m:=2^21) (by omega) (by omega) (by omega)) (by simp_all) (by grind):fJ (BI (8) (120) (AV.agg [iV 0,iV 0,iV 0,iV 0,AV.str [],AV.nils,AV.nils,AV.nils]) q2 ((some q10)) ((some (nV (n+1-i)))))=some (ARes.val q9 q1))<|Ko 2 (by exact CM (xs:=L.take i++List.replicate (n+1-i) zU) (l:=i) (h:=n+1) (by kernel_rfl) (by rfl) (by rfl) (by omega) (by grind) (by omega) (by omega):bj q1 (c8 (8) q1 ((some q9)) q3 (none) (none))=some (ARes.val q8 q1))<|Ko 0 (by exact KC (zs:=[x]) rfl (by rfl) (qO hx) (by grind) (by grind[List.take_of_length_le,Se]):fJ (uQ (8) q1 ((some q8)) ((some (AV.ps [x] t))))=some (ARes.val (iV 1) q))<|Mg 2<|Ma (iz i)<|Mv (by exact CM (xs:=L.take i++(x::List.replicate (n-i) zU)) (l:=i+1) (h:=n+1) (by kernel_rfl) (by rfl) (by rfl) (by omega) (by grind) (by omega) (by omega):bj ((AHeap.mk 1000000 (bm (ay [AObj.row 8 false 0 L,AObj.row 8 true 0 (L.take i++x::List.replicate (n-i) zU)]) ([1]) Tr.nil))) (c8 (8) ((AHeap.mk 1000000 (bm (ay [AObj.row 8 false 0 L,AObj.row 8 true 0 (L.take i++x::List.replicate (n-i) zU)]) ([1]) Tr.nil))) ((some (AV.slice 1 0 0 (n+1) none))) ((some (nV (i+1)))) (none) (none))=some (ARes.val (AV.slice 1 0 (i+1) (n-i) none) (AHeap.mk 1000000 (bm (ay [AObj.row 8 false 0 L,AObj.row 8 true 0 (L.take i++x::List.replicate (n-i) zU)]) ([1]) Tr.nil))))<|Kv 1 (by exact hJ (xs:=L) (l:=i) (h:=n) (by kernel_rfl) (by rfl) (by rfl) (by omega) (by omega) (by omega) (by omega) (by omega) (by omega):bj (q4) (c8 (8) (q4) q6 q3 (none) (none))=some (ARes.val q5 q4))<|Md rt (iX (tR 8 true 0 2 (oA:aq (L.take i++x::List.replicate (n-i) zU)=0))<|iX (tR 8 false 0 2 (oA:aq (L)=0)) rt) (by exact KC (zs:=L.drop i) rfl (yz rfl (xI (by simp_all))) (qO (qP hf)) (by simp_all) (by grind[List.length_drop,PQ]):fJ (uQ (8) (q7) ((some (AV.slice 1 0 (i+1) (n-i) none))) ((some q5)))=some (ARes.val (nV (n-i)) (AHeap.put q7 1 (AObj.row 8 true 0 (gx i x L)))))<|Mg 1<|M2 (.fsl 1 [] 6<|gx i x L) (et (tR 8 false 0 1 (oA:aq (L)=0)) ti) (cn (aU 0) (Ua (oA:(gx i x L).length=n+1)) (oA:aq (gx i x L)=0))<|Ml 6 (fw (gx i x L) false (oA:aq (gx i x L)=0))<|Mf a
theorem FG(x:TUnit)(t:Bool):kP 166 [.nils,iV 0,.ps [eU x] t] (.ls [eU x]):=by
  have hx:dh 8 [eU x]=true:=by kernel_rfl
  have hIl:[eU x].length=1:=rfl
  have hI:aq [eU x]=0:=by kernel_rfl
  let q:=[aw [iV x.act,iV x.item,iV x.n,iV x.kind,aj x.label,aW (x.head.map aQ),aW (x.words.map aQ),aW (x.kids.map aV)]];exact bu Tryz.func166<|Ko 18 (by(simp only[dV,gK,kU,kX,gI,hx];rfl):fJ (dV (8) (120) (ay []) ((some (AV.nils))) ((some (AV.ps [AV.agg [iV x.act,iV x.item,iV x.n,iV x.kind,AV.str x.label,AV.ls (x.head.map aQ),AV.ls (x.words.map aQ),AV.ls (x.kids.map aV)]] t))))=some (ARes.val (AV.slice 0 0 0 1 none) (ay [AObj.row 8 true 0 [eU x]])))<|K1 0 (.frz 0 [6]) ti<|Mf (fw q _<|by rfl:Le _ (AV.ps q false))
theorem FF(x:TUnit)(t:Bool):kP 166 [.ps [] true,iV 0,.ps [eU x] t] (.ls [eU x]):=by
  have hx:dh 8 [eU x]=true:=by kernel_rfl
  have hIl:[eU x].length=1:=rfl
  have hI:aq [eU x]=0:=by kernel_rfl
  let q:=[aw [iV x.act,iV x.item,iV x.n,iV x.kind,aj x.label,aW (x.head.map aQ),aW (x.words.map aQ),aW (x.kids.map aV)]];exact bu Tryz.func166<|Ko 18 (by(simp only[dV,gK,kU,kX,gI,hx];rfl):fJ (dV (8) (120) (ay []) ((some (AV.ps [] true))) ((some (AV.ps [AV.agg [iV x.act,iV x.item,iV x.n,iV x.kind,AV.str x.label,AV.ls (x.head.map aQ),AV.ls (x.words.map aQ),AV.ls (x.kids.map aV)]] t))))=some (ARes.val (AV.slice 0 0 0 1 none) (ay [AObj.row 8 true 0 [eU x]])))<|K1 0 (.frz 0 [6]) ti<|Mf (fw q _<|by rfl:Le _ (AV.ps q false))
noncomputable def JJ:TypeInfo:=(Tryz.prog.info? 38).getD default
theorem NM:Tryz.prog.info? 38=some JJ:=by kernel_rfl
/-- A unit of zero values says no more than the zero value. -/
theorem WG:Le (aV bv) zU:=aL (.cons (Le.refl _) (.cons (Le.refl _) (.cons (Le.refl _) (.cons (Le.refl _) (.cons (Le.refl _) (.cons Le.nils (.cons Le.nils (.cons Le.nils .nil)))))))) rfl
theorem He:JJ.size=8:=by kernel_rfl
theorem En:JJ.bytes=120:=by kernel_rfl
theorem XN(l:List TUnit):dh 8 (l.map aV)=true:=gj (fun u=>by cases u;rfl) l
/-- A copy of units: a row of its own, which holds zero values behind them. -/
theorem DF(xs:List TUnit)(hne:xs≠[])(hl:xs.length≤2^20)(a b c:AObj):kC 243 [.ls (xs.map aV)] (ay [a,b,c])
    (fun v h=>∃k:Nat,True∧v=.slice 3 0 0 xs.length (some (xs.length+k))∧h=ay [a,b,c,dn ((xs++List.replicate k bv).map aV)]):=by
  simp only[pn,List.map_replicate]
  have hn:xs.map aV≠[]:=fun h=>hne (List.map_eq_nil_iff.1 h)
  have hf:=XN xs
  have hsm:small (xs.map aV).length 120=true:=by grind[aC]
  have hlen:xs.length=(xs.map aV).length:=(b6 ..).symm
  rw[hlen]
  generalize xs.map aV=L at hn hf hsm
  refine aE.enter 2 (fn:=Tryz.f243) Tryz.func243 (by kernel_rfl) rfl ⟨by kernel_rfl,by kernel_rfl⟩ ?_
  refine al.seq (al.mono (Dy mh gF (ev 40) (s':=⟨dM 8 [(0,.ls L),(2,.nils)],ay [a,b,c]⟩) (.go 0 .fin) (by kernel_rfl)) ?_)
  rintro _ _ ⟨rfl,rfl⟩
  refine al.seq (al.seq (al.mono (xb gF (ev 40) (Ψ:=fun s=>s=⟨dM 8 [(0,.ls L),(2,.nils),(3,.ps L false),(4,.bool false)],ay [a,b,c]⟩) (.go 0 (.nz 3 .abs (.go 0 .fin)))
    (W:=(L=[]→False)∧(⟨dM 8 [(0,.ls L),(2,.nils),(3,.ps L false),(4,.bool false)],ay [a,b,c]⟩:St)=⟨dM 8 [(0,.ls L),(2,.nils),(3,.ps L false),(4,.bool false)],ay [a,b,c]⟩) ⟨hn,rfl⟩ (by kernel_rfl)) ?_))
  rintro _ _ ⟨rfl,rfl⟩
  refine al.cond (t:=false) (by kernel_rfl) (fun h=>by grind) fun _=>al.skip ?_
  refine al.seq (al.region ?_)
  show cJ _ _ _ _ [_,_,_,_] _ _
  refine cJ.one (s':=⟨dM 8 [(0,.ls L),(2,.nils),(3,.ps L false),(4,.bool false),(5,.ps [] true)],ay [a,b,c]⟩) (ev 40) (by kernel_rfl) ?_
  refine cJ.one (s':=⟨dM 8 [(0,.ls L),(2,.nils),(3,.ps L false),(4,.bool false),(5,.ps [] true),(6,.ls L)],ay [a,b,c]⟩) (ev 40) (by kernel_rfl) ?_
  refine rY (I:=fun _=>True) (r:=fun k:Nat=>.slice 3 0 0 L.length (some (L.length+k))) (H:=fun k=>ay [a,b,c,.row 8 false 0 (L++List.replicate k (aV bv))]) (by kernel_rfl)
    (fun pl M a w g1 g2 g3=>uU (z:=aV bv) (z0:=zU) (xs:=L) (t:=36) (tx:=36) (e:=38) (i:=JJ) He En (by kernel_rfl) ⟨38,by kernel_rfl⟩ NM (by kernel_rfl) WG (by kernel_rfl) (by kernel_rfl) hn hf (by kernel_rfl) hsm (by omega) pl M a w g1 g2 g3) fun k _=>?_
  refine⟨dM 8 [(0,.ls L),(2,.nils),(3,.ps L false),(4,.bool false),(5,.ps [] true),(6,.ls L),(7,.slice 3 0 0 L.length (some (L.length+k)))],by kernel_rfl,?_⟩
  refine cJ.one (s':=⟨dM 8 [(0,.ls L),(2,.slice 3 0 0 L.length (some (L.length+k))),(3,.ps L false),(4,.bool false),(5,.ps [] true),(6,.ls L),(7,.slice 3 0 0 L.length (some (L.length+k)))],ay [a,b,c,.row 8 false 0 (L++List.replicate k (aV bv))]⟩) (ev 40) (by kernel_rfl) (cJ.nil (al.ret ⟨fun id h=>(by grind),.slice 3 0 0 L.length (some (L.length+k)),by kernel_rfl,k,trivial,by kernel_rfl,by kernel_rfl⟩))
/-- The unit that a closure changes: its kids are 'K'. -/
noncomputable abbrev dm(u:TUnit)(K:AV):AObj:=.row 8 false 0 [.agg [iV u.act,iV u.item,iV u.n,iV u.kind,.str u.label,.ls (u.head.map aQ),.ls (u.words.map aQ),K]]
theorem WL(u:TUnit)(n c i:Nat)(R R':List AV)(hT:aq R=0)(hT2:aq R'=0)(hi:i<n)(hs:n≤2^20)(hD:kD 247 [.slice 1 0 0 n (some c),nV i,nV (i+1)] (ay [dm u (.slice 1 0 0 n (some c)),dn R]) (.slice 1 0 0 (n-1) (some c)) (ay [dm u (.slice 1 0 0 n (some c)),dn R'])):
    kD 246 [.ptr 0 0 0 0,.pptr [nV i] 0 0] (ay [dm u (.slice 1 0 0 n (some c)),dn R]) (.tuple []) (ay [dm u (.slice 1 0 0 (n-1) (some c)),dn R']):=by
  exact fq Tryz.func246 fun a=>Mg 6<|Ma (iz i)<|M3 (.efx false (aG 1 0 0 (n-1)<|some c)<|ay [aZ 8 false 0 [aw [iV u.act,iV u.item,iV u.n,iV u.kind,aj u.label,aW<|u.head.map aQ,aW<|u.words.map aQ,aG 1 0 0 n<|some c]],aZ 8 false 0 R']) (cn (tR 8 false 0 2 (oA:aq (R)=0)) rt ti) ti hD<|Kf 2 a
theorem VB(u x:TUnit)(n c i:Nat)(R R':List AV)(hT:aq R=0)(hT2:aq R'=0)(hD:kD 166 [.slice 1 0 0 n (some c),nV i,.ps [eU x] true] (ay [dm u (.slice 1 0 0 n (some c)),dn R]) (.slice 1 0 0 (n+1) (some c)) (ay [dm u (.slice 1 0 0 n (some c)),dn R'])):
    kD 165 [.ptr 0 0 0 0,.pptr [nV i] 0 0,.pptr [eU x] 0 0] (ay [dm u (.slice 1 0 0 n (some c)),dn R]) (.tuple []) (ay [dm u (.slice 1 0 0 (n+1) (some c)),dn R']):=by
  exact fq Tryz.func165 fun a=>Mg 7<|M3 (.efx false (aG 1 0 0 (n+1)<|some c)<|ay [aZ 8 false 0 [aw [iV u.act,iV u.item,iV u.n,iV u.kind,aj u.label,aW<|u.head.map aQ,aW<|u.words.map aQ,aG 1 0 0 n<|some c]],aZ 8 false 0 R']) (cn (tR 8 false 0 2 (oA:aq (R)=0)) rt ti) ti hD<|Kf 2 a
theorem VA(u x:TUnit)(n c i:Nat)(R Y:List AV)(hT:aq R=0)(hD:kD 166 [.slice 1 0 0 n (some c),nV i,.ps [eU x] true] (ay [dm u (.slice 1 0 0 n (some c)),dn R]) (.ls Y) (ay [dm u (.slice 1 0 0 n (some c)),dn R])):
    kD 165 [.ptr 0 0 0 0,.pptr [nV i] 0 0,.pptr [eU x] 0 0] (ay [dm u (.slice 1 0 0 n (some c)),dn R]) (.tuple []) (ay [dm u (.ls Y),dn R]):=by
  let q:=[aw [iV u.act,iV u.item,iV u.n,iV u.kind,aj u.label,aW (u.head.map aQ),aW (u.words.map aQ),aG 1 0 0 n (some c)]];exact fq Tryz.func165 fun a=>Mg 7<|M3 (.efx true (aW Y)<|ay [aZ 8 false 0 q,aZ 8 false 0 R]) (cn (tR 8 false 0 2 (oA:aq (R)=0)) rt ti) (cn (aU<|some<|aZ 8 false 0 R) (aU<|some<|aZ 8 false 0 q) ti) hD<|Kf 2 a
theorem Vu(u x:TUnit)(Y:List AV)(hD:kP 166 [.nils,iV 0,.ps [eU x] true] (.ls Y)):
    kD 165 [.ptr 0 0 0 0,.pptr [iV 0] 0 0,.pptr [eU x] 0 0] (ay [dm u .nils]) (.tuple []) (ay [dm u (.ls Y)]):=by
  exact fq Tryz.func165 fun a=>Kp 7 hD<|Kf 2 a
theorem Vt(u x:TUnit)(Y:List AV)(hD:kP 166 [(.ps [] true),iV 0,.ps [eU x] true] (.ls Y)):
    kD 165 [.ptr 0 0 0 0,.pptr [iV 0] 0 0,.pptr [eU x] 0 0] (ay [dm u (.ps [] true)]) (.tuple []) (ay [dm u (.ls Y)]):=by
  exact fq Tryz.func165 fun a=>Kp 7 hD<|Kf 2 a
theorem Va(u x:TUnit)(n c i:Nat)(R R':List AV)(hT:aq R=0)(hT2:aq R'=0)(hD:kD 166 [.slice 1 0 0 n (some c),nV i,.ps [eU x] true] (ay [dm u (.slice 1 0 0 n (some c)),dn R]) (.slice 1 0 0 (n+1) (some c)) (ay [dm u (.slice 1 0 0 n (some c)),dn R'])):
    kD 176 [.ptr 0 0 0 0,.pptr [nV i] 0 0,.pptr [eU x] 0 0] (ay [dm u (.slice 1 0 0 n (some c)),dn R]) (.tuple []) (ay [dm u (.slice 1 0 0 (n+1) (some c)),dn R']):=by
  exact fq Tryz.func176 fun a=>Mg 7<|M3 (.efx false (aG 1 0 0 (n+1)<|some c)<|ay [aZ 8 false 0 [aw [iV u.act,iV u.item,iV u.n,iV u.kind,aj u.label,aW<|u.head.map aQ,aW<|u.words.map aQ,aG 1 0 0 n<|some c]],aZ 8 false 0 R']) (cn (tR 8 false 0 2 (oA:aq (R)=0)) rt ti) ti hD<|Kf 2 a
theorem Vy(u x:TUnit)(n c i:Nat)(R Y:List AV)(hT:aq R=0)(hD:kD 166 [.slice 1 0 0 n (some c),nV i,.ps [eU x] true] (ay [dm u (.slice 1 0 0 n (some c)),dn R]) (.ls Y) (ay [dm u (.slice 1 0 0 n (some c)),dn R])):
    kD 176 [.ptr 0 0 0 0,.pptr [nV i] 0 0,.pptr [eU x] 0 0] (ay [dm u (.slice 1 0 0 n (some c)),dn R]) (.tuple []) (ay [dm u (.ls Y),dn R]):=by
  let q:=[aw [iV u.act,iV u.item,iV u.n,iV u.kind,aj u.label,aW (u.head.map aQ),aW (u.words.map aQ),aG 1 0 0 n (some c)]];exact fq Tryz.func176 fun a=>Mg 7<|M3 (.efx true (aW Y)<|ay [aZ 8 false 0 q,aZ 8 false 0 R]) (cn (tR 8 false 0 2 (oA:aq (R)=0)) rt ti) (cn (aU<|some<|aZ 8 false 0 R) (aU<|some<|aZ 8 false 0 q) ti) hD<|Kf 2 a
theorem Vv(u x:TUnit)(Y:List AV)(hD:kP 166 [.nils,iV 0,.ps [eU x] true] (.ls Y)):
    kD 176 [.ptr 0 0 0 0,.pptr [iV 0] 0 0,.pptr [eU x] 0 0] (ay [dm u .nils]) (.tuple []) (ay [dm u (.ls Y)]):=by
  exact fq Tryz.func176 fun a=>Kp 7 hD<|Kf 2 a
theorem Vw(u x:TUnit)(Y:List AV)(hD:kP 166 [(.ps [] true),iV 0,.ps [eU x] true] (.ls Y)):
    kD 176 [.ptr 0 0 0 0,.pptr [iV 0] 0 0,.pptr [eU x] 0 0] (ay [dm u (.ps [] true)]) (.tuple []) (ay [dm u (.ls Y)]):=by
  exact fq Tryz.func176 fun a=>Kp 7 hD<|Kf 2 a
theorem WH(u:TUnit)(l:List PWord):kD 169 [.ptr 0 0 0 0,.pptr [.ls (l.map aQ)] 0 0] (ay [dm u (.ls (u.kids.map aV))]) (.tuple []) (ay [dm (lu l u) (.ls (u.kids.map aV))]):=by
  exact fq Tryz.func169 fun a=>Kf 4 a
theorem XZ(u:TUnit)(l:List PWord):kD 171 [.ptr 0 0 0 0,.pptr [.ls (l.map aQ)] 0 0] (ay [dm u (.ls (u.kids.map aV))]) (.tuple []) (ay [dm (lu l u) (.ls (u.kids.map aV))]):=by
  exact fq Tryz.func171 fun a=>Kf 4 a
theorem XE(u:TUnit)(l:List PWord):kD 173 [.ptr 0 0 0 0,.pptr [.ls (l.map aQ)] 0 0] (ay [dm u (.ls (u.kids.map aV))]) (.tuple []) (ay [dm (zw l u) (.ls (u.kids.map aV))]):=by
  exact fq Tryz.func173 fun a=>Kf 4 a
theorem W8(u:TUnit)(d:PDeed):kD 175 [.ptr 0 0 0 0,.pptr [aY d] 0 0] (ay [dm u (.ls (u.kids.map aV))]) (.tuple []) (ay [dm (oR d.it.label u) (.ls (u.kids.map aV))]):=by
  exact fq Tryz.func175 fun a=>Kf 6 a
noncomputable abbrev uI(p:PId):AObj:=.row 3 false 0 [aK p]
noncomputable abbrev zO:AObj:=.row 8 false 0 [zU]
theorem GH:kP 243 [.nils] .nils:=by
  exact wk Tryz.func243 (.go 4 .fin)<|ba aa
theorem GG:kP 243 [.ps [] false] (.ps [] true):=by
  exact wk Tryz.func243 (.go 7 .fin)<|ba<|kL [] true
theorem QG(w:TUnit)(r:List TUnit)(hl:r.length<2^20):kP 243 [.ls ((w::r).map aV)] (.ls ((w::r).map aV)):=by
  let q:=List.map aV (w::r);exact bu Tryz.func243<|Mg 1<|Mz 3 (fun(a:((w::r).map aV:List AV)=[])=>Mw .abs<|pK _ _ a)<|Mg 3<|M2 .apl (et (sA:List.map aV (w::r)≠[])<|gj (sz:=8) (f:=aV) (fun _=>by(rw[aO];rfl))<|w::r) (by(refine aC (m:=2^21) ?_ ?_ ?_<;>first|omega|grind):small ((w::r).map aV).length 120=true)<|Mg 0<|M2 (.fsl 0 [] 2 q) ti (cn (aU 0) (tA aV (w::r) q.length (sA:(w::r).length=((w::r).map aV).length))<|aX gN<|w::r)<|Ml 2 (fw q false<|aX gN<|w::r)<|Mf<|ba<|aW q
theorem Cc(l:List TUnit)(hl:l.length≤2^20):kP 243 [.ls (l.map aV)] (.ls (l.map aV)):=by
  cases l with
  |nil=>exact aI.ls0 (GH.less Le.nils) (GG.lessB (u:=.ls []) (by kernel_rfl))
  |cons w r=>grind[QG]
/-- The unit is found; its kids stay what they are. -/
theorem xl(g:Nat)(bs:List AV)(p:PId)(u u2:TUnit)(hA:aq [eU u,aK p,.func (.func g) [] bs]=0)(hp:(ab u.act p.a&&(ab u.item p.i&&ab u.n p.n))=true)(hl:u.kids.length≤2^20)(hd:kD g (.ptr 0 0 0 0::bs) (ay [dm u (.ls (u.kids.map aV)),uI p,zO]) (.tuple []) (ay [dm u2 (.ls (u2.kids.map aV)),uI p,zO])):kP 164 [eU u,aK p,.func (.func g) [] bs] (eU u2):=by
  have hc:=Cc u.kids hl
  let q:=[iV p.a,iV p.i,iV p.n];exact bu (ht:=oA) Tryz.func164<|Kv 5 (lX ((Tryz.prog).underlying 25) u.act u.item u.n p.a p.i p.n<|ay [aZ 8 false 0 [aw [iV u.act,iV u.item,iV u.n,iV u.kind,aj u.label,aW<|u.head.map aQ,aW<|u.words.map aQ,aW<|u.kids.map aV]],aZ 3 false 0 [aw q],aZ 8 false 0 [aw [iV 0,iV 0,iV 0,iV 0,aj [],aa,aa,aa]]])<|Mt hp<|Kp 1 hc<|Ke 2 hd<|Kf 1<|ba<|aw [iV u2.act,iV u2.item,iV u2.n,iV u2.kind,aj u2.label,aW<|u2.head.map aQ,aW<|u2.words.map aQ,aW<|u2.kids.map aV]
/-- The unit is found; it has kids; in its own row something is done. -/
theorem TW(g:Nat)(bs:List AV)(p:PId)(u u2:TUnit)(n2:Nat)(Z:Nat→List AV)(hA:aq [eU u,aK p,.func (.func g) [] bs]=0)(hp:(ab u.act p.a&&(ab u.item p.i&&ab u.n p.n))=true)(hl:u.kids.length≤2^20)(hne:u.kids≠[])(hn2:u2.kids.length=n2)(hd:∀k,kD g (.ptr 0 0 0 0::bs) (ay [dm u (.slice 3 0 0 u.kids.length (some (u.kids.length+k))),uI p,zO,dn ((u.kids++List.replicate k bv).map aV)]) (.tuple []) (ay [dm u2 (.slice 3 0 0 n2 (some (u.kids.length+k))),uI p,zO,dn (u2.kids.map aV++Z k)])):kP 164 [eU u,aK p,.func (.func g) [] bs] (eU u2):=by
  let q:=[aw [iV u.act,iV u.item,iV u.n,iV u.kind,aj u.label,aW (u.head.map aQ),aW (u.words.map aQ),aW (u.kids.map aV)]];let q1:=[iV p.a,iV p.i,iV p.n];let q2:=[aw [iV 0,iV 0,iV 0,iV 0,aj [],aa,aa,aa]];let q3:=List.map aV u2.kids;exact bu (ht:=oA) Tryz.func164<|Kv 5 (lX ((Tryz.prog).underlying 25) u.act u.item u.n p.a p.i p.n<|ay [aZ 8 false 0 q,aZ 3 false 0 [aw q1],aZ 8 false 0 q2])<|Mt hp<|Mg 1<|Mq (DF u.kids hne hl (aZ 8 false 0 q) (aZ 3 false 0 [aw q1])<|aZ 8 false 0 q2) fun a _=>Ke 2 (hd a)<|M2 (.fza 0 7 3 [3,6] q3) (jF rt rt rt ti) (cn (aU 0) (N3 (xs:=List.map aV u2.kids) (ys:=Z a) (n:=n2) sA)<|aX gN u2.kids)<|Kf 1<|ba<|aw [iV u2.act,iV u2.item,iV u2.n,iV u2.kind,aj u2.label,aW<|u2.head.map aQ,aW<|u2.words.map aQ,aW q3]
theorem Tw{l m:List TUnit}{i:Nat}(h:i<l.length):gD (l++m) i=gD l i:=by
  grind[gD]
theorem sP{l m:List TUnit}{i n:Nat}{x:TUnit}(h:l.length=n)(hi:i<n):((l++m).set i x).take n=l.set i x:=by
  simp_all
theorem Rx{l m:List TUnit}{n:Nat}(h:l.length=n):(l++m).take n=l:=by simp_all
theorem Kz{l:List TUnit}{i:Nat}(h:i<l.length):l.drop i=gD l i::l.drop (i+1):=by
  grind[List.drop_eq_getElem_cons,gD]
theorem WO{p:PId}{f:TUnit→TUnit}{l:List TUnit}{i:Nat}(h:i7 p f l i (l.drop i))(hi:l.length≤i):eV p f l=l:=by
  grind[List.drop_eq_nil_of_le,i7.done]
theorem WM{p:PId}{f:TUnit→TUnit}{l:List TUnit}{i:Nat}(h:i7 p f l i (l.drop i))(hi:i<l.length)(hw:cX p (gD l i)=false):i7 p f l (i+1) (l.drop (i+1)):=by
  grind[Kz,i7.skip]
theorem WN{p:PId}{f:TUnit→TUnit}{l:List TUnit}{i:Nat}(h:i7 p f l i (l.drop i))(hi:i<l.length)(hw:cX p (gD l i)=true):eV p f l=l.set i (cR p f (gD l i)):=by
  grind[Kz,i7.hit]
/-- The unit is another one without kids. -/
theorem Xn(g:Nat)(bs:List AV)(p:PId)(u:TUnit)(hA:aq [eU u,aK p,.func (.func g) [] bs]=0)(hA2:(AV.func (.func g) [] bs).top=0)(hp:(ab u.act p.a&&(ab u.item p.i&&ab u.n p.n))=false)(h0:u.kids.length=0)(hl0:ap 0 (Int.ofNat u.kids.length)=false):kP 164 [eU u,aK p,.func (.func g) [] bs] (eU u):=by
  have hc:=Cc u.kids (by omega)
  let q:=[aZ 8 false 0 [aw [iV u.act,iV u.item,iV u.n,iV u.kind,aj u.label,aW (u.head.map aQ),aW (u.words.map aQ),aW (u.kids.map aV)]],aZ 3 false 0 [aw [iV p.a,iV p.i,iV p.n]],aZ 8 false 0 [aw [iV 0,iV 0,iV 0,iV 0,aj [],aa,aa,aa]]];let q1:=[bJ (bW g) [] bs,bY 0 0 0 0,bY 1 0 0 0,bY 2 0 0 0,aW (u.kids.map aV),aW (u.kids.map aV),nV u.kids.length,iV 0];exact bu (ht:=oA) Tryz.func164<|Kv 5 (lX ((Tryz.prog).underlying 25) u.act u.item u.n p.a p.i p.n<|ay q)<|Mh hp<|Kp 1 hc<|Kl 2 27 (ln aV u.kids)<|Mg 0<|WF [2,3,4,6,7,26,27,28] (q1,q) True 0 ti fun _ _=>Kh 0 hl0<|Kf 4<|ba<|aw [iV u.act,iV u.item,iV u.n,iV u.kind,aj u.label,aW<|u.head.map aQ,aW<|u.words.map aQ,aW<|u.kids.map aV]
/-- The unit is another: what is done below. -/
theorem Xm(g:Nat)(bs:List AV)(p:PId)(f:TUnit→TUnit)(u:TUnit)(hA:aq [eU u,aK p,.func (.func g) [] bs]=0)(hA2:(AV.func (.func g) [] bs).top=0)(hp:(ab u.act p.a&&(ab u.item p.i&&ab u.n p.n))=false)(hne:u.kids≠[])(hn:u.kids.length≤2^20)
    (hf:∀k,k∈u.kids→kP 93 [eU k,aK p] (.tuple [eU (eJ p k),.bool (cX p k)]))
    (ih:∀k,k∈u.kids→kP 164 [eU k,aK p,.func (.func g) [] bs] (eU (cR p f k))):kP 164 [eU u,aK p,.func (.func g) [] bs] (eU (jc u (eV p f u.kids))):=by
  have rr0:∀b',(h:(List.map aV (jc u (eV p f u.kids)).kids)=b':=by first|rfl|(rw[WN hx0.2 (by(first|omega|(simp only[oN]at *;omega))) (by rw[←q0 (by(first|omega|(simp only[oN]at *;omega)))];assumption),q0 (by(first|omega|(simp only[oN]at *;omega)))];exact congrArg _ (sP rfl (by(first|omega|(simp only[oN]at *;omega)))).symm)|(rw[WO hx0.2 (by(first|omega|(simp only[oN]at *;omega)))];exact congrArg _ (Rx rfl).symm))→(List.map aV (jc u (eV p f u.kids)).kids)=b':=(fun _ h=>h);exact bu (ht:=oA) Tryz.func164<|Kv 5 (lX ((Tryz.prog).underlying 25) u.act u.item u.n p.a p.i p.n<|ay [aZ 8 false 0 [aw [iV u.act,iV u.item,iV u.n,iV u.kind,aj u.label,aW<|u.head.map aQ,aW<|u.words.map aQ,aW<|u.kids.map aV]],aZ 3 false 0 [aw [iV p.a,iV p.i,iV p.n]],aZ 8 false 0 [aw [iV 0,iV 0,iV 0,iV 0,aj [],aa,aa,aa]]])<|Mh hp<|Mg 1<|Mq (DF u.kids hne hn (aZ 8 false 0 [aw [iV u.act,iV u.item,iV u.n,iV u.kind,aj u.label,aW<|u.head.map aQ,aW<|u.words.map aQ,aW<|u.kids.map aV]]) (aZ 3 false 0 [aw [iV p.a,iV p.i,iV p.n]])<|aZ 8 false 0 [aw [iV 0,iV 0,iV 0,iV 0,aj [],aa,aa,aa]]) fun a _=>Mg 3<|Y5 (0:Nat) [2,3,4,6,7,26,27,28] (fun b=>([bJ (bW g) [] bs,bY 0 0 0 0,bY 1 0 0 0,bY 2 0 0 0,aG 3 0 0 u.kids.length<|some<|u.kids.length+a,aG 3 0 0 u.kids.length<|some<|u.kids.length+a,nV u.kids.length,nV b],[aZ 8 false 0 [aw [iV u.act,iV u.item,iV u.n,iV u.kind,aj u.label,aW<|u.head.map aQ,aW<|u.words.map aQ,aW<|u.kids.map aV]],aZ 3 false 0 [aw [iV p.a,iV p.i,iV p.n]],aZ 8 false 0 [aw [iV 0,iV 0,iV 0,iV 0,aj [],aa,aa,aa]],aZ 8 false 0<|(u.kids++List.replicate a bv).map aV])) (fun a=>a≤u.kids.length∧i7 p f u.kids a (u.kids.drop a)) (fun a=>u.kids.length-a) (by simp_all[i7.start]) fun b hx0 c=>have hx0:b≤u.kids.length∧i7 p f u.kids b (u.kids.drop b):=hx0;have q0:b<u.kids.length→gD (u.kids++List.replicate a bv) b=gD u.kids b:=fun h=>Tw h;Ka 0 (Int.ofNat b) (Int.ofNat u.kids.length) (fun _ _=>K1 0 .rix (et (aU 0) (sA:b<u.kids.length))<|Mr (et (aU 0)<|qE aV (g:=Go.Ev.eU) aO (gR:b<(u.kids++List.replicate a bv).length))<|Kp 4 (hf (gD (u.kids++List.replicate a bv) b)<|by grind[jZ])<|Kb 6 (cX p<|gD (u.kids++List.replicate a bv) b) (fun _=>Kp 4 (ih (gD (u.kids++List.replicate a bv) b)<|by grind[jZ])<|M1 .rix (et (aU 0) (sA:b<u.kids.length))<|M1 (.rst (aw [iV (gD (u.kids++List.replicate a bv) b).act,iV (gD (u.kids++List.replicate a bv) b).item,iV (gD (u.kids++List.replicate a bv) b).n,iV (gD (u.kids++List.replicate a bv) b).kind,aj (gD (u.kids++List.replicate a bv) b).label,aW<|List.map aQ (gD (u.kids++List.replicate a bv) b).head,aW<|List.map aQ (gD (u.kids++List.replicate a bv) b).words,aW<|List.map aV (gD (u.kids++List.replicate a bv) b).kids])<|((u.kids++List.replicate a bv).set b<|cR p f<|gD (u.kids++List.replicate a bv) b).map aV) (cn (aU 0) (qE aV (g:=Go.Ev.eU) aO (gR:b<(u.kids++List.replicate a bv).length))<|CO (f:=aV) (g:=Go.Ev.eU) aO (l:=u.kids++List.replicate a bv) (i:=b) (w:=cR p f<|gD (u.kids++List.replicate a bv) b))<|Mg 0<|M2 (.fsl 3 [3,6] 48<|(((u.kids++List.replicate a bv).set b<|cR p f<|gD (u.kids++List.replicate a bv) b).take u.kids.length).map aV) (jF rt rt rt ti) (cn (aU 0) (Bw (f:=aV) (l:=(u.kids++List.replicate a bv).set b<|cR p f<|gD (u.kids++List.replicate a bv) b) (n:=u.kids.length))<|aX gN<|((u.kids++List.replicate a bv).set b<|cR p f<|gD (u.kids++List.replicate a bv) b).take u.kids.length)<|Ml 48 (fw ((((u.kids++List.replicate a bv).set b<|cR p f<|gD (u.kids++List.replicate a bv) b).take u.kids.length).map aV) (nP (some<|u.kids.length+a)<|some u.kids.length)<|aX gN<|((u.kids++List.replicate a bv).set b<|cR p f<|gD (u.kids++List.replicate a bv) b).take u.kids.length)<|Kf 3 (aL (.cons (ba _)<|.cons (ba _)<|.cons (ba _)<|.cons (ba _)<|.cons (ba _)<|.cons (ba _)<|.cons (ba _)<|.cons (cj<|rr0<|(((u.kids++List.replicate a bv).set b<|cR p f<|gD (u.kids++List.replicate a bv) b).take u.kids.length).map aV) .nil)<|by kernel_rfl:Le _ (AV.agg [iV u.act,iV u.item,iV u.n,iV u.kind,AV.str u.label,AV.ls (u.head.map aQ),AV.ls (u.words.map aQ),AV.ls ((((u.kids++List.replicate a bv).set b (cR p f (gD (u.kids++List.replicate a bv) b))).take u.kids.length).map aV)]))) fun _=>Kl 0 47 (iz b)<|Mg 0<|M2 (.frl 4 [3,4,6,7,26,27,28] [2]) (CV (NT (sz:=8) (op:=false) (ep:=0) (n:=4)<|aX gN<|u.kids++List.replicate a bv) rt rt rt ti) (et (oA:(AV.func (Fn.func g) [] bs).top≤4) ti)<|Mf<|c (b+1) (by grind[WM]) gR) fun _ _=>Mg 0<|M2 (.fsl 3 [3,6] 48<|((u.kids++List.replicate a bv).take u.kids.length).map aV) (jF rt rt rt ti) (cn (aU 0) (Bw (f:=aV) (l:=u.kids++List.replicate a bv) (n:=u.kids.length))<|aX gN<|(u.kids++List.replicate a bv).take u.kids.length)<|Ml 48 (fw (((u.kids++List.replicate a bv).take u.kids.length).map aV) (nP (some<|u.kids.length+a)<|some u.kids.length)<|aX gN<|(u.kids++List.replicate a bv).take u.kids.length)<|Kf 3 (aL (.cons (ba _)<|.cons (ba _)<|.cons (ba _)<|.cons (ba _)<|.cons (ba _)<|.cons (ba _)<|.cons (ba _)<|.cons (cj<|rr0<|((u.kids++List.replicate a bv).take u.kids.length).map aV) .nil)<|by kernel_rfl:Le _ (AV.agg [iV u.act,iV u.item,iV u.n,iV u.kind,AV.str u.label,AV.ls (u.head.map aQ),AV.ls (u.words.map aQ),AV.ls (((u.kids++List.replicate a bv).take u.kids.length).map aV)]))
theorem gP{g:Nat}{bs:List AV}{p:PId}(hb:aq bs=0)(x:TUnit):aq [eU x,aK p,.func (.func g) [] bs]=0:=by
  have h1:(eU x).top=0:=by rw[←aO];exact gN x
  have h2:(AV.func (.func g) [] bs).top=0:=by simp only[AV.top,aq,hb];rfl
  exact jL.2 fun y hy=>by
    simp only[fO,List.mem_nil_iff,or_false]at hy
    rcases hy with rfl|rfl|rfl
    · omega
    · exact Io p
    omega
/-- with: the first unit of the number is changed, wherever it stands. -/
theorem oy(g:Nat)(bs:List AV)(p:PId)(f:TUnit→TUnit)(hb:aq bs=0):∀(u:TUnit),nU u≤2^19→(∀x,x∈bg u→x.head.length<2^30∧x.words.length<2^30)→
    (∀v,v∈bg u→fc p v=true→kP 164 [eU v,aK p,.func (.func g) [] bs] (eU (f v)))→kP 164 [eU u,aK p,.func (.func g) [] bs] (eU (cR p f u)):=by
  refine TUnit.ind fun u ih hn ht hit=>?_
  have hA:=gP (g:=g) (bs:=bs) (p:=p) hb
  cases hi:fc p u with
  |true=>grind[qn,dY]
  | false=>
    have hkl:=bd u
    rw[kc hi]
    by_cases h0:u.kids=[]
    · have e:jc u (eV p f u.kids)=u:=by rw[h0,rB];cases u;simp only[TUnit.kids]at h0;subst h0;rfl
      rw[e]
      exact Xn g bs p u (hA u) (by simp only[AV.top,aq,hb];rfl) hi (by simp_all) (by rw[h0];rfl)
    · exact Xm g bs p f u (hA u) (by simp only[AV.top,aq,hb];rfl) hi h0 (by omega) (fun k hk=>QW p k (by have:=ib hk;omega) fun x hx=>ht x (bC hk hx))
        fun k hk=>ih k hk (by have:=ib hk;omega) (fun x hx=>ht x (bC hk hx)) fun v hv=>hit v (bC hk hv)
theorem AY{bs:List AV}(rs:List Nat)(h0:fe rs 0=0)(hb:aq bs=0):ld (fe rs) (.ptr 0 0 0 0::bs)=.ptr 0 0 0 0::bs:=by
  grind[ld,Ev.ren,eE]
theorem zH{g:Nat}{bs:List AV}{u u2:TUnit}{n n2 c:Nat}{X X2:List AV}{A B:AObj}(hb:aq bs=0)(hX:aq X=0)(hX2:aq X2=0)(h:kD g (.ptr 0 0 0 0::bs) (ay [dm u (.slice 1 0 0 n (some c)),dn X]) (.tuple []) (ay [dm u2 (.slice 1 0 0 n2 (some c)),dn X2])):
    kD g (.ptr 0 0 0 0::bs) (ay [dm u (.slice 3 0 0 n (some c)),A,B,dn X]) (.tuple []) (ay [dm u2 (.slice 3 0 0 n2 (some c)),A,B,dn X2]):=
  pW gF [0,3] h (AY _ rfl hb) rfl rfl ⟨⟨rfl,ub (by kernel_rfl)⟩,⟨rfl,by show aq X≤2;omega⟩,trivial⟩ ⟨⟨rfl,ub (by kernel_rfl)⟩,⟨rfl,by show aq X2≤2;omega⟩,trivial⟩
    (by show Nat.mx _ (aq bs)≤2;rw[hb];exact ub (by kernel_rfl)) (bD _) ⟨by kernel_rfl,by rw[uE hX];kernel_rfl,trivial⟩ ⟨by kernel_rfl,by kernel_rfl,trivial⟩
    (by show _=AHeap.put (AHeap.put _ _ _) _ (jP _ (.row 8 false 0 X2));rw[uE hX2];kernel_rfl)
theorem Cw{g:Nat}{bs:List AV}{u u2:TUnit}{n c:Nat}{X Y:List AV}{A B:AObj}(hb:aq bs=0)(hX:aq X=0)(h:kD g (.ptr 0 0 0 0::bs) (ay [dm u (.slice 1 0 0 n (some c)),dn X]) (.tuple []) (ay [dm u2 (.ls Y),dn X])):
    kD g (.ptr 0 0 0 0::bs) (ay [dm u (.slice 3 0 0 n (some c)),A,B,dn X]) (.tuple []) (ay [dm u2 (.ls Y),A,B,dn X]):=
  pW gF [0,3] h (AY _ rfl hb) rfl rfl ⟨⟨rfl,ub (by kernel_rfl)⟩,⟨rfl,by show aq X≤2;omega⟩,trivial⟩ ⟨⟨rfl,ub (by kernel_rfl)⟩,⟨rfl,by show aq X≤2;omega⟩,trivial⟩
    (by show Nat.mx _ (aq bs)≤2;rw[hb];exact ub (by kernel_rfl)) (bD _) ⟨by kernel_rfl,by rw[uE hX];kernel_rfl,trivial⟩ ⟨by kernel_rfl,by kernel_rfl,trivial⟩
    (by show _=AHeap.put (AHeap.put _ _ _) _ (jP _ (.row 8 false 0 X));rw[uE hX];kernel_rfl)
theorem jC{g:Nat}{bs:List AV}{u u2:TUnit}{A B:AObj}{K K2:AV}(hb:aq bs=0)(h1:aq [.agg [iV u.act,iV u.item,iV u.n,iV u.kind,.str u.label,.ls (u.head.map aQ),.ls (u.words.map aQ),K]]=0)(h2:aq [.agg [iV u2.act,iV u2.item,iV u2.n,iV u2.kind,.str u2.label,.ls (u2.head.map aQ),.ls (u2.words.map aQ),K2]]=0)(h:kD g (.ptr 0 0 0 0::bs) (ay [dm u K]) (.tuple []) (ay [dm u2 K2])):
    kD g (.ptr 0 0 0 0::bs) (ay [dm u K,A,B]) (.tuple []) (ay [dm u2 K2,A,B]):=
  fZ gF 0 h1 h2 h (AY _ rfl hb) rfl rfl (by simp only[aq,AV.top,hb];rfl) rfl (by kernel_rfl) (by kernel_rfl)
/-- The unit is found; it has kids; a kid more is laid into its row, or into a new one. -/
theorem J9(g:Nat)(bs:List AV)(p:PId)(u u2:TUnit)(n2:Nat)(Z:Nat→List AV)(hA:aq [eU u,aK p,.func (.func g) [] bs]=0)(hp:(ab u.act p.a&&(ab u.item p.i&&ab u.n p.n))=true)(hl:u.kids.length≤2^20)(hne:u.kids≠[])(hn2:u2.kids.length=n2)
    (hdA:∀k,By (Nat.beq k 0) true→kD g (.ptr 0 0 0 0::bs) (ay [dm u (.slice 3 0 0 u.kids.length (some (u.kids.length+k))),uI p,zO,dn ((u.kids++List.replicate k bv).map aV)]) (.tuple []) (ay [dm u2 (.ls (u2.kids.map aV)),uI p,zO,dn ((u.kids++List.replicate k bv).map aV)]))
    (hdB:∀k,By (Nat.beq k 0) false→kD g (.ptr 0 0 0 0::bs) (ay [dm u (.slice 3 0 0 u.kids.length (some (u.kids.length+k))),uI p,zO,dn ((u.kids++List.replicate k bv).map aV)]) (.tuple []) (ay [dm u2 (.slice 3 0 0 n2 (some (u.kids.length+k))),uI p,zO,dn (u2.kids.map aV++Z k)])):kP 164 [eU u,aK p,.func (.func g) [] bs] (eU u2):=by
  let q:=aw [iV u2.act,iV u2.item,iV u2.n,iV u2.kind,aj u2.label,aW (u2.head.map aQ),aW (u2.words.map aQ),aW (u2.kids.map aV)];let q1:=[aw [iV u.act,iV u.item,iV u.n,iV u.kind,aj u.label,aW (u.head.map aQ),aW (u.words.map aQ),aW (u.kids.map aV)]];let q2:=[iV p.a,iV p.i,iV p.n];let q3:=[aw [iV 0,iV 0,iV 0,iV 0,aj [],aa,aa,aa]];exact bu (ht:=oA) Tryz.func164<|Kv 5 (lX ((Tryz.prog).underlying 25) u.act u.item u.n p.a p.i p.n<|ay [aZ 8 false 0 q1,aZ 3 false 0 [aw q2],aZ 8 false 0 q3])<|Mt hp<|Mg 1<|Mq (DF u.kids hne hl (aZ 8 false 0 q1) (aZ 3 false 0 [aw q2])<|aZ 8 false 0 q3) fun a _=>Ks 2 (a.beq 0) (fun b=>Me (hdA a b)<|Kf 1<|ba q) fun b=>Me (hdB a b)<|M2 (.fza 0 7 3 [3,6]<|u2.kids.map aV) (jF rt rt rt ti) (cn (aU 0) (N3 (xs:=List.map aV u2.kids) (ys:=Z a) (n:=n2) sA)<|aX gN u2.kids)<|Kf 1<|ba q
/-- The unit is found; it has no kids; it gets one. -/
theorem KQ(g:Nat)(bs:List AV)(p:PId)(u u2:TUnit)(hA:aq [eU u,aK p,.func (.func g) [] bs]=0)(hp:(ab u.act p.a&&(ab u.item p.i&&ab u.n p.n))=true)(h0:u.kids=[])
    (hdN:kD g (.ptr 0 0 0 0::bs) (ay [dm u .nils,uI p,zO]) (.tuple []) (ay [dm u2 (.ls (u2.kids.map aV)),uI p,zO]))
    (hdP:kD g (.ptr 0 0 0 0::bs) (ay [dm u (.ps [] true),uI p,zO]) (.tuple []) (ay [dm u2 (.ls (u2.kids.map aV)),uI p,zO])):kP 164 [eU u,aK p,.func (.func g) [] bs] (eU u2):=by
  obtain⟨a,i,n,k,l,h,w,ks⟩:=u
  simp only[TUnit.kids]at h0
  subst h0
  let q:=aw [iV u2.act,iV u2.item,iV u2.n,iV u2.kind,aj u2.label,aW (u2.head.map aQ),aW (u2.words.map aQ),aW (u2.kids.map aV)];let q1:=[iV p.a,iV p.i,iV p.n];exact bu (ht:=oA) Tryz.func164<|Kv 5 (lX ((Tryz.prog).underlying 25) (TUnit.mk a i n k l h w []).act (TUnit.mk a i n k l h w []).item (TUnit.mk a i n k l h w []).n p.a p.i p.n<|ay [aZ 8 false 0 [aw [iV (TUnit.mk a i n k l h w []).act,iV (TUnit.mk a i n k l h w []).item,iV (TUnit.mk a i n k l h w []).n,iV (TUnit.mk a i n k l h w []).kind,aj l,aW<|List.map aQ (TUnit.mk a i n k l h w []).head,aW<|List.map aQ (TUnit.mk a i n k l h w []).words,aW []]],aZ 3 false 0 [aw q1],aZ 8 false 0 [aw [iV 0,iV 0,iV 0,iV 0,aj [],aa,aa,aa]]])<|Mt hp<|Mg 1<|Mz 17 (fun(_:([]:List AV)=[])=>Mp GH<|Ke 2 hdN<|Kf 1<|ba q)<|Mp GG<|Ke 2 hdP<|Kf 1<|ba q
theorem jI{a b:List AV}(h1:aq a=0)(h2:aq b=0):aq (a++b)=0:=jL.2 fun x hx=>by
  rcases ji.1 hx with h|h
  · exact jL.1 h1 x h
  · exact jL.1 h2 x h
theorem QX(l:List TUnit):dh 8 (l.map aV)=true:=gj (fun u=>by cases u;rfl) l
theorem Td(x:TUnit):dh 8 [eU x]=true:=by kernel_rfl
theorem MH(x:TUnit):(eU x).top=0:=by rw[←aO];exact gN x
theorem sF{i:Nat}{x:TUnit}{l:List AV}(h:aq l=0):aq (gx i (eU x) l)=0:=jL.2 fun y hy=>by
  unfold gx at hy
  rcases ji.1 hy with h1|h1
  · exact jL.1 h y (su h1)
  · rcases fO.1 h1 with rfl|h1
    · exact MH x
    · exact jL.1 h y (Nn h1)
theorem J6(i:Nat)(x:TUnit)(l:List TUnit):(wq i x l).map aV=gx i (eU x) (l.map aV):=by
  unfold wq gx
  rw[pn,ej,List.map_take,List.map_drop,aO]
theorem Kg(i:Nat)(l:List TUnit):(l.eraseIdx i).map aV=(l.map aV).eraseIdx i:=by
  grind[List.eraseIdx_eq_take_drop_succ,List.map_take,List.map_drop]
theorem BR{i:Nat}{x:TUnit}{l:List TUnit}(h:i≤l.length):(wq i x l).length=l.length+1:=by
  grind[wq]
theorem Ft(l:List TUnit)(k:Nat):(l++List.replicate k bv).map aV=l.map aV++List.replicate k (aV bv):=by simp_all
theorem lE(k:Nat):aq (List.replicate k (aV bv))=0:=by rw[←List.map_replicate];exact aX gN _
/-- A kid is taken out. -/
theorem NF(p:PId)(i:Nat)(u:TUnit)(hn:nU u≤2^19)(ht:∀x,x∈bg u→x.head.length<2^30∧x.words.length<2^30)(hv:∀v,v∈bg u→fc p v=true→i<v.kids.length):
    aI Tryz.prog G 164 [eU u,aK p,.func (.func 246) [] [.pptr [.int .i64 (.ofNat i)] 0 0]] (eU (cR p (gw i) u)):=by
  refine oy _ _ p (gw i) rfl u hn ht fun v hm hid=>?_
  have hi:=hv v hm hid
  have hkl:=bd v
  have hvu:=dE hm
  have hl:v.kids.length≤2^20:=by omega
  refine TW _ _ p v (gw i v) (v.kids.length-1) (fun k=>zU::List.replicate k (aV bv)) (gP rfl v) hid hl (fun e=>by grind) (by show(v.kids.eraseIdx i).length=_;grind) fun k=>?_
  have h:=Qn (v.kids.map aV) (List.replicate k (aV bv)) v.kids.length i hi (b6 _) hl (QX _) (jI (aX gN _) (lE k))
  rw[pp]at h
  have hT:aq ((v.kids.map aV).eraseIdx i++(zU::List.replicate k (aV bv)))=0:=jI (by rw[←Kg];exact aX gN _) (by show Nat.mx zU.top (aq _)=0;rw[lE];rfl)
  rw[Ft]
  show aE _ _ _ _ _ fun v1 h1=>v1=.tuple []∧h1=ay [dm v (.slice 3 0 0 (v.kids.length-1) (some (v.kids.length+k))),uI p,zO,dn ((v.kids.eraseIdx i).map aV++_)]
  rw[Kg]
  refine zH rfl (jI (aX gN _) (lE k)) hT (WL v v.kids.length _ i _ _ (jI (aX gN _) (lE k)) hT hi hl ?_)
  exact fZ gF 1 (jI (aX gN _) (lE k)) hT h rfl rfl (by simp_all) (by kernel_rfl) (by kernel_rfl) (by kernel_rfl) (by kernel_rfl)
theorem VW(x:TUnit)(t:Bool)(off len c:Nat)(X:List AV):kD 244 [.ps [eU x] t,.slice 0 0 off len (some c)] (ay [dn X]) (.bool false) (ay [dn X]):=
  AA (tS:=36) (tR:=4) (e:=38) (n:=8) Tryz.func244 (by kernel_rfl) (by kernel_rfl) (by kernel_rfl) (by kernel_rfl) (by simp_all) (by kernel_rfl) (pK _ _) (by kernel_rfl:(ay [dn X]).get 0=some (.row 8 false 0 X))
/-- A kid laid into a row that has room. -/
theorem FE(L:List AV)(x:TUnit)(z:AV)(Z:List AV)(n k i:Nat)(hi:i≤n)(hn:L.length=n)(hs:n<2^20)(hk:Z.length=k)(hf:dh 8 L=true)(hT:aq (L++z::Z)=0):kD 166 [.slice 0 0 0 n (some (n+(k+1))),nV i,.ps [eU x] true] (ay [dn (L++z::Z)]) (.slice 0 0 0 (n+1) (some (n+(k+1)))) (ay [dn (gx i (eU x) L++Z)]):=by
  rcases eH i n with h|h
  · grind[Ph,Td,VW]
  · obtain rfl:i=n:=by omega
    exact Pm L Z (eU x) z true i k hn hs hk (Td x)
theorem FH(L:List AV)(x:TUnit)(n i:Nat)(hi:i≤n)(hn:L.length=n)(hs:n<2^20)(hf:dh 8 L=true)(hT:aq L=0):kD 166 [.slice 0 0 0 n (some n),nV i,.ps [eU x] true] (ay [dn L]) (.ls (gx i (eU x) L)) (ay [dn L]):=by
  rcases eH i n with h|h
  · refine Pg L (eU x) true n i h hn hs (Td x) hf hT (jL.2 fun y hy=>?_) (sF hT)
    rcases ji.1 hy with h1|h1
    · exact jL.1 hT y (su h1)
    · rcases fO.1 h1 with rfl|h1
      · exact MH x
      · rw[(List.mem_replicate.1 h1).2];rfl
  · grind[Pi,Td,sF]
/-- A kid is laid in. -/
theorem ND(p:PId)(i:Nat)(x u:TUnit)(hn:nU u≤2^19)(ht:∀x,x∈bg u→x.head.length<2^30∧x.words.length<2^30)(hv:∀v,v∈bg u→fc p v=true→i≤v.kids.length):
    aI Tryz.prog G 164 [eU u,aK p,.func (.func 165) [] [.pptr [.int .i64 (.ofNat i)] 0 0,.pptr [eU x] 0 0]] (eU (cR p (dc i x) u)):=by
  have hb:aq [.pptr [.int .i64 (.ofNat i)] 0 0,.pptr [eU x] 0 0]=0:=by kernel_rfl
  refine oy _ _ p (dc i x) hb u hn ht fun v hm hid=>?_
  have hi:=hv v hm hid
  have hkl:=bd v
  have hvu:=dE hm
  have hl:v.kids.length<2^20:=by omega
  have hK:=aX gN v.kids
  by_cases h0:v.kids=[]
  · rw[h0]at hi
    obtain rfl:i=0:=by simp_all
    have e:(dc 0 x v).kids =[x]:=by show wq 0 x v.kids=[x];rw[h0];rfl
    have e2:(dc 0 x v).kids.map aV=[eU x]:=by rw[e,ej,aO];rfl
    refine KQ _ _ p v (dc 0 x v) (gP hb v) hid h0 ?_ ?_
    · rw[e2];exact jC (u2:=dc 0 x v) hb (by kernel_rfl) (by kernel_rfl) (Vu v x [eU x] (FG x true))
    · rw[e2];exact jC (u2:=dc 0 x v) hb (by kernel_rfl) (by kernel_rfl) (Vt v x [eU x] (FF x true))
  · have e2:(dc i x v).kids.map aV=gx i (eU x) (v.kids.map aV):=J6 i x v.kids
    refine J9 _ _ p v (dc i x v) (v.kids.length+1) (fun k=>List.replicate (k-1) (aV bv)) (gP hb v) hid (by omega) h0 (BR hi) (fun k hk=>?_) fun k hk=>?_
    · obtain rfl:k=0:=pU hk
      rw[e2,Ft,List.replicate_zero,dr]
      refine Cw (u2:=dc i x v) hb hK (VA v x v.kids.length _ i _ _ hK ?_)
      exact fZ gF 1 hK hK (FH (v.kids.map aV) x v.kids.length i hi (b6 _) hl (QX _) hK) rfl rfl (by simp_all) (by kernel_rfl) (by kernel_rfl) (by kernel_rfl) (by kernel_rfl)
    · obtain⟨j,rfl⟩:∃j,k=j+1:=⟨k-1,by grind[Nat.ne_of_beq_eq_false]⟩
      rw[e2,Ft,show j+1-1=j from rfl,List.replicate_succ]
      have hT:aq (v.kids.map aV++aV bv::List.replicate j (aV bv))=0:=by rw[←List.replicate_succ];grind[jI,lE]
      have hT2:aq (gx i (eU x) (v.kids.map aV)++List.replicate j (aV bv))=0:=jI (sF hK) (lE _)
      refine zH (u2:=dc i x v) hb hT hT2 (VB v x v.kids.length _ i _ _ hT hT2 ?_)
      exact fZ gF 1 hT hT2 (FE (v.kids.map aV) x (aV bv) (List.replicate j (aV bv)) v.kids.length j i hi (b6 _) hl (pp ..) (QX _) hT) rfl rfl (by simp_all) (by kernel_rfl) (by kernel_rfl) (by kernel_rfl) (by kernel_rfl)
/-- A kid is laid in. -/
theorem NB(p:PId)(i:Nat)(x u:TUnit)(hn:nU u≤2^19)(ht:∀x,x∈bg u→x.head.length<2^30∧x.words.length<2^30)(hv:∀v,v∈bg u→fc p v=true→i≤v.kids.length):
    aI Tryz.prog G 164 [eU u,aK p,.func (.func 176) [] [.pptr [.int .i64 (.ofNat i)] 0 0,.pptr [eU x] 0 0]] (eU (cR p (dc i x) u)):=by
  have hb:aq [.pptr [.int .i64 (.ofNat i)] 0 0,.pptr [eU x] 0 0]=0:=by kernel_rfl
  refine oy _ _ p (dc i x) hb u hn ht fun v hm hid=>?_
  have hi:=hv v hm hid
  have hkl:=bd v
  have hvu:=dE hm
  have hl:v.kids.length<2^20:=by omega
  have hK:=aX gN v.kids
  by_cases h0:v.kids=[]
  · rw[h0]at hi
    obtain rfl:i=0:=by simp_all
    have e:(dc 0 x v).kids =[x]:=by show wq 0 x v.kids=[x];rw[h0];rfl
    have e2:(dc 0 x v).kids.map aV=[eU x]:=by rw[e,ej,aO];rfl
    refine KQ _ _ p v (dc 0 x v) (gP hb v) hid h0 ?_ ?_
    · rw[e2];exact jC (u2:=dc 0 x v) hb (by kernel_rfl) (by kernel_rfl) (Vv v x [eU x] (FG x true))
    · rw[e2];exact jC (u2:=dc 0 x v) hb (by kernel_rfl) (by kernel_rfl) (Vw v x [eU x] (FF x true))
  · have e2:(dc i x v).kids.map aV=gx i (eU x) (v.kids.map aV):=J6 i x v.kids
    refine J9 _ _ p v (dc i x v) (v.kids.length+1) (fun k=>List.replicate (k-1) (aV bv)) (gP hb v) hid (by omega) h0 (BR hi) (fun k hk=>?_) fun k hk=>?_
    · obtain rfl:k=0:=pU hk
      rw[e2,Ft,List.replicate_zero,dr]
      refine Cw (u2:=dc i x v) hb hK (Vy v x v.kids.length _ i _ _ hK ?_)
      exact fZ gF 1 hK hK (FH (v.kids.map aV) x v.kids.length i hi (b6 _) hl (QX _) hK) rfl rfl (by simp_all) (by kernel_rfl) (by kernel_rfl) (by kernel_rfl) (by kernel_rfl)
    · obtain⟨j,rfl⟩:∃j,k=j+1:=⟨k-1,by grind[Nat.ne_of_beq_eq_false]⟩
      rw[e2,Ft,show j+1-1=j from rfl,List.replicate_succ]
      have hT:aq (v.kids.map aV++aV bv::List.replicate j (aV bv))=0:=by rw[←List.replicate_succ];grind[jI,lE]
      have hT2:aq (gx i (eU x) (v.kids.map aV)++List.replicate j (aV bv))=0:=jI (sF hK) (lE _)
      refine zH (u2:=dc i x v) hb hT hT2 (Va v x v.kids.length _ i _ _ hT hT2 ?_)
      exact fZ gF 1 hT hT2 (FE (v.kids.map aV) x (aV bv) (List.replicate j (aV bv)) v.kids.length j i hi (b6 _) hl (pp ..) (QX _) hT) rfl rfl (by simp_all) (by kernel_rfl) (by kernel_rfl) (by kernel_rfl) (by kernel_rfl)
theorem Nt(p:PId)(l:List PWord)(u:TUnit)(hn:nU u≤2^19)(ht:∀x,x∈bg u→x.head.length<2^30∧x.words.length<2^30):
    kP 164 [eU u,aK p,.func (.func 169) [] [.pptr [.ls (l.map aQ)] 0 0]] (eU (cR p (lu l) u)):=by
  have hb:aq [.pptr [.ls (l.map aQ)] 0 0]=0:=by kernel_rfl
  refine oy _ _ p (lu l) hb u hn ht fun v hm hid=>?_
  have hkl:=bd v
  have hvu:=dE hm
  exact xl _ _ p v ((lu l) v) (gP hb v) hid (by omega) (jC hb (by kernel_rfl) (by kernel_rfl) (WH v l))
theorem NA(p:PId)(l:List PWord)(u:TUnit)(hn:nU u≤2^19)(ht:∀x,x∈bg u→x.head.length<2^30∧x.words.length<2^30):
    kP 164 [eU u,aK p,.func (.func 171) [] [.pptr [.ls (l.map aQ)] 0 0]] (eU (cR p (lu l) u)):=by
  have hb:aq [.pptr [.ls (l.map aQ)] 0 0]=0:=by kernel_rfl
  refine oy _ _ p (lu l) hb u hn ht fun v hm hid=>?_
  have hkl:=bd v
  have hvu:=dE hm
  exact xl _ _ p v ((lu l) v) (gP hb v) hid (by omega) (jC hb (by kernel_rfl) (by kernel_rfl) (XZ v l))
theorem NE(p:PId)(l:List PWord)(u:TUnit)(hn:nU u≤2^19)(ht:∀x,x∈bg u→x.head.length<2^30∧x.words.length<2^30):
    kP 164 [eU u,aK p,.func (.func 173) [] [.pptr [.ls (l.map aQ)] 0 0]] (eU (cR p (zw l) u)):=by
  have hb:aq [.pptr [.ls (l.map aQ)] 0 0]=0:=by kernel_rfl
  refine oy _ _ p (zw l) hb u hn ht fun v hm hid=>?_
  have hkl:=bd v
  have hvu:=dE hm
  exact xl _ _ p v ((zw l) v) (gP hb v) hid (by omega) (jC hb (by kernel_rfl) (by kernel_rfl) (XE v l))
theorem Nu(p:PId)(d:PDeed)(u:TUnit)(hn:nU u≤2^19)(ht:∀x,x∈bg u→x.head.length<2^30∧x.words.length<2^30):
    kP 164 [eU u,aK p,.func (.func 175) [] [.pptr [aY d] 0 0]] (eU (cR p (oR d.it.label) u)):=by
  have hb:aq [.pptr [aY d] 0 0]=0:=by kernel_rfl
  refine oy _ _ p (oR d.it.label) hb u hn ht fun v hm hid=>?_
  have hkl:=bd v
  have hvu:=dE hm
  exact xl _ _ p v ((oR d.it.label) v) (gP hb v) hid (by omega) (jC hb (by kernel_rfl) (by kernel_rfl) (W8 v d))
end Go.Proofs.YtiodnhiainjfgaaGreatDoor
