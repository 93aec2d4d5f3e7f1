/- Functions walked: what each of them answers, for the law that a unit's authors are among its contributors: part 8. Conditions: those that each theorem names. -/
import Derived.Test.YtadodlkibeofjaaGreatDoorH7
import Derived.Shelf.Strconv.Itoa3
namespace Go.Proofs.YtadodlkibeofjaaGreatDoor
open Go Go.Ev
def Nd(l:List PAct):Prop:=(l.map (·.number)).Nodup
theorem TP{out:List PAct}{a:PAct}(h:Nd out):Nd (ja out a):=by
  unfold ja
  cases q:gh a.number (out.map fun b=>(b.number,true))with
  |some v=>exact h
  | none=>
    unfold Nd
    rw[oJ,yO]
    refine⟨h,by simp,fun x hx y hy=>?_⟩
    obtain⟨b,hb,rfl⟩:=gn.1 hx
    simp only[eg,wg,ig]at hy
    rw[hy];exact ot (out:=out) q b hb
theorem F0:∀(ys out:List PAct),Nd out->Nd (ys.foldl ja out)
  |[],_,h=>h
  |_::r,_,h=>F0 r _ (TP h)
theorem Dj:∀(gs:List PGaz)(out:List PAct),Nd out->Nd (bV gs out)
  |[],_,h=>h
  |g::r,_,h=>Dj r _ (F0 g.acts _ h)
theorem Wd(gs:List PGaz):(dr gs).Pairwise fun a b=>fU a b=true:=by
  have h1:=(tP iP (bV gs []) [] .nil).2
  have h2:Nd (dr gs):=((iO gs).map _).nodup_iff.2 (Dj gs [] (by simp[Nd]))
  have h3:(dr gs).Pairwise fun a b=>a.number≠b.number:=List.pairwise_map.1 h2
  refine(List.Pairwise.and h1 h3).imp fun{a b} h=>?_
  obtain⟨p,q⟩:=h
  rw[lz]
  rw[<-Bool.not_eq_true,lz]at p
  omega
def Pn(d e:PDeed):Prop:=d.day<e.day\/(d.day=e.day/\(d.act<e.act\/(d.act=e.act/\d.item<e.item)))
theorem na(a:PAct):∀(l:List PItem)(i:Nat),(b6 a l i).Pairwise Pn/\∀d,d∈b6 a l i->d.act=a.number/\d.day=a.day/\Int.ofNat i<=d.item
  |[],_=>⟨.nil,fun _ h=>by cases h⟩
  | x::r,i=>by
    obtain⟨h1,h2⟩:=na a r (i+1)
    refine⟨.cons (fun d hd=>?_) h1,fun d hd=>?_⟩
    · obtain⟨q1,q2,q3⟩:=h2 d hd
      exact .inr ⟨q2.symm,.inr ⟨q1.symm,by simp only[oN]at *;omega⟩⟩
    · rcases dO.1 hd with rfl|hd
      · exact⟨rfl,rfl,Int.le_refl _⟩
      · obtain⟨q1,q2,q3⟩:=h2 d hd
        exact⟨q1,q2,by simp only[oN]at *;omega⟩
theorem xC:∀(L:List PAct),(L.Pairwise fun a b=>fU a b=true)->(ku L).Pairwise Pn
  |[],_=>.nil
  | a::r,h=>by
    cases h with
    | cons h1 h2=>
      rw[ku,CW,List.pairwise_append]
      refine⟨(na a _ 0).1,xC r h2,fun d hd e he=>?_⟩
      obtain⟨b,hb,he⟩:=List.mem_flatMap.1 he
      have z:=(lz a b).1 (h1 b hb)
      obtain⟨p1,p2,_⟩:=(na a _ 0).2 d hd
      obtain⟨q1,q2,_⟩:=(na b _ 0).2 e he
      unfold Pn;omega
theorem EF(m:tc)(d:PDeed):(lH m d).act=d.act/\(lH m d).item=d.item/\(lH m d).day=d.day:=by
  unfold lH;split<;>exact⟨rfl,rfl,rfl⟩
theorem Hm(day:Int)(p:aH)(gs:List PGaz):(fE day p gs).Pairwise Pn:=by
  have h:(rV gs).Pairwise Pn:=List.pairwise_map.2 ((xC _ (Wd gs)).imp fun{d e} h=>by
    have h1:=EF (al (dr gs) []) d
    have h2:=EF (al (dr gs) []) e
    unfold Pn at *;omega)
  exact h.filter _
theorem rB{day:Int}{p:aH}{gs:List PGaz}{d:PDeed}(h:d∈fE day p gs):∃a,a∈dr gs/\a.number=d.act/\a.day=d.day:=by
  obtain⟨o,ho,rfl⟩:=gn.1 (tf.1 h).1
  obtain⟨a,ha,hoa⟩:=List.mem_flatMap.1 ho
  obtain⟨q1,q2,_⟩:=(na a _ 0).2 o hoa
  obtain⟨p1,_,p3⟩:=EF (al (dr gs) []) o
  exact⟨a,ha,by omega,by omega⟩
theorem DI{gs:List PGaz}{a b:PAct}(ha:a∈dr gs)(hb:b∈dr gs)(e:a.number=b.number):a=b:=
  qS gs [] (fun _ _ h=>by cases h) a b ((iO gs).mem_iff.1 ha) ((iO gs).mem_iff.1 hb) e
theorem DA:∀(l m:List PDeed)(u:TUnit),bR u (l++m)=bR (bR u l) m
  |[],_,_=>rfl
  |d::r,m,u=>DA r m (jM u d)
theorem Hh{α:Type}[Inhabited α]{l:List α}{i:Nat}(h:i<l.length):gD l i=l[i]:=by simp[gD,List.getD,kE h]
theorem TS{α:Type}[Inhabited α]{l:List α}{k:Nat}(h:k<l.length):l.take (k+1)=l.take k++[gD l k]:=by
  rw[Hh h,List.take_append_getElem h]
theorem AE:∀(l:List PDeed)(u:TUnit)(e:PFail),e∈eJ u l↔∃k,k<l.length/\e∈ud (bR u (l.take k)) (gD l k)
  |[],u,e=>⟨(fun h=>by cases h),fun⟨k,h,_⟩=>absurd h (pG _)⟩
  | d::r,u,e=>by
    rw[eJ,fK,AE r (jM u d) e]
    constructor
    · rintro(h|⟨k,h1,h2⟩)
      · exact⟨0,qK _,h⟩
      · exact⟨k+1,Cj h1,h2⟩
    · rintro⟨k,h1,h2⟩
      cases k with
      |zero=>exact .inl h2
      |succ k=>exact .inr ⟨k,Nat.lt_of_succ_lt_succ h1,h2⟩
theorem KT{day:Int}{p:aH}{gs:List PGaz}{d:PDeed}(h:d∈fE day p gs):mX d.it.kind=true:=(oK.1 (tf.1 h).2).1
theorem Lj{X:List PDeed}(h:X.Pairwise Pn){k j:Nat}(hk:k<j)(hj:j<X.length):Pn (gD X k) (gD X j):=by
  rw[Hh hj,Hh (show k<X.length by omega)]
  exact Fo.1 h k j (by omega) hj hk
theorem Vy{gs:List PGaz}(ok:OkG gs)(day:Int)(p:aH):∀k,k<(fE day p gs).length->kP 23 [iV day,.str p,Gh (gD (fE day p gs) k).act (gD (fE day p gs) k).item,.ls (gs.map ae)] (.bool (ay (di (bR jv ((fE day p gs).take k)) (gD (fE day p gs) k)).2 0)):=by
  obtain⟨hl,hi,ho⟩:=ok.force day p
  have hup:=Hm day p gs
  have ham:∀d,d∈fE day p gs->mX d.it.kind=true:=fun d h=>KT h
  have hac:∀d,d∈fE day p gs->∃a,a∈dr gs/\a.number=d.act/\a.day=d.day:=fun d h=>rB h
  have hfl:=ok.fails day p
  generalize fE day p gs=X at *
  have hr:=E5 gs day p X ho
  have hmem:∀k,k<X.length->gD X k∈X:=fun k hk=>dZ hk
  intro k hk
  have hf:=wY X jv
  have z:=Ve gs day p (gD X k).act (gD X k).item X _ hr hfl hl (by omega)
  have e1:X.any (tk (gD X k).act (gD X k).item)=true:=qx.2 ⟨_,hmem k hk,by unfold tk;rw[bQ,bQ];rfl⟩
  have hmi:∀j,j<X.length->ud (bR jv (X.take j)) (gD X j)=bif ay (di (bR jv (X.take j)) (gD X j)).2 0 then[]else[⟨(gD X j).act,(gD X j).item,(di (bR jv (X.take j)) (gD X j)).2⟩]:=fun j hj=>by
    unfold ud;rw[ham _ (hmem j hj)];rfl
  have e2:(eJ jv X).any (It (gD X k).act (gD X k).item)=ax (ay (di (bR jv (X.take k)) (gD X k)).2 0):=by
    cases q:ay (di (bR jv (X.take k)) (gD X k)).2 0 with
    | false=>
      refine qx.2 ⟨⟨(gD X k).act,(gD X k).item,(di (bR jv (X.take k)) (gD X k)).2⟩,(AE X jv _).2 ⟨k,hk,?_⟩,by unfold It;simp only[bQ];rfl⟩
      rw[hmi k hk,q];exact ig.2 rfl
    | true=>
      refine List.any_eq_false.2 fun e he h=>?_
      obtain⟨j,hj,hm⟩:=(AE X jv e).1 he
      rw[hmi j hj]at hm
      unfold It at h
      obtain⟨g1,g2⟩:=oK.1 h
      have g1:=iQ g1
      have g2:=iQ g2
      cases q2:ay (di (bR jv (X.take j)) (gD X j)).2 0 with
      |true=>rw[q2]at hm;cases hm
      | false=>
        rw[q2]at hm
        rw[ig.1 hm]at g1 g2
        have hjk:j≠k:=fun e=>by rw[e,q]at q2;cases q2
        obtain⟨a,a1,a2,a3⟩:=hac _ (hmem j hj)
        obtain⟨b,b1,b2,b3⟩:=hac _ (hmem k hk)
        have hab:=DI a1 b1 (by rw[a2,b2];exact g1)
        rw[hab]at a3
        simp only at g1 g2
        rcases Nat.lt_or_gt_of_ne hjk with h|h
        · have:=Lj hup h hk;unfold Pn at this;omega
        · have:=Lj hup h hj;unfold Pn at this;omega
  rw[e1,e2]at z
  cases q:ay (di (bR jv (X.take k)) (gD X k)).2 0 with
  |true=>rw[q]at z;exact z
  |false=>rw[q]at z;exact z
theorem U6(n:Int)(h0: -9223372036854775808<=n)(h1:n<=9223372036854775807):aL Tryz.prog G 60 [.int .i64 n] (.str (Lib.itoa n)):=
  Ob (Go.Proofs.enters_of Tryz.func60 (by kernel_rfl) rfl) (fun n w a b t=>Go.Proofs.Any.strconv_Itoa Go.Proofs.Tryz.litoa n a b w t) (g:=1) (by kernel_rfl) (by kernel_rfl) n h0 h1
theorem Ij(o:AObj):kD 67 [.nils] (aa [o]) .nils (aa [o]):=by
  exact fS Tryz.func67 fun a=>Kf 4 a
theorem Ix(o:AObj):kD 67 [.ps [] false] (aa [o]) (.ps [] true) (aa [o]):=by
  exact fS Tryz.func67 fun a=>Kf 7 a
theorem Ik(o:AObj)(w:PWord)(r:List PWord)(hl:r.length<2^30):kD 67 [.ls ((w::r).map aQ)] (aa [o]) (.slice 1 0 0 (r.length+1) none) (aa [o,.row 4 true 0 ((w::r).map aQ)]):=by
  exact PN Tryz.func67<|Mg 1<|Mz 3 (fun(a:((w::r).map aQ:List AV)=[])=>Mw .abs<|ii _ _ a)<|Mg 3<|M2 .apl (et (by exact ii _ _:List.map aQ (w::r)≠[])<|fM 4 aQ (w::r) fun _=>rfl) (by(refine ar (m:=2^31) ?_ ?_ ?_<;>first|omega|(simp only[lM,lC];omega)):small ((w::r).map aQ).length 40=true)<|Kf 0<|et (by simp:(AV.slice 1 0 0 ((w::r).map aQ).length none)=(AV.slice 1 0 0 (r.length+1) none))<|aJ<|aa [o,aZ 4 true 0<|(w::r).map aQ]
theorem aah(a b c k:Int)(l:aH)(ks:List TUnit):kP 57 [.agg [iV a,iV b,iV c,iV k,.str l,.nils,.ls [],.ls (ks.map aY)]] (.ls []):=by
  let q:=[ak [iV a,iV b,iV c,iV k,aj l,ab,aW [],aW (ks.map aY)]];let q1:=aZ 8 false 0 q;exact bp Tryz.func57<|Mg 3<|M3 (.efx true ab<|aa [aZ 8 false 0 q]) (et rt ti) (et (aJ<|some q1) ti) (Ij q1)<|Kf 3 bD
theorem aaf(a b c k:Int)(l:aH)(ks:List TUnit):kP 57 [.agg [iV a,iV b,iV c,iV k,.str l,.ps [] false,.ls [],.ls (ks.map aY)]] (.ls []):=by
  let q:=[ak [iV a,iV b,iV c,iV k,aj l,j9 [] false,aW [],aW (ks.map aY)]];let q1:=aZ 8 false 0 q;exact bp Tryz.func57<|Mg 3<|M3 (.efx true (j9 [] true)<|aa [aZ 8 false 0 q]) (et rt ti) (et (aJ<|some q1) ti) (Ix q1)<|Kf 3 (eP [] _<|by rfl:Le _ (AV.ps [] true))
theorem aag(a b c k:Int)(l:aH)(w:PWord)(r:List PWord)(ks:List TUnit)(hr:r.length<2^30):kP 57 [.agg [iV a,iV b,iV c,iV k,.str l,.nils,.ls ((w::r).map aQ),.ls (ks.map aY)]] (.ls ((w::r).map aQ)):=by
  let q:=[ak [iV a,iV b,iV c,iV k,aj l,ab,aW ((w::r).map aQ),aW (ks.map aY)]];let q1:=List.map aQ (w::r);let q2:=aZ 8 false 0 q;exact bp Tryz.func57<|Mg 3<|M3 (.efx true ab<|aa [aZ 8 false 0 q]) (et rt ti) (et (aJ<|some q2) ti) (Ij q2)<|Mg 1<|M4 (.apx q1) rt rt (et (by exact ii _ _:List.map aQ (w::r)≠[])<|fM 4 aQ (w::r) fun _=>rfl) (et (aJ q1) (by(refine ar (m:=2^32) ?_ ?_ ?_<;>first|omega|(simp only[lM,lC];omega)):small ((w::r).map aQ).length 40=true))<|Mg 0<|M2 (.fsl 0 [] 2 q1) ti (cp (aJ 0) (tA aQ (w::r) q1.length (by(simp only[lM,lC,lA];done):(w::r).length=((w::r).map aQ).length))<|aX iH<|w::r)<|Ml 2 (eP q1 false<|aX iH<|w::r)<|Mf<|bw<|aW q1
theorem aae(a b c k:Int)(l:aH)(w:PWord)(r:List PWord)(ks:List TUnit)(hr:r.length<2^30):kP 57 [.agg [iV a,iV b,iV c,iV k,.str l,.ps [] false,.ls ((w::r).map aQ),.ls (ks.map aY)]] (.ls ((w::r).map aQ)):=by
  let q:=[ak [iV a,iV b,iV c,iV k,aj l,j9 [] false,aW ((w::r).map aQ),aW (ks.map aY)]];let q1:=List.map aQ (w::r);let q2:=aZ 8 false 0 q;exact bp Tryz.func57<|Mg 3<|M3 (.efx true (j9 [] true)<|aa [aZ 8 false 0 q]) (et rt ti) (et (aJ<|some q2) ti) (Ix q2)<|Mg 1<|M4 (.apx q1) rt rt (et (by exact ii _ _:List.map aQ (w::r)≠[])<|fM 4 aQ (w::r) fun _=>rfl) (et (aJ q1) (by(refine ar (m:=2^32) ?_ ?_ ?_<;>first|omega|(simp only[lM,lC];omega)):small ((w::r).map aQ).length 40=true))<|Mg 0<|M2 (.fsl 0 [] 2 q1) ti (cp (aJ 0) (tA aQ (w::r) q1.length (by(simp only[lM,lC,lA];done):(w::r).length=((w::r).map aQ).length))<|aX iH<|w::r)<|Ml 2 (eP q1 false<|aX iH<|w::r)<|Mf<|bw<|aW q1
theorem aaj(a b c k:Int)(l:aH)(w:PWord)(r:List PWord)(ks:List TUnit)(hr:r.length<2^30):kP 57 [.agg [iV a,iV b,iV c,iV k,.str l,.ls ((w::r).map aQ),.ls [],.ls (ks.map aY)]] (.ls ((w::r).map aQ)):=by
  let q:=[ak [iV a,iV b,iV c,iV k,aj l,aW ((w::r).map aQ),aW [],aW (ks.map aY)]];let q1:=List.map aQ (w::r);let q2:=aZ 8 false 0 q;exact bp Tryz.func57<|Mg 3<|M3 (.efx true (aI 1 0 0 (r.length+1) none)<|aa [aZ 8 false 0 q,aZ 4 true 0 q1]) (et rt ti) (et (aJ<|some q2) ti) (Ik q2 w r hr)<|Mg 1<|M2 .app rt (g0 (tR 4 true 0 2<|aX iH<|w::r) rt)<|Mg 0<|M2 (.fsl 0 [] 2 q1) ti (cp (aJ 0) (tA aQ (w::r) (r.length+1) rfl)<|aX iH<|w::r)<|Ml 2 (eP q1 false<|aX iH<|w::r)<|Mf<|bw<|aW q1
theorem aai(a b c k:Int)(l:aH)(w:PWord)(r:List PWord)(w2:PWord)(r2:List PWord)(ks:List TUnit)(hr:r.length<2^30)(hr2:r2.length<2^30):kP 57 [.agg [iV a,iV b,iV c,iV k,.str l,.ls ((w::r).map aQ),.ls ((w2::r2).map aQ),.ls (ks.map aY)]] (.ls (((w::r)++(w2::r2)).map aQ)):=by
  let q:=[ak [iV a,iV b,iV c,iV k,aj l,aW ((w::r).map aQ),aW ((w2::r2).map aQ),aW (ks.map aY)]];let q1:=List.map aQ (w::r++w2::r2);let q2:=aZ 8 false 0 q;exact bp Tryz.func57<|Mg 3<|M3 (.efx true (aI 1 0 0 (r.length+1) none)<|aa [aZ 8 false 0 q,aZ 4 true 0<|(w::r).map aQ]) (et rt ti) (et (aJ<|some q2) ti) (Ik q2 w r hr)<|Mg 1<|M4 (.apx q1) rt (g0 (tR 4 true 0 2<|aX iH<|w::r) rt) (et (by exact ii _ _:List.map aQ (w2::r2)≠[])<|fM 4 aQ (w2::r2) fun _=>rfl) (et (cp (aJ 0) (by(simp only[lM,lC,lA];done):r.length+1=((w::r).map aQ).length) (by(refine ar (m:=2^32) ?_ ?_ ?_<;>first|omega|(simp only[lM,lC];omega)):small (r.length+1+((w2::r2).map aQ).length) 40=true))<|dK (f:=aQ) (l:=w::r) (ws:=w2::r2))<|Mg 0<|M2 (.fsl 0 [] 2 q1) ti (cp (aJ 1) (tA aQ (w::r++w2::r2) (r.length+1+((w2::r2).map aQ).length) (by(simp only[lM,lC,lA];done):(w::r++w2::r2).length=r.length+1+((w2::r2).map aQ).length))<|aX iH<|w::r++w2::r2)<|Ml 2 (eP q1 false<|aX iH<|w::r++w2::r2)<|Mf<|bw<|aW q1
theorem wv(u:TUnit)(h1:u.head.length<2^30)(h2:u.words.length<2^30):kP 57 [eU u] (.ls ((bJ u).map aQ)):=by
  obtain⟨a,b,c,k,l,hd,ws,ks⟩:=u
  have h1:hd.length<2^30:=h1
  have h2:ws.length<2^30:=h2
  cases hd with
  | nil=>cases ws with
    |nil=>exact aL.agg0 (pre:=[_,_,_,_,_]) (aah a b c k l ks) (aaf a b c k l ks)
    |cons w r=>exact aL.agg0 (pre:=[_,_,_,_,_]) (aag a b c k l w r ks (yN h2)) (aae a b c k l w r ks (yN h2))
  | cons w r=>cases ws with
    | nil=>
      have e:bJ ⟨a,b,c,k,l,w::r,[],ks⟩=w::r:=ef _
      rw[e];exact aaj a b c k l w r ks (yN h1)
    |cons w2 r2=>exact aai a b c k l w r w2 r2 ks (yN h1) (yN h2)
theorem DD(w:PWord):kP 58 [aQ w] (bf ⟨w.act,w.item⟩):=by
  exact wk Tryz.func58 (.go 9 .fin)<|bw<|ak [iV w.act,iV w.item]
def DR(w:PWord):PRef:=⟨w.act,w.item⟩
def PW(u:TUnit):List PRef:=(bJ u).map DR
theorem PX{W r:List PWord}{xs:List PRef}(h:W.map DR=xs++r.map DR):xs.length+r.length=W.length:=by
  have z:=congrArg List.length h
  simp only[lA,lM]at z;omega
theorem WX(u x:TUnit)(id:PId)(b:Bool)(h1:x.head.length<2^30)(h2:x.words.length<2^30)(hX:kP 24 [eU u,aK id] (.tuple [eU x,.bool b])):kP 25 [eU u,aK id] (.ls ((PW x).map bf)):=by
  have hb:=wv x h1 h2
  have hl:(bJ x).length<2^31:=by unfold bJ;rw[lA];omega
  unfold PW
  generalize bJ x=W at *
  have rr0 b' (h:((W.map DR).map bf)=b':=by first|rfl|(rw[<-hj0];rfl)|(rw[hj0.2];simp)|exact aX (fun _=>rfl) _):=h;exact bp Tryz.func25<|Kp 4 hX<|Kp 7 hb<|Kl 0 18 (ln aQ W)<|Mg 0<|kR Nat Nat (List PRef) aQ W [7,17,18,19] (fun a _=>([ab,aW<|W.map aQ,nV W.length,nV a],[aZ 8 false 0 [ak (uLx u)],aZ 3 false 0 [ak [iV id.a,iV id.i,iV id.n]],aZ 8 false 0 [ak (uLx x)]])) (fun a _ c d e=>([aI 3 c 0 d none,aW<|W.map aQ,nV W.length,nV a],[aZ 8 false 0 [ak (uLx u)],aZ 3 false 0 [ak [iV id.a,iV id.i,iV id.n]],aZ 8 false 0 [ak (uLx x)],aZ 2 true c<|e.map bf])) (fun a=>a=W) (fun a _ c d=>c=d.length/\List.map DR W=d++List.map DR a) (by rfl) (fun _ _ _ _ _ a hj0=>Kh 0 a<|Kf 1 (Le.lsn<|rr0 []:Le _ (ab))) (fun a _ _ _ c d _ e _ f _ g hj0=>Kt 0 f<|Mx g<|Kp 4 (DD c)<|Kl 3 28 (dt a)<|Mg 0<|M0 (.ren [0,1,2,4,3] [] [7,17,18,19])<|M1 (.frz 4 [7,17,18,19]) (EM rt rt rt rt ti)<|Mf<|e 0 1 [PRef.mk c.act c.item]<|by exact⟨rfl,by rw[<-hj0];rfl⟩) (fun _ _ a c d _ _ _ e hj0=>Kh 0 e<|Mg 1<|M2 (.fsl 0 [] 4<|d.map bf) ti (cp (aJ a) (tA bf d c (oA:(d).length=c))<|aX Yt d)<|Ml 4 (eP (d.map bf) false<|aX Yt d)<|Mf<|cY<|rr0<|d.map bf) fun a _ c d e _ _ f g _ i _ j _ k hj0=>Kt 0 j<|Mx k<|Kp 4 (DD f)<|K1 0 .app (cp (aJ c) (by(rw[lM];exact hj0.1):d=(e.map bf).length) (by(have z:=PX hj0.2;refine ar (m:=2^32) ?_ ?_ ?_<;>(try simp only[lM])<;>omega):small (d+1) 16=true))<|M1 (.obj 3<|aZ 2 true (c+1)<|(e++[PRef.mk f.act f.item]).map bf) (congrArg (aZ 2 true<|c+1)<|dK (f:=bf) (l:=e) (ws:=[PRef.mk f.act f.item]))<|Kl 1 28 (dt a)<|K1 0 (.frz 4 [7,17,18,19]) (EM (tR 2 true (c+1) 4<|aX Yt<|e++[PRef.mk f.act f.item]) rt rt rt ti)<|Mf<|i (c+1) (d+1) (e++[PRef.mk f.act f.item])<|by exact⟨by(have:=hj0.1;simp only[lA,lC,lN];omega),by rw[hj0.2];simp[DR]⟩
theorem Wk(u v:TUnit)(d:PDeed)(e:Int)(he:ay e 0=false)(hA:kP 47 [eU u,aU d] (.tuple [eU v,iV e])):kP 46 [eU u,aU d] (.ls []):=by
  exact bp Tryz.func46<|Kp 4 hA<|Kt 7 (cS he)<|Kf 0 bD
theorem Ww(u v x:TUnit)(d:PDeed)(id:PId)(e2:Int)(l:List PId)(hk:ay d.it.kind 0=true)(hA:kP 47 [eU u,aU d] (.tuple [eU v,iV 0]))(hF:kP 75 [eU u,.ls (d.it.at_.map az)] (.tuple [aK id,iV e2]))(hS:kP 77 [eU d.it.unit,iV d.act,iV d.item] (eU x))(hI:kP 76 [eU x] (.ls (l.map aK))):kP 46 [eU u,aU d] (.ls (l.map aK)):=by
  exact bp Tryz.func46<|Kp 4 hA<|Kp 12 hF<|Kt 10 hk<|Kp 6 hS<|Mp hI<|Kf 0<|bw<|aW<|l.map aK
theorem Wj(u v x:TUnit)(d:PDeed)(id:PId)(e2:Int)(b:Bool)(l:List PId)(hk:ay d.it.kind 0=false)(hk1:ay d.it.kind 1=true)(hA:kP 47 [eU u,aU d] (.tuple [eU v,iV 0]))(hF:kP 75 [eU u,.ls (d.it.at_.map az)] (.tuple [aK id,iV e2]))(hX:kP 24 [eU u,aK id] (.tuple [eU x,.bool b]))(hI:kP 76 [eU x] (.ls (l.map aK))):kP 46 [eU u,aU d] (.ls (l.map aK)):=by
  exact bp Tryz.func46<|Kp 4 hA<|Kp 12 hF<|Kh 10 hk<|Kt 1 hk1<|Kp 1 hX<|Kp 6 hI<|Kf 0<|bw<|aW<|l.map aK
theorem Wv(u v:TUnit)(d:PDeed)(id:PId)(e2:Int)(hk:ay d.it.kind 0=false)(hk1:ay d.it.kind 1=false)(hA:kP 47 [eU u,aU d] (.tuple [eU v,iV 0]))(hF:kP 75 [eU u,.ls (d.it.at_.map az)] (.tuple [aK id,iV e2])):kP 46 [eU u,aU d] (.ls ([id].map aK)):=by
  let q:=[ak [iV id.a,iV id.i,iV id.n]];exact bp Tryz.func46<|Kp 4 hA<|Kp 12 hF<|Kh 10 hk<|Kh 1 hk1<|Kf 2 (eP q _<|by rfl:Le _ (AV.ps q true))
theorem SQ{u:TUnit}(hu:OkB u)(p:PId):nU (bG p u)<=1024:=by
  have hn:=hu.n
  cases h:be p u with
  |true=>have:=dD (fu h).1;omega
  |false=>unfold bG;rw[h];exact bO (by decide:nU bd<=1) (by decide)
theorem Nf{u:TUnit}{d:PDeed}(h1:OkB u)(h2:rh d.it)(e:Int):(nC u d e).length<2^40:=by
  unfold nC ni
  have ht:=h2.2.2.2.2.2.2.2.2.1
  cases ay e 0
  · exact(by decide:0<2^40)
  · cases ay d.it.kind 0
    · cases ay d.it.kind 1
      · exact(by decide:1<2^40)
      · show(cD _).length<_
        rw[<-kj];have:=SQ h1 (an u d.it.at_).1;omega
    · show(cD _).length<_
      rw[<-kj,zz];omega
theorem Tc(u:TUnit)(d:PDeed)(h1:OkB u)(h2:rh d.it)(h3:mX d.it.kind=true):kP 46 [eU u,aU d] (.ls ((nC u d (di u d).2).map aK)):=by
  have hA:=Bh u d h1 h2 h3
  have hF:=uj h1 d.it.at_ h2.2.1
  cases he:ay (di u d).2 0 with
  |false=>unfold nC;rw[he];exact Wk u _ d _ he hA
  | true=>
    rw[iQ he]at hA
    unfold nC ni;rw[he]
    cases hk:ay d.it.kind 0 with
    | true=>
      have ht:=h2.2.2.2.2.2.2.2.2
      exact Ww u _ _ d _ _ _ hk hA hF (F8 d.act d.item d.it.unit (bO ht.1 (by decide)) (F1 ht) fun x hx=>⟨bO (ht.2 x hx).1 (by decide),bO (ht.2 x hx).2.1 (by decide)⟩) (Hz _ (by rw[zz];have:=ht.1;omega))
    | false=>
      cases hk1:ay d.it.kind 1 with
      |true=>exact Wj u _ _ d _ _ _ _ hk hk1 hA hF (qT h1 _) (Hz _ (by have:=SQ h1 (an u d.it.at_).1;omega))
      |false=>exact Wv u _ d _ _ hk hk1 hA hF
def O5(d:PDeed):PRef:=⟨d.act,d.item⟩
noncomputable def pS(id:PId)(u:TUnit)(d:PDeed):Bool:=(nC u d (di u d).2).any (bK id)
noncomputable def iN(id:PId):TUnit->List PDeed->List PRef
  |_,[]=>[]
  |u,d::r=>(bif pS id u d then[O5 d]else[])++iN id (jM u d) r
theorem BW(id:PId):∀(l:List PDeed)(u:TUnit),(iN id u l).length<=l.length
  |[],_=>af _
  | d::r,u=>by
    have:=BW id r (jM u d)
    rw[iN,lA,lC]
    cases pS id u d
    · show 0+_<=_;omega
    · show 1+_<=_;omega
theorem OT{id:PId}{u v:TUnit}{l r:List PDeed}{xs:List PRef}(h:iN id u l=xs++iN id v r):xs.length<=l.length:=by
  have z:=congrArg List.length h
  rw[lA]at z
  have:=BW id l u
  omega
theorem W9{id:PId}{u:TUnit}{d:PDeed}{r:List PDeed}(h:mX d.it.kind=true)(h2:(nC u d (di u d).2).any (bK id)=false):iN id u (d::r)=iN id (di u d).1 r:=by
  rw[iN,jM,h,pS,h2];rfl
theorem W8{id:PId}{u:TUnit}{d:PDeed}{r:List PDeed}(h:mX d.it.kind=true)(h2:(nC u d (di u d).2).any (bK id)=true):iN id u (d::r)=O5 d::iN id (di u d).1 r:=by
  rw[iN,jM,h,pS,h2];rfl
theorem YF(w:TUnit)(hw:OkB w)(h0:kP 44 [] (eU w))(id:PId)(day:Int)(p:aH)(gs:List PGaz)(X:List PDeed)(hl:X.length<2^30)(ho:∀d,d∈X->rh d.it/\mX d.it.kind=true)(hO:kP 21 [iV day,.str p,.ls (gs.map ae)] (.ls (X.map aU))):kP 20 [aK id,iV day,.str p,.ls (gs.map ae)] (.ls ((iN id w X).map bf)):=by
  have rr0 b' (h:((iN id w X).map bf)=b':=by first|rfl|(rw[hj0.2];rfl)|(rw[hj0.2.2];simp only[iN,ef])|exact aX (fun _=>rfl) _):=h;exact bp Tryz.func20<|Kp 2 h0<|Kp 4 hO<|Kl 0 18 (ln aU X)<|Mg 0<|XJ TUnit Nat Nat (List PRef) aU X w [4,9,10,17,18,19] (fun a _ b=>([bX 0 0 0 0,ab,bX 1 0 0 0,aW<|X.map aU,nV X.length,nV a],[aZ 3 false 0 [ak [iV id.a,iV id.i,iV id.n]],aZ 8 false 0 [ak (uLx b)]])) (fun a _ b c e f=>([bX 0 0 0 0,aI 2 c 0 e none,bX 1 0 0 0,aW<|X.map aU,nV X.length,nV a],[aZ 3 false 0 [ak [iV id.a,iV id.i,iV id.n]],aZ 8 false 0 [ak (uLx b)],aZ 2 true c<|f.map bf])) (fun a b=>OkB b/\iN id w X=iN id b a) (fun a b _ c e=>OkB b/\c=e.length/\iN id w X=e++iN id b a) (by(exact⟨hw,rfl⟩)) (fun _ _ _ _ _ _ a hj0=>Kh 0 a<|Kf 1 (Le.lsn<|rr0 []:Le _ (ab))) (fun a _ b c _ e f g i j k _ l hj0=>have c:=ho _<|aN c j;Kt 0 k<|Mx l<|Kp 4 (Tc b e (by exact hj0.1) (by exact c.1)<|by exact c.2)<|Kp 0 (ym (nC b e (di b e).2) id<|by exact Nf hj0.1 c.1 _)<|Mb ((nC b e (di b e).2).any<|bK id) (fun _=>Kp 10 (Bh b e (by exact hj0.1) (by exact c.1)<|by exact c.2)<|Kl 4 42 (dt a)<|Mg 0<|M0 (.ren [0,1,3,2] [] [4,9,10,17,18,19])<|M1 (.frz 3 [4,9,10,17,18,19]) (js rt rt rt ti)<|Mf<|i (di b e).1 0 1 [PRef.mk e.act e.item]<|by exact⟨(ll ⟨hj0.1,c.1,c.2⟩).2,rfl,hj0.2.trans (W8 c.2 (by assumption))⟩) fun _=>Kp 1 (Bh b e (by exact hj0.1) (by exact c.1)<|by exact c.2)<|Kl 4 42 (dt a)<|K1 0 (.frz 2 [4,9,10,17,18,19]) (cp rt rt ti)<|Mf<|g (di b e).1<|by exact⟨(ll ⟨hj0.1,c.1,c.2⟩).2,hj0.2.trans (W9 c.2 (by assumption))⟩) (fun _ _ _ a b c _ _ _ e hj0=>Kh 0 e<|Mg 1<|M2 (.fsl 0 [] 8<|c.map bf) ti (cp (aJ a) (tA bf c b (oA:(c).length=b))<|aX Yt c)<|Ml 8 (eP (c.map bf) false<|aX Yt c)<|Mf<|cY<|rr0<|c.map bf) fun a _ b c e f g _ i j _ k l n _ o hj0=>have g:=ho _<|aN g l;Kt 0 n<|Mx o<|Kp 4 (Tc b i (by exact hj0.1) (by exact g.1)<|by exact g.2)<|Kp 0 (ym (nC b i (di b i).2) id<|by exact Nf hj0.1 g.1 _)<|Mb ((nC b i (di b i).2).any<|bK id) (fun _=>K1 6 .app (cp (aJ c) (by(rw[lM];exact hj0.2.1):e=(f.map bf).length) (by(have z:=OT hj0.2.2;have z2:=hj0.2.1;refine ar (m:=2^31) ?_ ?_ ?_<;>omega):small (e+1) 16=true))<|M1 (.obj 2<|aZ 2 true (c+1)<|(f++[PRef.mk i.act i.item]).map bf) (congrArg (aZ 2 true<|c+1)<|dK (f:=bf) (l:=f) (ws:=[PRef.mk i.act i.item]))<|Kp 2 (Bh b i (by exact hj0.1) (by exact g.1)<|by exact g.2)<|Kl 4 42 (dt a)<|K1 0 (.frz 3 [4,9,10,17,18,19]) (js (tR 2 true (c+1) 3<|aX Yt<|f++[PRef.mk i.act i.item]) rt rt ti)<|Mf<|k (di b i).1 (c+1) (e+1) (f++[PRef.mk i.act i.item])<|by exact⟨(ll ⟨hj0.1,g.1,g.2⟩).2,by(have:=hj0.2.1;simp only[lA,lC,lN];omega),hj0.2.2.trans (by rw[W8 g.2 (by assumption)];simp[O5])⟩) fun _=>Kp 1 (Bh b i (by exact hj0.1) (by exact g.1)<|by exact g.2)<|Kl 4 42 (dt a)<|K1 0 (.frz 3 [4,9,10,17,18,19]) (js (tR 2 true c 3<|aX Yt f) rt rt ti)<|Mf<|k (di b i).1 c e f<|by exact⟨(ll ⟨hj0.1,g.1,g.2⟩).2,hj0.2.1,hj0.2.2.trans (by rw[W9 g.2 (by assumption)])⟩
theorem NV(id:PId):∀(l:List PDeed)(u:TUnit)(k:Nat),k<l.length->pS id (bR u (l.take k)) (gD l k)=true->O5 (gD l k)∈iN id u l
  | d::r,u,0,_,h=>by
    rw[iN]
    have h:pS id u d=true:=h
    rw[h];exact yE _ (ig.2 rfl)
  | d::r,u,k+1,hk,h=>by
    rw[iN]
    exact tg _ (NV id r (jM u d) k (Nat.lt_of_succ_lt_succ hk) h)
noncomputable def vU(X:List PDeed)(k:Nat):TUnit:=bR jv (X.take k)
structure StgX(X:List PDeed):Prop where
  i:∀d,d∈X->rh d.it
  a:∀d,d∈X->mX d.it.kind=true
  u:∀j k,j<X.length->k<X.length->(gD X j).act=(gD X k).act->(gD X j).item=(gD X k).item->j=k
theorem StgX.ok{X:List PDeed}(h:StgX X)(k:Nat):OkB (vU X k):=Ba E0 fun d hd=>h.i d (sV hd)
theorem StgX.next{X:List PDeed}(h:StgX X){k:Nat}(hk:k<X.length):vU X (k+1)=(di (vU X k) (gD X k)).1:=by
  unfold vU
  rw[TS hk,DA]
  show jM _ _=_
  unfold jM
  rw[h.a _ (dZ hk)];rfl
theorem StgX.un{X:List PDeed}(h:StgX X){k:Nat}(hk:k<X.length):Un (nC (vU X k) (gD X k) (di (vU X k) (gD X k)).2) (vU X k) (vU X (k+1)):=by
  rw[h.next hk];exact Y9 (h.ok k) (h.i _ (dZ hk)) (h.a _ (dZ hk))
theorem StgX.wn{X:List PDeed}(h:StgX X){k:Nat}(hk:k<X.length):Wn (Tl (gD X k).act (gD X k).item) (vU X k) (vU X (k+1)):=by
  rw[h.next hk];exact Y8 (h.ok k) (h.i _ (dZ hk)) (h.a _ (dZ hk))
theorem Td{u:TUnit}{d:PDeed}{e:Int}{id:PId}(h0:id≠⟨0,0,0⟩)(h:id∈nC u d e):(id.a=d.act/\id.i=d.item)\/be id u=true:=by
  unfold nC ni at h
  cases qe:ay e 0<;>rw[qe]at h
  · cases h
  · cases q0:ay d.it.kind 0<;>rw[q0]at h
    · cases q1:ay d.it.kind 1<;>rw[q1]at h
      · have h:id∈[(an u d.it.at_).1]:=h
        have h:=ig.1 h
        unfold an at h
        split at h
        · exact absurd h h0
        · rename_i x ex
          exact .inr (mg u ⟨x,DU (by rw[ex];exact ig.2 rfl),h.symm⟩)
        · exact absurd h h0
      · have h:id∈cD (bG (an u d.it.at_).1 u):=h
        cases hq:be (an u d.it.at_).1 u with
        | true=>
          obtain⟨y,y1,y2⟩:=gn.1 h
          exact .inr (mg u ⟨y,cn (fu hq).1 y1,y2⟩)
        | false=>
          unfold bG at h
          rw[hq]at h
          have h:id∈[(⟨0,0,0⟩:PId)]:=h
          exact absurd (ig.1 h) h0
    · have h:id∈cD (cV d.act d.item d.it.unit 0 0):=h
      rw[ry]at h
      obtain⟨j,_,rfl⟩:=gn.1 h
      exact .inl ⟨rfl,rfl⟩
theorem QZ{id:PId}{u:TUnit}{d:PDeed}(h:id∈nC u d (di u d).2):pS id u d=true:=qx.2 ⟨id,h,iG id⟩
theorem QX{id:PId}{u:TUnit}{d:PDeed}(h:pS id u d=true):id∈nC u d (di u d).2:=by
  obtain⟨y,y1,y2⟩:=qx.1 h
  rw[uN y2];exact y1
theorem StgX.pres{X:List PDeed}(h:StgX X){id:PId}(h0:id≠⟨0,0,0⟩):∀m,m<=X.length->be id (vU X m)=true->∃j,j<m/\(gD X j).act=id.a/\(gD X j).item=id.i/\pS id (vU X j) (gD X j)=true
  | 0,_,hp=>by
    obtain⟨y,y1,y2⟩:=And.intro (fu hp).1 (fu hp).2|>fun z=>(⟨_,z.1,z.2⟩:∃y,y∈aT (vU X 0)/\au y=id)
    have e:vU X 0=jv:=by unfold vU;rw[CU];rfl
    rw[e]at y1
    have:y=jv:=by simpa[jv,aT,cA]using y1
    subst this
    exact absurd y2.symm h0
  | m+1,hm,hp=>by
    cases hb:be id (vU X m)with
    | true=>
      obtain⟨j,j1,j2⟩:=h.pres h0 m (by omega) hb
      exact⟨j,by omega,j2⟩
    | false=>
      have hin:id∈nC (vU X m) (gD X m) (di (vU X m) (gD X m)).2:=by
        refine Classical.byContradiction fun hn=>?_
        have z:=(Un.find (h.ok m) (h.ok (m+1)) (h.un (by omega)) hn).1
        rw[hb,hp]at z;cases z
      rcases Td h0 hin with⟨e1,e2⟩|e
      · exact⟨m,by omega,e1.symm,e2.symm,QZ hin⟩
      · rw[hb]at e;cases e
theorem IY(id:PId):∀(l:List PDeed)(u:TUnit)(j:Nat),j<l.length->(∀k,k<j->pS id (bR u (l.take k)) (gD l k)=false)->pS id (bR u (l.take j)) (gD l j)=true->∃r,iN id u l=O5 (gD l j)::r
  | d::r,u,0,_,_,h=>by
    have h:pS id u d=true:=h
    rw[iN,h];exact⟨_,rfl⟩
  | d::r,u,j+1,hj,hn,h=>by
    have h1:pS id u d=false:=hn 0 (qK j)
    obtain⟨t,e⟩:=IY id r (jM u d) j (Nat.lt_of_succ_lt_succ hj) (fun k hk=>hn (k+1) (Cj hk)) h
    rw[iN,h1];exact⟨t,e⟩
theorem KB(id:PId):∀(l:List PDeed)(u:TUnit)(c:PRef),c∈iN id u l->∃k,k<l.length/\c=O5 (gD l k)/\pS id (bR u (l.take k)) (gD l k)=true
  | d::r,u,c,h=>by
    rw[iN]at h
    rcases fK.1 h with h|h
    · cases q:pS id u d with
      |false=>rw[q]at h;cases h
      |true=>rw[q]at h;exact⟨0,qK _,ig.1 h,q⟩
    · obtain⟨k,k1,k2,k3⟩:=KB id r (jM u d) c h
      exact⟨k+1,Cj k1,k2,k3⟩
theorem StgX.first{X:List PDeed}(h:StgX X){id:PId}(h0:id≠⟨0,0,0⟩)(hp:be id (vU X X.length)=true):∃r,iN id jv X=⟨id.a,id.i⟩::r:=by
  obtain⟨j,j1,j2,j3,j4⟩:=h.pres h0 X.length (af _) hp
  obtain⟨r,e⟩:=IY id X jv j j1 (fun k hk=>by
    cases q:pS id (bR jv (X.take k)) (gD X k)with
    |false=>rfl
    | true=>
      rcases Td h0 (QX q)with⟨e1,e2⟩|e
      · exact absurd (h.u k j (by omega) j1 (e1.symm.trans j2.symm) (e2.symm.trans j3.symm)) (by omega)
      · obtain⟨i,i1,i2,i3,_⟩:=h.pres h0 k (by omega) e
        exact absurd (h.u i j (by omega) j1 (i2.trans j2.symm) (i3.trans j3.symm)) (by omega)) j4
  exact⟨r,by rw[e];show(⟨(gD X j).act,(gD X j).item⟩:PRef)::r=_;rw[j2,j3]⟩
theorem StgX.auth{X:List PDeed}(h:StgX X):∀m,m<=X.length->∀x,x∈aT (vU X m)->∀w,w∈bJ x->w.text.length<=2^39/\∃k,k<m/\w.act=(gD X k).act/\w.item=(gD X k).item/\pS (au x) (vU X k) (gD X k)=true
  | 0,_,x,hx,w,hw=>by
    have e:vU X 0=jv:=by unfold vU;rw[CU];rfl
    rw[e]at hx
    have:x=jv:=by simpa[jv,aT,cA]using hx
    subst this;cases hw
  | m+1,hm,x,hx,w,hw=>by
    have ih:=h.auth m (by omega)
    by_cases hin:au x∈nC (vU X m) (gD X m) (di (vU X m) (gD X m)).2
    · rcases h.wn (show m<X.length by omega) x hx w hw with⟨e1,e2,e3⟩|⟨y,y1,y2,y3⟩
      · exact⟨e3,m,by omega,e1,e2,QZ hin⟩
      · obtain⟨t,k,k1,k2⟩:=ih y y1 w y3
        rw[y2]at k2
        exact⟨t,k,by omega,k2⟩
    · obtain⟨z1,_,z3,z4⟩:=Un.find (h.ok m) (h.ok (m+1)) (h.un (by omega)) hin
      have hx2:be (au x) (vU X (m+1))=true:=mg _ ⟨x,hx,rfl⟩
      rw[(h.ok (m+1)).uni (fu hx2).1 hx (fu hx2).2]at z3 z4
      rw[hx2]at z1
      have hw2:w∈bJ (bG (au x) (vU X m)):=by unfold bJ at hw ⊢;rwa[z3,z4]
      obtain⟨t,k,k1,k2⟩:=ih _ (fu z1).1 w hw2
      rw[(fu z1).2]at k2
      exact⟨t,k,by omega,k2⟩
def Po(n:Int):Prop:= -9223372036854775808<=n/\n<=9223372036854775807
theorem Es{n:Int}(h:Po n):(Lib.itoa n).length<=30:=by
  obtain⟨h1,h2⟩:=h
  by_cases hn:n<0
  · exact Re h1 hn
  · have e:Lib.itoa n=Lib.decDigits n.toNat:=by unfold Lib.itoa;rw[if_neg hn]
    have:=VO (m:=n.toNat) (by omega)
    rw[e];omega
theorem JO(n:Int)(h:Po n):kP 60 [iV n] (.str (Lib.itoa n)):=U6 n h.1 h.2
theorem Tx{α:Type}[Inhabited α]{l:List α}{n:Nat}(hn:n<l.length):l.take (n+1)=l.take n++[gD l n]:=by
  rw[show gD l n=l[n] by simp[gD,List.getD,kE hn],List.take_append_getElem hn]
theorem yt{α:Type}[Inhabited α]{f:α->Bool}{l:List α}{n:Nat}(hn:n<l.length)(e:f (gD l n)=true):true=l.any f:=
  (qx.2 ⟨_,dZ hn,e⟩).symm
theorem Tz{α:Type}{f:α->Bool}{l:List α}{n:Nat}(h:(l.take n).any f=false)(hn:l.length<=n):false=l.any f:=by
  rw[th hn]at h;exact h.symm
theorem pB{α:Type}[Inhabited α]{f:α->Bool}{l:List α}{n:Nat}(hn:n<l.length)(h:(l.take n).any f=false)(e:f (gD l n)=false):(l.take (n+1)).any f=false:=by
  rw[Tx hn,List.any_append,h];simp[e]
theorem KN{a i:Int}{d:PDeed}(h:ay d.act a=false):tk a i d=false:=by unfold tk;rw[h];rfl
theorem KM{a i:Int}{d:PDeed}(h:ay d.item i=false):tk a i d=false:=by unfold tk;rw[h];cases ay d.act a<;>rfl
theorem S9{a i:Int}{d:PDeed}(h:ay d.act a=true)(h2:ay d.item i=true):tk a i d=true:=by unfold tk;rw[h,h2];rfl
theorem U3(X:List PDeed)(r:PRef)(hl:X.length<2^40):kP 22 [.ls (X.map aU),bf r] (.bool (X.any (tk r.act r.item))):=by
  have rr0 b' (h:(X.any (tk r.act r.item))=b':=by first|exact yt (n:=za0) ei (by unfold tk;assumption)|exact yt (n:=za0) ei (S9 ‹_› ‹_›)|exact Tz hx0.2 ei|exact(yt (n:=za0) ei (by unfold tk;assumption)).symm |exact(yt (n:=za0) ei (S9 ‹_› ‹_›)).symm |exact(Tz hx0.2 ei).symm):=h;exact bp Tryz.func22<|Mg 2<|ZY (0:Nat) [0,3,5] (fun a=>([aW<|X.map aU,bX 0 0 0 0,nV a],[aZ 2 false 0 [ak [iV r.act,iV r.item]]])) (fun a=>a<=X.length/\(X.take a).any (tk r.act r.item)=false) (fun a=>X.length-a) (by first|exact⟨bA _,rfl⟩|exact⟨by(first|omega|(simp only[oN]at *;omega)),pB (n:=x0) (by(first|omega|(simp only[oN]at *;omega))) hx0.2 (by unfold tk;assumption)⟩|exact⟨by(first|omega|(simp only[oN]at *;omega)),pB (n:=x0) (by(first|omega|(simp only[oN]at *;omega))) hx0.2 (KN (by assumption))⟩|exact⟨by(first|omega|(simp only[oN]at *;omega)),pB (n:=x0) (by(first|omega|(simp only[oN]at *;omega))) hx0.2 (KM (by assumption))⟩) fun za0 hx0 a=>have hx0:=hx0;Kl 2 8 (ln aU X)<|Ka 0 (Int.ofNat za0) (Int.ofNat X.length) (fun _ _=>Kx 1 (aR aU (by first|omega|(simp only[oN,lM,lS]at *;omega)|(simp only[oN,lM,lS,lA,lR,lC,lN]at * <;>omega):za0<(X).length))<|Kj 5 (gD X za0).act r.act (fun b _=>Kt 0 b<|Kt 0 b<|Mx (aR aU (by first|omega|(simp only[oN,lM,lS]at *;omega)|(simp only[oN,lM,lS,lA,lR,lC,lN]at * <;>omega):za0<(X).length))<|Mt b<|Kt 0 b<|Kt 0 b<|Kt 0 b<|Kt 0 b<|Ku 0 b<|Mb (ay (gD X za0).item r.item) (fun a=>have:=iQ a;Ky 0<|rr0 true) fun b=>have:=HN b;Kl 1 11 (i7 za0)<|Kf 0<|a (za0+1) (by first|exact⟨bA _,rfl⟩|exact⟨by(first|omega|(simp only[oN]at *;omega)),pB (n:=za0) (by(first|omega|(simp only[oN]at *;omega))) hx0.2 (by unfold tk;assumption)⟩|exact⟨by(first|omega|(simp only[oN]at *;omega)),pB (n:=za0) (by(first|omega|(simp only[oN]at *;omega))) hx0.2 (KN (by assumption))⟩|exact⟨by(first|omega|(simp only[oN]at *;omega)),pB (n:=za0) (by(first|omega|(simp only[oN]at *;omega))) hx0.2 (KM (by assumption))⟩)<|by(first|omega|(simp only[oN]at *;omega))) fun b _=>Mh b<|Mh b<|Mh b<|Mh b<|Mh b<|Mh b<|Mh b<|My b<|Kl 2 11 (i7 za0)<|Kf 0<|a (za0+1) (by first|exact⟨bA _,rfl⟩|exact⟨by(first|omega|(simp only[oN]at *;omega)),pB (n:=za0) (by(first|omega|(simp only[oN]at *;omega))) hx0.2 (by unfold tk;assumption)⟩|exact⟨by(first|omega|(simp only[oN]at *;omega)),pB (n:=za0) (by(first|omega|(simp only[oN]at *;omega))) hx0.2 (KN (by assumption))⟩|exact⟨by(first|omega|(simp only[oN]at *;omega)),pB (n:=za0) (by(first|omega|(simp only[oN]at *;omega))) hx0.2 (KM (by assumption))⟩)<|by(first|omega|(simp only[oN]at *;omega))) fun _ _=>Ky 0<|rr0 false
def AF(w:PWord):List PAct->aH
  |[]=>[]
  |a::r=>bif ay a.number w.act then w.text++[32,97,99,116,32]++Lib.itoa a.number++[32,105,116,101,109,32]++Lib.itoa w.item++[32,100,97,121,32]++Lib.itoa a.day else AF w r
theorem EL{w:PWord}{a:PAct}{r:List PAct}(h:ay a.number w.act=true):AF w (a::r)=w.text++[32,97,99,116,32]++Lib.itoa a.number++[32,105,116,101,109,32]++Lib.itoa w.item++[32,100,97,121,32]++Lib.itoa a.day:=by rw[AF,h];rfl
theorem KQ{w:PWord}{a:PAct}{r:List PAct}(h:ay a.number w.act=false):AF w (a::r)=AF w r:=by rw[AF,h];rfl
theorem Sk{w:PWord}:∀{L:List PAct},(∃a,a∈L/\a.number=w.act)->dM (AF w L) []=false
  | a::r,⟨b,hb,e⟩=>by
    cases q:ay a.number w.act with
    | true=>rw[EL q];cases z:dM (w.text++[32,97,99,116,32]++Lib.itoa a.number++[32,105,116,101,109,32]++Lib.itoa w.item++[32,100,97,121,32]++Lib.itoa a.day) []with
      |false=>rfl
      |true=>have y:=congrArg List.length (M8 z);simp only[lA,lC,lN]at y;omega
    | false=>
      rw[KQ q]
      rcases dO.1 hb with rfl|hb
      · rw[e,bQ]at q;cases q
      · exact Sk ⟨b,hb,e⟩
theorem Yi(id:PId)(day:Int)(p:aH)(gs:List PGaz)(u x:TUnit)(b:Bool)(hle1:x.head.length<2^30)(hle2:x.words.length<2^30)(hB:kP 16 [iV day,.str p,.ls (gs.map ae)] (eU u))(hX:kP 24 [eU u,aK id] (.tuple [eU x,.bool b])):kP 26 [aK id,iV (-1),iV day,.str p,.ls (gs.map ae)] (.str []):=by
  have hb:=wv x hle1 hle2
  generalize bJ x=W at *
  exact bp Tryz.func26<|Kp 4 hB<|Kp 0 hX<|Kp 6 hb<|Kf 6<|bw<|aj []
def OD(W:List PWord)(k:Nat)(L:List PAct):aH:=if k<W.length then AF (gD W k) L else[]
theorem yf{W:List PWord}{k:Nat}{L:List PAct}(h:k<W.length):OD W k L=AF (gD W k) L:=if_pos h
theorem AG{W:List PWord}{k:Nat}{L:List PAct}(h:W.length<=k):OD W k L=[]:=if_neg (by omega)
theorem Yl(id:PId)(k:Nat)(day:Int)(p:aH)(gs:List PGaz)(L:List PAct)(u x:TUnit)(b:Bool)(hle1:x.head.length<2^30)(hle2:x.words.length<2^30)(hB:kP 16 [iV day,.str p,.ls (gs.map ae)] (eU u))(hX:kP 24 [eU u,aK id] (.tuple [eU x,.bool b]))(hA:kP 59 [.ls (gs.map ae)] (.ls (L.map av)))(hL:L.length<2^30)(hkb:k<2^31)(ht:k<(bJ x).length->(gD (bJ x) k).text.length<=2^39)(hi:k<(bJ x).length->Po (gD (bJ x) k).item)(ha:∀a,a∈L->Po a.number/\Po a.day):kP 26 [aK id,nV k,iV day,.str p,.ls (gs.map ae)] (.str (OD (bJ x) k L)):=by
  have hb:=wv x hle1 hle2
  have hl:(bJ x).length<2^31:=by unfold bJ;rw[lA];omega
  generalize bJ x=W at *
  obtain⟨T,hT⟩:∃T,T=OD W k L:=⟨_,rfl⟩
  rw[<-hT]
  have rr0 b' (h:(T)=b':=by first|(rw[hT];exact(AG (W:=W) (k:=k) ei))|(rw[hT];exact(AG (W:=W) (k:=k) ei).symm)|(rw[hT,yf (W:=W) (k:=k) ei,hj0,EL ‹_›];done)|(rw[hT,yf (W:=W) (k:=k) ei,hj0];rfl)|(rw[hT,yf (W:=W) (k:=k) ei,hj0,EL ‹_›];rfl)|(exfalso;(first|omega|(simp only[oN]at *;omega)))):=h;let q:=AHeap.mk 1000000 Tr.nil;exact bp Tryz.func26<|Kp 4 hB<|Kp 0 hX<|Kp 6 hb<|Kl 6 33 (ln aQ W)<|Kd 1 (Int.ofNat k) (Int.ofNat W.length) (fun _ _=>Kf 0<|Le.str<|rr0 []) fun _ _=>Kx 1 (aR aQ (by first|omega|(simp only[oN,lM,lS]at *;omega)|(simp only[oN,lM,lS,lA,lR,lC,lN]at * <;>omega):k<(W).length))<|Kp 3 hA<|Kl 0 42 (ln av L)<|Mg 0<|td av L [14,41,42,43] (fun c _=>([bX 2 0 0 0,aW<|L.map av,nV L.length,nV c],[aZ 3 false 0 [ak [iV id.a,iV id.i,iV id.n]],aZ 8 false 0 [ak (uLx x)],aZ 4 false 0 [ak [aj (gD W k).text,iV (gD W k).act,iV (gD W k).item,iV (gD W k).at_]]])) (fun c=>AF (gD W k) L=AF (gD W k) c) (by first|rfl|(first|rfl|exact hj0.trans (KQ (by assumption)))) (fun _ _ _ _ _ c hj0=>Kh 0 c<|Kf 0<|Le.str<|rr0 []) fun c _ d _ e f g i j _ l hj0=>have d:=ha _<|aN d i;have:=Es d.1;have:=Es d.2;have:=ht (by(first|omega|(simp only[oN]at *;omega)));have:=Es<|hi (by(first|omega|(simp only[oN]at *;omega)));Kt 0 j<|Mx l<|Kj 8 e.number (gD W k).act (fun _ _=>Kv 1 (fy (s:=(gD W k).text) (u:=[32,97,99,116,32]) (H:=q) (by(first|first|assumption|exact d.1|exact d.2|exact hi (by(first|omega|(simp only[oN]at *;omega)))|omega|(first|omega|(simp only[oN]at *;omega))|(simp only[lA,lC,lN]at *;omega)|(simp only[lA,lC,lN]at *;omega)):((gD W k).text).length+([32,97,99,116,32]).length<=2^62))<|Kp 1 (JO e.number<|by first|assumption|exact d.1|exact d.2|exact hi (by(first|omega|(simp only[oN]at *;omega)))|omega|(first|omega|(simp only[oN]at *;omega))|(simp only[lA,lC,lN]at *;omega))<|Mv (fy (s:=(gD W k).text++[32,97,99,116,32]) (u:=Lib.itoa e.number) (H:=q) (by(first|first|assumption|exact d.1|exact d.2|exact hi (by(first|omega|(simp only[oN]at *;omega)))|omega|(first|omega|(simp only[oN]at *;omega))|(simp only[lA,lC,lN]at *;omega)|(simp only[lA,lC,lN]at *;omega)):((gD W k).text++[32,97,99,116,32]).length+(Lib.itoa e.number).length<=2^62))<|Mv (fy (s:=(gD W k).text++[32,97,99,116,32]++Lib.itoa e.number) (u:=[32,105,116,101,109,32]) (H:=q) (by(first|first|assumption|exact d.1|exact d.2|exact hi (by(first|omega|(simp only[oN]at *;omega)))|omega|(first|omega|(simp only[oN]at *;omega))|(simp only[lA,lC,lN]at *;omega)|(simp only[lA,lC,lN]at *;omega)):((gD W k).text++[32,97,99,116,32]++Lib.itoa e.number).length+([32,105,116,101,109,32]).length<=2^62))<|Kp 2 (JO (gD W k).item<|by first|assumption|exact d.1|exact d.2|exact hi (by(first|omega|(simp only[oN]at *;omega)))|omega|(first|omega|(simp only[oN]at *;omega))|(simp only[lA,lC,lN]at *;omega))<|Mv (fy (s:=(gD W k).text++[32,97,99,116,32]++Lib.itoa e.number++[32,105,116,101,109,32]) (u:=Lib.itoa (gD W k).item) (H:=q) (by(first|first|assumption|exact d.1|exact d.2|exact hi (by(first|omega|(simp only[oN]at *;omega)))|omega|(first|omega|(simp only[oN]at *;omega))|(simp only[lA,lC,lN]at *;omega)|(simp only[lA,lC,lN]at *;omega)):((gD W k).text++[32,97,99,116,32]++Lib.itoa e.number++[32,105,116,101,109,32]).length+(Lib.itoa (gD W k).item).length<=2^62))<|Mv (fy (s:=(gD W k).text++[32,97,99,116,32]++Lib.itoa e.number++[32,105,116,101,109,32]++Lib.itoa (gD W k).item) (u:=[32,100,97,121,32]) (H:=q) (by(first|first|assumption|exact d.1|exact d.2|exact hi (by(first|omega|(simp only[oN]at *;omega)))|omega|(first|omega|(simp only[oN]at *;omega))|(simp only[lA,lC,lN]at *;omega)|(simp only[lA,lC,lN]at *;omega)):((gD W k).text++[32,97,99,116,32]++Lib.itoa e.number++[32,105,116,101,109,32]++Lib.itoa (gD W k).item).length+([32,100,97,121,32]).length<=2^62))<|Kp 1 (JO e.day<|by first|assumption|exact d.1|exact d.2|exact hi (by(first|omega|(simp only[oN]at *;omega)))|omega|(first|omega|(simp only[oN]at *;omega))|(simp only[lA,lC,lN]at *;omega))<|Mv (fy (s:=(gD W k).text++[32,97,99,116,32]++Lib.itoa e.number++[32,105,116,101,109,32]++Lib.itoa (gD W k).item++[32,100,97,121,32]) (u:=Lib.itoa e.day) (H:=q) (by(first|first|assumption|exact d.1|exact d.2|exact hi (by(first|omega|(simp only[oN]at *;omega)))|omega|(first|omega|(simp only[oN]at *;omega))|(simp only[lA,lC,lN]at *;omega)|(simp only[lA,lC,lN]at *;omega)):((gD W k).text++[32,97,99,116,32]++Lib.itoa e.number++[32,105,116,101,109,32]++Lib.itoa (gD W k).item++[32,100,97,121,32]).length+(Lib.itoa e.day).length<=2^62))<|Kf 0<|Le.str<|rr0<|(gD W k).text++[32,97,99,116,32]++Lib.itoa e.number++[32,105,116,101,109,32]++Lib.itoa (gD W k).item++[32,100,97,121,32]++Lib.itoa e.day) fun _ _=>Kl 0 71 (i7 c)<|K1 0 (.frz 3 [14,41,42,43]) (js rt rt rt ti)<|Mf<|g<|by first|rfl|exact hj0.trans (KQ (by assumption))
def Ws(a c:PRef):Bool:=ay c.act a.act&&ay c.item a.item
theorem Wx{f:PRef->Bool}{cs:List PRef}{n:Nat}{b:Bool}(h:b=(cs.take n).any f)(hn:cs.length<=n)(hb:b=false):cs.any f=false:=by
  rw[th hn]at h;exact h▸hb
theorem Tj{f:PRef->Bool}{cs:List PRef}{n:Nat}{b:Bool}(hn:n<cs.length)(h:b=(cs.take n).any f):(b||f (gD cs n))=(cs.take (n+1)).any f:=by
  rw[Tx hn,List.any_append,h];simp
theorem aaC{f:PRef->Bool}{cs:List PRef}{n:Nat}{b:Bool}(hn:n<cs.length)(h:b=(cs.take n).any f)(hb:b=true):true=(cs.take (n+1)).any f:=by
  rw[<-Tj hn h,hb];rfl
theorem aaD{f:PRef->Bool}{cs:List PRef}{n:Nat}{b:Bool}(hn:n<cs.length)(h:b=(cs.take n).any f)(hb:b=false):f (gD cs n)=(cs.take (n+1)).any f:=by
  rw[<-Tj hn h,hb];rfl
theorem Y5(id:PId)(day:Int)(p:aH)(gs:List PGaz)(haw:kP 18 [] (.bool true))(hw:kP 19 [.ls (gs.map ae),.str p] (.bool false)):kP 5 [aK id,iV day,.str p,.ls (gs.map ae)] (.bool true):=by
  exact bp Tryz.func5<|Kp 1 haw<|Kp 3 hw<|Kf 2<|bw<|eO true
theorem Nk(id:PId)(day:Int)(p:aH)(gs:List PGaz)(X:List PDeed)(cs:List PRef)(u x:TUnit)(haw:kP 18 [] (.bool true))(hw:kP 19 [.ls (gs.map ae),.str p] (.bool true))(hl2:cs.length<2^30)(hB:kP 16 [iV day,.str p,.ls (gs.map ae)] (eU u))(hC:kP 20 [aK id,iV day,.str p,.ls (gs.map ae)] (.ls (cs.map bf)))(hO:kP 21 [iV day,.str p,.ls (gs.map ae)] (.ls (X.map aU)))
    (hHas:∀k,k<cs.length->kP 22 [.ls (X.map aU),bf (gD cs k)] (.bool true))(hEff:∀k,k<cs.length->kP 23 [iV day,.str p,bf (gD cs k),.ls (gs.map ae)] (.bool true))(hF:kP 24 [eU u,aK id] (.tuple [eU x,.bool false])):kP 5 [aK id,iV day,.str p,.ls (gs.map ae)] (.bool true):=by
  exact bp Tryz.func5<|Kp 1 haw<|Kp 3 hw<|Kp 4 hB<|Kp 5 hC<|Kp 3 hO<|Mg 1<|ZY (0:Nat) [1,2,3,4,9,10,11,12] (fun a=>([iV day,aj p,aW<|gs.map ae,bX 0 0 0 0,bX 1 0 0 0,aW<|cs.map bf,aW<|X.map aU,nV a],[aZ 3 false 0 [ak [iV id.a,iV id.i,iV id.n]],aZ 8 false 0 [ak (uLx u)]])) (fun a=>a<=cs.length) (fun a=>cs.length-a) (by exact bA _) fun a b c=>have:=b;Kl 2 40 (ln bf cs)<|Ka 0 (Int.ofNat a) (Int.ofNat cs.length) (fun _ _=>Kx 2 (aR bf (by(simp only[oN,lM,lS]at *;omega):a<(cs).length))<|Kp 0 (hHas a<|by(simp only[oN]at *;omega))<|Kx 5 (aR bf (by(simp only[oN,lM,lS]at *;omega):a<(cs).length))<|Kp 1 (hEff a<|by(simp only[oN]at *;omega))<|Kl 4 43 (i7 a)<|Kf 0<|c (a+1) (by(simp only[oN]at *;omega))<|by(simp only[oN]at *;omega)) fun _ _=>Kp 1 hF<|Kf 11<|bw<|eO true
theorem aav(day:Int)(p:aH)(gs:List PGaz)(X:List PDeed)(cs:List PRef)(u x:TUnit)(haw:kP 18 [] (.bool true))(hw:kP 19 [.ls (gs.map ae),.str p] (.bool true))(hl2:cs.length<2^30)(hB:kP 16 [iV day,.str p,.ls (gs.map ae)] (eU u))(hC:kP 20 [aK ⟨0,0,0⟩,iV day,.str p,.ls (gs.map ae)] (.ls (cs.map bf)))(hO:kP 21 [iV day,.str p,.ls (gs.map ae)] (.ls (X.map aU)))
    (hHas:∀k,k<cs.length->kP 22 [.ls (X.map aU),bf (gD cs k)] (.bool true))(hEff:∀k,k<cs.length->kP 23 [iV day,.str p,bf (gD cs k),.ls (gs.map ae)] (.bool true))(hF:kP 24 [eU u,aK ⟨0,0,0⟩] (.tuple [eU x,.bool true])):kP 5 [aK ⟨0,0,0⟩,iV day,.str p,.ls (gs.map ae)] (.bool true):=by
  exact bp Tryz.func5<|Kp 1 haw<|Kp 3 hw<|Kp 4 hB<|Kp 5 hC<|Kp 3 hO<|Mg 1<|ZY (0:Nat) [1,2,3,4,9,10,11,12] (fun a=>([iV day,aj p,aW<|gs.map ae,bX 0 0 0 0,bX 1 0 0 0,aW<|cs.map bf,aW<|X.map aU,nV a],[aZ 3 false 0 [ak [iV 0,iV 0,iV 0]],aZ 8 false 0 [ak (uLx u)]])) (fun a=>a<=cs.length) (fun a=>cs.length-a) (by exact bA _) fun a b c=>have:=b;Kl 2 40 (ln bf cs)<|Ka 0 (Int.ofNat a) (Int.ofNat cs.length) (fun _ _=>Kx 2 (aR bf (by(simp only[oN,lM,lS]at *;omega):a<(cs).length))<|Kp 0 (hHas a<|by(simp only[oN]at *;omega))<|Kx 5 (aR bf (by(simp only[oN,lM,lS]at *;omega):a<(cs).length))<|Kp 1 (hEff a<|by(simp only[oN]at *;omega))<|Kl 4 43 (i7 a)<|Kf 0<|c (a+1) (by(simp only[oN]at *;omega))<|by(simp only[oN]at *;omega)) fun _ _=>Kp 1 hF<|Kf 14<|bw<|eO true
theorem Y6(id:PId)(day:Int)(p:aH)(gs:List PGaz)(X:List PDeed)(cs A:List PRef)(u x:TUnit)(ex:Nat->aH)(hne:(ay id.a 0&&(ay id.i 0&&ay id.n 0))=false)(haw:kP 18 [] (.bool true))(hw:kP 19 [.ls (gs.map ae),.str p] (.bool true))(hl2:cs.length<2^30)(hlA:A.length<2^31)(hB:kP 16 [iV day,.str p,.ls (gs.map ae)] (eU u))(hC:kP 20 [aK id,iV day,.str p,.ls (gs.map ae)] (.ls (cs.map bf)))(hO:kP 21 [iV day,.str p,.ls (gs.map ae)] (.ls (X.map aU)))
    (hHas:∀k,k<cs.length->kP 22 [.ls (X.map aU),bf (gD cs k)] (.bool true))(hEff:∀k,k<cs.length->kP 23 [iV day,.str p,bf (gD cs k),.ls (gs.map ae)] (.bool true))(hF:kP 24 [eU u,aK id] (.tuple [eU x,.bool true]))
    (c0:0<cs.length)(c1:ay (gD cs 0).act id.a=true)(c2:ay (gD cs 0).item id.i=true)(hA:kP 25 [eU u,aK id] (.ls (A.map bf)))
    (hInn:∀k,k<A.length->cs.any (Ws (gD A k))=true)(hExp:∀k,k<A.length->kP 26 [aK id,nV k,iV day,.str p,.ls (gs.map ae)] (.str (ex k)))(hExn:∀k,k<A.length->dM (ex k) []=false)
    (hExh:kP 26 [aK id,nV A.length,iV day,.str p,.ls (gs.map ae)] (.str []))(hExl:kP 26 [aK id,iV (-1),iV day,.str p,.ls (gs.map ae)] (.str [])):kP 5 [aK id,iV day,.str p,.ls (gs.map ae)] (.bool true):=by
  have rr0 b' (h:(true)=b':=by first|rfl|(exfalso;have z:=Wx hx2.2 ei ‹_›;rw[hInn _ ei]at z;cases z)|(exfalso;have z:=hExn za1 ei;simp_all;done)|(exfalso;have z:=iQ ‹_›;(first|omega|(simp only[oN]at *;omega)))|(exfalso;simp_all;done)):=h;let q:=[iV id.a,iV id.i,iV id.n];exact bp Tryz.func5<|Kp 1 haw<|Kp 3 hw<|Kp 4 hB<|Kp 5 hC<|Kp 3 hO<|Mg 1<|ZY (0:Nat) [1,2,3,4,9,10,11,12] (fun a=>([iV day,aj p,aW<|gs.map ae,bX 0 0 0 0,bX 1 0 0 0,aW<|cs.map bf,aW<|X.map aU,nV a],[aZ 3 false 0 [ak [iV id.a,iV id.i,iV id.n]],aZ 8 false 0 [ak (uLx u)]])) (fun a=>a<=cs.length) (fun a=>cs.length-a) (by exact bA _) fun a b c=>have:=b;Kl 2 40 (ln bf cs)<|Ka 0 (Int.ofNat a) (Int.ofNat cs.length) (fun _ _=>Kx 2 (aR bf (by(simp only[oN,lM,lS]at *;omega):a<(cs).length))<|Kp 0 (hHas a<|by(simp only[oN]at *;omega))<|Kx 5 (aR bf (by(simp only[oN,lM,lS]at *;omega):a<(cs).length))<|Kp 1 (hEff a<|by(simp only[oN]at *;omega))<|Kl 4 43 (i7 a)<|Kf 0<|c (a+1) (by(simp only[oN]at *;omega))<|by(simp only[oN]at *;omega)) fun _ _=>Kp 1 hF<|Kv 10 (lV ((Tryz.prog).underlying 35) id.a id.i id.n 0 0 0<|aa [aZ 3 false 0 [ak q],aZ 8 false 0 [ak (uLx u)],aZ 8 false 0 [ak (uLx x)]])<|Kh 0 hne<|Kj 3 (Int.ofNat (cs.map bf).length) 0 (fun a _=>Mt a<|Mt a<|Mt a<|Mt a<|Mt a<|Mt a<|Mt a<|Mt a<|MV a<|Ky 1<|rr0 false) fun a _=>Kh 0 a<|Mx (aR bf (oA:0<(cs).length))<|Mh a<|Kh 0 a<|Kh 0 a<|Kh 0 a<|Kh 0 a<|Kh 0 a<|Kh 0 a<|Mv (yA (d:=(Tryz.prog).underlying 60) (n:=2) (l:=(0,1)::(1,1)::[]) (xs:=[iV (gD cs 0).act,iV (gD cs 0).item]) (ys:=[iV id.a,iV id.i]) (H:=AHeap.mk 1000000 Tr.nil) rfl<|nP (e:=ay (gD cs 0).act id.a) rfl rfl rfl<|xd (e:=ay (gD cs 0).item id.i) rfl rfl rfl rfl)<|My a<|Mn (ay (gD cs 0).act id.a&&ay (gD cs 0).item id.i) (fun _=>Ky 0<|rr0 false) fun _=>Kp 1 hA<|Mg 1<|ZY (0:Nat) [1,2,3,4,10,15,16] (fun a=>([iV day,aj p,aW<|gs.map ae,bX 0 0 0 0,aW<|cs.map bf,aW<|A.map bf,nV a],[aZ 3 false 0 [ak [iV id.a,iV id.i,iV id.n]],aZ 8 false 0 [ak (uLx u)],aZ 8 false 0 [ak (uLx x)]])) (fun a=>a<=A.length) (fun a=>A.length-a) (by exact bA _) fun za1 a b=>have:=a;Kl 2 94 (ln bf A)<|Ka 0 (Int.ofNat za1) (Int.ofNat A.length) (fun _ _=>Mg 1<|K4 (0:Nat) false [1,2,3,4,10,15,16,17,18] (fun a b=>([iV day,aj p,aW<|gs.map ae,bX 0 0 0 0,aW<|cs.map bf,aW<|A.map bf,nV za1,eO b,nV a],[aZ 3 false 0 [ak [iV id.a,iV id.i,iV id.n]],aZ 8 false 0 [ak (uLx u)],aZ 8 false 0 [ak (uLx x)]])) (fun a b=>a<=cs.length/\b=(cs.take a).any (Ws<|gD A za1)) (fun a _=>cs.length-a) (by exact⟨bA _,rfl⟩) fun a c hx2 d=>have hx2:=hx2;Kl 2 100 (ln bf cs)<|Ka 0 (Int.ofNat a) (Int.ofNat cs.length) (fun _ _=>Kb 1 c (fun b=>Mt b<|Mt b<|Mt b<|Mt b<|Mt b<|Mt b<|Mt b<|Mt b<|MV b<|Kl 2 103 (i7 a)<|Kf 0<|d (a+1) true (by exact⟨by(simp only[oN]at *;omega),aaC (by(simp only[oN]at *;omega)) hx2.2 (by assumption)⟩)<|by(simp only[oN]at *;omega)) fun b=>Kh 0 b<|Kh 0 b<|Mx (aR bf (by(simp only[oN,lM,lS]at *;omega):a<(cs).length))<|Mh b<|Kh 0 b<|Kh 0 b<|Kh 0 b<|Mx (aR bf (by(simp only[oN,lM,lS]at *;omega):za1<(A).length))<|Mh b<|Kh 0 b<|Mv (yB (d:=(Tryz.prog).underlying 60) (n:=2) (l:=(0,1)::(1,1)::[]) (xs:=[iV (gD cs a).act,iV (gD cs a).item]) (ys:=[iV (gD A za1).act,iV (gD A za1).item]) (H:=AHeap.mk 1000000 Tr.nil) rfl<|nP (e:=ay (gD cs a).act (gD A za1).act) rfl rfl rfl<|xd (e:=ay (gD cs a).item (gD A za1).item) rfl rfl rfl rfl)<|My b<|Kl 2 103 (i7 a)<|Kf 0<|d (a+1) (ay (gD cs a).act (gD A za1).act &&ay (gD cs a).item (gD A za1).item) (by exact⟨by(simp only[oN]at *;omega),aaD (by(simp only[oN]at *;omega)) hx2.2 (by assumption)⟩)<|by(simp only[oN]at *;omega)) fun _ _=>Kn 2 c (fun a=>Mt (cS a)<|Mt (cS a)<|Mt (cS a)<|Mt (cS a)<|Mt (cS a)<|Mt (cS a)<|MV (cS a)<|Ky 1<|rr0 false) fun a=>Kh 0 (cE a)<|Kh 0 (cE a)<|Kh 0 (cE a)<|Kh 0 (cE a)<|Kh 0 (cE a)<|Mp (hExp za1<|by(simp only[oN]at *;omega))<|Mh (cE a)<|Kw 0 (cE a)<|Mb (dM (ex za1) (ByteArray.mk #[]).data.toList) (fun _=>Kf 0<|cb<|rr0 false) fun _=>Kl 1 97 (i7 za1)<|Kf 0<|b (za1+1) (by(simp only[oN]at *;omega))<|by(simp only[oN]at *;omega)) fun _ _=>Kl 2 129 (ln bf A)<|Kp 2 hExh<|Kp 5 hExl<|Kf 2<|bw<|eO true
theorem xn(a:PAct):∀(l:List PItem)(i:Nat)(d:PDeed),d∈b6 a l i->0<=d.item/\d.item<Int.ofNat (i+l.length)
  | x::r,i,d,h=>by
    rcases dO.1 h with rfl|h
    · exact⟨Int.natCast_nonneg _,by show Int.ofNat i<_;simp only[oN,lC]at *;omega⟩
    · obtain⟨h1,h2⟩:=xn a r (i+1) d h
      exact⟨h1,by simp only[oN,lC]at *;omega⟩
theorem J5{day:Int}{p:aH}{gs:List PGaz}(ok:OkG gs){d:PDeed}(h:d∈fE day p gs):Po d.item:=by
  obtain⟨o,ho,rfl⟩:=gn.1 (tf.1 h).1
  obtain⟨a,ha,hoa⟩:=List.mem_flatMap.1 ho
  have hl:=(ok.act ha).1
  obtain⟨q1,q2⟩:=xn a _ 0 o hoa
  obtain⟨_,p2,_⟩:=EF (al (dr gs) []) o
  unfold Po
  rw[p2];simp only[oN]at *;omega
theorem We{gs:List PGaz}{a:PAct}(h:a∈dr gs):∃g,g∈gs/\a∈g.acts:=by
  rcases tY gs [] a ((iO gs).mem_iff.1 h)with q|q
  · cases q
  · exact q
theorem Oi{day:Int}{p:aH}{gs:List PGaz}(ok:OkG gs):StgX (fE day p gs):=by
  refine⟨(ok.force day p).2.1,fun d h=>KT h,fun j k hj hk e1 e2=>?_⟩
  obtain⟨a,a1,a2,a3⟩:=rB (dZ hj)
  obtain⟨b,b1,b2,b3⟩:=rB (dZ hk)
  have hab:=DI a1 b1 (by rw[a2,b2];exact e1)
  rw[hab]at a3
  have hup:=Hm day p gs
  rcases Nat.lt_trichotomy j k with h|h|h
  · have:=Lj hup h hk;unfold Pn at this;omega
  · exact h
  · have:=Lj hup h hj;unfold Pn at this;omega
theorem Zy{id:PId}{u:TUnit}{d:PDeed}(h:pS id u d=true):ay (di u d).2 0=true:=by
  have z:=QX h
  unfold nC at z
  cases q:ay (di u d).2 0 with
  |true=>rfl
  |false=>rw[q]at z;cases z
theorem Ir(id:PId)(day:Int)(p:aH)(gs:List PGaz)(hf:pM gs)(hk:∀g,g∈gs->∀a,a∈g.acts->Po a.number/\Po a.day)(haw:kP 18 [] (.bool true)):kP 5 [aK id,iV day,.str p,.ls (gs.map ae)] (.bool true):=by
  have hw:=VA gs p hf
  cases hb:OB gs p with
  |false=>rw[hb]at hw;exact Y5 id day p gs haw hw
  | true=>
    rw[hb]at hw
    have ok:=(XH hf hb).1
    obtain⟨hl,hi,ho⟩:=ok.force day p
    have S:=Oi (day:=day) (p:=p) ok
    have hE:=Vy ok day p
    have hB:=ok.book day p
    have hit:∀d,d∈fE day p gs->Po d.item:=fun d h=>J5 ok h
    have hfa:∀d,d∈fE day p gs->∃a,a∈dr gs/\a.number=d.act:=fun d h=>(rB h).imp fun a h=>⟨h.1,h.2.1⟩
    have hC:=YF jv E0 Sg id day p gs _ hl (fun d hd=>⟨hi d hd,KT hd⟩) ho
    have hOk:OkB (Io day p gs):=ok.okB day p
    have hbk:Io day p gs=bR jv (fE day p gs):=rfl
    have hac:=ok.all.1
    have haL:(dr gs).length<2^30:=nF ok.lens.1 (by decide)
    have ha:∀a,a∈dr gs->Po a.number/\Po a.day:=fun a h=>by
      obtain⟨g,g1,g2⟩:=We h
      exact hk g g1 a g2
    generalize Io day p gs=u at *
    generalize fE day p gs=X at *
    have hcl:(iN id jv X).length<2^30:=nF (BW ..) hl
    have h1:∀k,k<(iN id jv X).length->kP 22 [.ls (X.map aU),bf (gD (iN id jv X) k)] (.bool true):=fun k hk=>by
      obtain⟨j,j1,j2,j3⟩:=KB id X jv _ (dZ hk)
      have z:=U3 X (gD (iN id jv X) k) (by omega)
      rw[show X.any (tk (gD (iN id jv X) k).act (gD (iN id jv X) k).item)=true from qx.2 ⟨_,dZ j1,by rw[j2];exact S9 (bQ _) (bQ _)⟩]at z
      exact z
    have h2:∀k,k<(iN id jv X).length->kP 23 [iV day,.str p,bf (gD (iN id jv X) k),.ls (gs.map ae)] (.bool true):=fun k hk=>by
      obtain⟨j,j1,j2,j3⟩:=KB id X jv _ (dZ hk)
      have z:=hE j j1
      rw[Zy j3]at z
      rw[j2];exact z
    have hF:=qT hOk id
    cases hz:(ay id.a 0&&(ay id.i 0&&ay id.n 0))with
    | true=>
      obtain⟨a,i,n⟩:=id
      simp only[bz]at hz
      obtain rfl:=iQ hz.1
      obtain rfl:=iQ hz.2.1
      obtain rfl:=iQ hz.2.2
      cases hh:be ⟨0,0,0⟩ u with
      |false=>rw[hh]at hF;exact Nk _ day p gs X _ u _ haw hw hcl hB hC ho h1 h2 hF
      |true=>rw[hh]at hF;exact aav day p gs X _ u _ haw hw hcl hB hC ho h1 h2 hF
    | false=>
      have h0:id≠⟨0,0,0⟩:=fun e=>by rw[e]at hz;cases hz
      cases hh:be id u with
      |false=>rw[hh]at hF;exact Nk id day p gs X _ u _ haw hw hcl hB hC ho h1 h2 hF
      | true=>
        rw[hh]at hF
        have hbX:vU X X.length=u:=by unfold vU;rw[List.take_length,hbk]
        obtain⟨hx,hxi⟩:=fu hh
        obtain⟨r,hr⟩:=S.first h0 (by rw[hbX];exact hh)
        have hau:=fun w hw=>S.auth X.length (af _) (bG id u) (by rw[hbX];exact hx) w hw
        have hwl:=hOk.w _ hx
        have l1:(bG id u).head.length<2^30:=by omega
        have l2:(bG id u).words.length<2^30:=by omega
        have hA:=WX u (bG id u) id true l1 l2 hF
        have eA:(PW (bG id u)).length=(bJ (bG id u)).length:=b9 ..
        have gA:∀k,k<(bJ (bG id u)).length->gD (PW (bG id u)) k=DR (gD (bJ (bG id u)) k):=fun k hk=>by
          unfold PW
          rw[Hh (by rw[lM];exact hk),List.getElem_map,Hh hk]
        have hwo:(bJ (bG id u)).length<2^31:=by unfold bJ;rw[lA];omega
        have hEx:=fun k hkb=>Yl id k day p gs (dr gs) u _ true l1 l2 hB hF hac haL hkb (fun hk=>(hau _ (dZ hk)).1) (fun hk=>by
          obtain⟨_,j,j1,_,j3,_⟩:=hau _ (dZ hk)
          rw[j3];exact hit _ (dZ j1)) ha
        refine Y6 id day p gs X _ (PW (bG id u)) u (bG id u) (fun k=>OD (bJ (bG id u)) k (dr gs)) hz haw hw hcl (by omega) hB hC ho h1 h2 hF (by rw[hr];exact qK _) (by rw[hr];exact bQ _) (by rw[hr];exact bQ _) hA (fun k hk=>?_) (fun k hk=>?_) (fun k hk=>?_) (by rw[eA];have z:=hEx (bJ (bG id u)).length hwo;rw[AG (af _)]at z;exact z) (Yi id day p gs u _ true l1 l2 hB hF)
        · rw[eA]at hk
          obtain⟨_,j,j1,j2,j3,j4⟩:=hau _ (dZ hk)
          rw[hxi]at j4
          rw[gA k hk]
          refine qx.2 ⟨_,NV id X jv j j1 j4,?_⟩
          show(ay (gD X j).act _&&ay (gD X j).item _)=true
          unfold DR;rw[j2,j3,bQ,bQ];rfl
        · exact hEx k (by omega)
        · rw[eA]at hk
          obtain⟨t,j,j1,j2,j3,j4⟩:=hau _ (dZ hk)
          obtain⟨a,a1,a2⟩:=hfa _ (dZ j1)
          show dM (OD _ k _) []=false
          rw[yf hk]
          exact Sk ⟨a,a1,a2.trans j2.symm⟩
noncomputable abbrev a34:AV:=.agg [iV 0,iV 0,iV 0,iV 0,.str [],.nils,.nils,.ps [.agg [iV 1,iV 0,iV 1,iV 2,.str [49],.nils,.ps [.agg [.str [97],iV 1,iV 0,iV 0],.agg [.str [99],iV 2,iV 0,iV 0]] false,.ps [] true]] false]
abbrev Wm:List PWord:=[⟨[97],1,0,0⟩,⟨[99],2,0,0⟩]
theorem V7:kD 71 [a34,.map 0] (aa [.map [] 0]) (.tuple []) (aa [.map (bH bW (tally Wm []) 0) (tally Wm []).length]):=by
  exact wcq Tryz.func71 (.go 4<|.un 0<|.go 5<|.un 1<|.go 12<|.frz 1 [] .fin) fun a=>et (et rt ti) a
theorem Jn(p q:PPair):kP 73 [fk p,fk q] (iV (ld p q)):=by
  have rr0 b' (h:(ld p q)=b':=by(unfold ld;simp only[*];rfl)):=h;exact bp Tryz.func73<|Ka 7 p.a q.a (fun _ _=>Kf 0<|li<|rr0 (-1)) fun _ _=>Kf 0<|li<|rr0 1
theorem Ue:Go.Sort.SWO (wQ ld):=by
  have key:∀a b:PPair,wQ ld a b=aB a.a b.a:=fun a b=>zD a b
  refine⟨fun x=>?_,fun x y z h1 h2=>?_,fun x y z h1 h2=>?_⟩
  · rw[key];exact ky (Int.le_refl _)
  · rw[key]at *;have:=aA h1;have:=aA h2;exact nQ (by omega)
  · rw[key]at *;have:=aF h1;have:=aF h2;exact ky (by omega)
theorem XA(a b:PPair):wQ ld b a=false↔a.a<=b.a:=by
  have:wQ ld b a=aB b.a a.a:=zD b a
  rw[this]
  exact⟨aF,ky⟩
theorem Gs(l:List PPair)(ep n:Nat)(hn:n=l.length)(hz:0<l.length)(hb:l.length<2^40):
    kC 72 [.slice 0 ep 0 n none,.func (.func 73) [] []] (aa [.row 2 true ep (l.map fk)])
      (fun v h=>∃l':List PPair,(l'.Perm l/\l'.Pairwise fun x y=>x.a<=y.a)/\v=.tuple []/\h=aa [.row 2 true ep (l'.map fk)]):=by
  subst hn
  refine(sk (f:=72) (g:=73) (sz:=2) jk (Go.Proofs.Tryz.lpair.f6.enters rfl) (Go.Proofs.enters_of Tryz.func73 (by kernel_rfl) rfl)
    (fun m enc cf blk off cap d w hk h1 hO hc hH hblk hsz=>Go.Proofs.AnyQ.slices_SortFunc Go.Proofs.Tryz.lpair 2 Tryz.isAgg106 Tryz.sizeOf106 enc hk h1 cf hO 73 #[] blk off cap d w (Go.Proofs.enters_of Tryz.func73 (by kernel_rfl) rfl) hc hH hblk hsz)
    fk ld Ue (fun a=>⟨_,rfl⟩) (fun a=>rfl) l (fun a _ b _=>Jn a b) (h:=aa [.row 2 true ep (l.map fk)]) (op:=true) rfl hz (by omega)).mono fun v h ⟨l',⟨h1,h2⟩,h3,h4⟩=>
      ⟨l',⟨h1,h2.imp fun{a b} h=>(XA a b).1 h⟩,h3,h4.trans rfl⟩
theorem Ea:kP 72 [.nils,.func (.func 73) [] []] (.tuple []):=
  oU (Go.Proofs.Tryz.lpair.f6.enters rfl) fun p cap fv w=>Go.Proofs.AnyF.slices_SortFunc_none {Go.Proofs.Tryz.lpair with} p cap fv w
def Fa(M:List (Int×Int))(n:Nat)(s:List Nat)(l:List PPair):Prop:=n=l.length/\0<n/\l=s.map (fun i=>pJ (gD M i))/\s.Nodup/\∀i,i∈s->i<M.length
theorem Jw{M:List (Int×Int)}{i:Nat}(h:i<M.length):Fa M 1 ([]++[i]) [⟨(gD M i).1,(gD M i).2⟩]:=
  ⟨rfl,by decide,rfl,List.nodup_cons.2 ⟨List.not_mem_nil,List.nodup_nil⟩,fun j hj=>by rw[ig.1 hj];exact h⟩
theorem NH{M:List (Int×Int)}{n i:Nat}{s:List Nat}{l:List PPair}(h:Fa M n s l)(hi:i<M.length)(hs:¬i∈s):Fa M (n+1) (s++[i]) (l++[⟨(gD M i).1,(gD M i).2⟩]):=by
  obtain⟨h1,h2,h3,h4,h5⟩:=h
  refine⟨by rw[lA,<-h1];rfl,qK _,by rw[h3,oJ];rfl,zN h4 hs,fun j hj=>?_⟩
  rcases fK.1 hj with k|k
  · exact h5 j k
  · rw[ig.1 k];exact hi
theorem Xn{M:List (Int×Int)}{n:Nat}{s:List Nat}{l:List PPair}(h:Fa M n s l)(hM:M.length<=2^30):n=l.length/\0<l.length/\l.length<=2^30/\s.length<=M.length:=by
  obtain⟨h1,h2,h3,h4,h5⟩:=h
  have h6:=qB _ s h4 h5
  exact⟨h1,h1▸h2,by rw[h3,lM];omega,h6⟩
theorem UQ{M:List (Int×Int)}{n i:Nat}{s:List Nat}{l:List PPair}(h:Fa M n s l)(hi:i<M.length)(hs:¬i∈s):s.length<M.length:=Qb h.2.2.2.1 h.2.2.2.2 hi hs
theorem Xz{ws:List PWord}{M:List (Int×Int)}{n:Nat}{s:List Nat}{l y:List PPair}(hM:tally ws []=M)(h:Fa M n s l)(hd:∀i,i<M.length->i∈s)(hy:y.Perm l/\y.Pairwise fun x y=>x.a<=y.a):
    (lk ws).map fk=(y.take n).map fk:=by
  obtain⟨h1,h2,h3,h4,h5⟩:=h
  rw[<-Jk hM hy.1 hy.2 h3 h4 h5 hd,th (by rw[hy.1.length_eq,h1];exact af _)]
def PR(M:List (Int×Int))(x0:Unit):Prop:=True
noncomputable def FL(M:List (Int×Int))(x0:Unit):List AV×List AObj:=([AV.nils,AV.ptr 1 0 0 0],[AObj.map (bH bW M 0) M.length,AObj.miter (AV.map 0) M.length []])
def PP(M:List (Int×Int))(x0:Nat×Nat×List Nat×List PPair):Prop:=Fa M x0.2.1 x0.2.2.1 x0.2.2.2
noncomputable def PO(M:List (Int×Int))(x0:Nat×Nat×List Nat×List PPair):List AV×List AObj:=([AV.slice 2 x0.1 0 x0.2.1 none,AV.ptr 1 0 0 0],[AObj.map (bH bW M 0) M.length,AObj.miter (AV.map 0) M.length x0.2.2.1,AObj.row 2 true x0.1 (x0.2.2.2.map fk)])
theorem Xq:kP 42 [a34] (.ls ((lk Wm).map fk)):=by
  have hc:=V7
  have hML:(tally Wm []).length<=2^30:=(by decide)
  generalize hM:tally Wm []=M at hc hML
  have rr0 b' (h:((lk Wm).map fk)=b':=by first|(rw[Gq hM ‹_›];rfl)|exact Xz hM hx0 ‹_› hy3):=h;exact bp Tryz.func42<|Mg 5<|M0 (.ren [1,0] [] [3,8,9])<|M1 (.frz 1 [3,8,9]) (et rt ti)<|Me hc<|Mg 2<|MM Unit (Nat×Nat×List Nat×List PPair) [4,12] (FL M) (PO M) (PR M) (PP M) (fun _=>M.length) (fun a=>M.length-a.2.2.1.length) (.inl ()) (aJ<|FL M ()) (by trivial:True) (fun _ hx0 a=>have hx0:=hx0;Mw (.nxt Nat (fun a=>iV (gD M a).1) (fun a=>bW (gD M a).2) (fun a=>a) (fun a=>a<M.length/\¬a∈[]) (.go 2<|.pure (cK [])<|.go 1 .fin) fun a=>.go 1<|.ent (cK [iV (gD M a).1,iV (gD M a).2])<|.go 10 .fin)<|cp (AO (f:=bW) (l:=M) (seen:=[])) (fun a=>(fun(_:∀(i1:Nat),i1<M.length->i1∈[])=>et Ea (Le.lsn<|rr0 []:Le _ (ab)))<|AP (f:=bW) (l:=M) a) fun(b:Nat)(c:b<M.length/\¬b∈[])=>(fun(_:b<M.length)=>et (xf (f:=bW) (l:=M) (s:=[]) (i:=b) oA)<|a (.inr (0,1,[]++[b],[PPair.mk (gD M b).1 (gD M b).2])) (by exact Jw c.1:Fa M (1:Nat) ([]++[b]) [PPair.mk (gD M b).1 (gD M b).2]) (by(simp only[lA,lC,lN];omega):M.length-([]++[b]).length<M.length)) c.1) fun a hx0 b=>have hx0:=hx0;have:=Xn hx0 hML;Mw (.nxt Nat (fun a=>iV (gD M a).1) (fun a=>bW (gD M a).2) (fun a=>a) (fun b=>b<M.length/\¬b∈a.2.2.1) (.go 2<|.ren [2,0,1] [2,0] [4,24]<|.frz 1 [4,24]<|.eff (List PPair) (fun _=>cK []) (fun b=>aa [aZ 2 true a.1<|b.map fk]) (fun b=>b.Perm a.2.2.2/\List.Pairwise (fun a b=>a.a<=b.a) b) fun b=>let a:=List.map fk<|b.take a.2.1;.go 1<|.fsl 0 [] 2 a<|.le 2 (aW a) .fin) fun b=>.go 1<|.ent (cK [iV (gD M b).1,iV (gD M b).2])<|.go 8<|.app<|.obj 2 (aZ 2 true (a.1+1)<|(a.2.2.2++[PPair.mk (gD M b).1 (gD M b).2]).map fk)<|.go 0 .fin)<|cp (AO (f:=bW) (l:=M) (seen:=a.2.2.1)) (fun b=>(fun(_:∀(i2:Nat),i2<M.length->i2∈a.2.2.1)=>EM (tS 2 true a.1<|aX W0 a.2.2.2) (tN M.length<|aD (f:=bW) (fun _=>rfl) M 0) (et (tR 2 true a.1 1<|aX W0 a.2.2.2) ti) (Gs a.2.2.2 a.1 a.2.1 oA oA oA) fun(b:List PPair)(hy3:b.Perm a.2.2.2/\List.Pairwise (fun x y=>x.a<=y.a) b)=>let c:=List.map fk<|b.take a.2.1;js ti (cp (aJ a.1) (zW (f:=fk) (l:=b) (n:=a.2.1))<|aX W0<|b.take a.2.1) (eP c false<|aX W0<|b.take a.2.1)<|cY<|rr0 c)<|AP (f:=bW) (l:=M) b) fun(c:Nat)(d:c<M.length/\¬c∈a.2.2.1)=>(fun(_:c<M.length)=>js (xf (f:=bW) (l:=M) (s:=a.2.2.1) (i:=c) oA) (cp (aJ a.1) (by(simp only[lM];omega):a.2.1=(a.2.2.2.map fk).length) (by(refine ar (m:=2^31) ?_ ?_ ?_<;>omega):small (a.2.1+1) 16=true)) (congrArg (aZ 2 true<|a.1+1)<|dK (f:=fk) (l:=a.2.2.2) (ws:=[PPair.mk (gD M c).1 (gD M c).2]))<|b (.inr (a.1+1,a.2.1+1,a.2.2.1++[c],a.2.2.2++[PPair.mk (gD M c).1 (gD M c).2])) (by exact NH hx0 d.1 d.2:Fa M (a.2.1+1) (a.2.2.1++[c]) (a.2.2.2++[PPair.mk (gD M c).1 (gD M c).2])) (by(have:=UQ hx0 d.1 d.2;simp only[lA,lC,lN];omega):M.length-(a.2.2.1++[c]).length<M.length-a.2.2.1.length)) d.1
end Go.Proofs.YtadodlkibeofjaaGreatDoor
