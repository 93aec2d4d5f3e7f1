/- Functions walked: what each of them answers, for Each item of an act that is in force either takes effect or is reported as a failure with the reason that consolidation reports: part 8. Conditions: those that each theorem names. -/
import Derived.Test.YtiodnhiainjfgaaGreatDoorH7
namespace Go.Proofs.YtiodnhiainjfgaaGreatDoor
open Go Go.Ev
def Nd(l:List PAct):Prop:=(l.map (·.number)).Nodup
theorem RE{out:List PAct}{a:PAct}(h:Nd out):Nd (jW out a):=by
  unfold jW
  cases q:gy a.number (out.map fun b=>(b.number,true))with
  |some v=>exact h
  | none=>
    unfold Nd
    rw[pn,List.nodup_append]
    refine⟨h,by simp,fun x hx y hy=>?_⟩
    obtain⟨b,hb,rfl⟩:=jg.1 hx
    simp only[ej,vf,mT]at hy
    rw[hy];exact n7 (out:=out) q b hb
theorem Ep:∀(ys out:List PAct),Nd out→Nd (ys.foldl jW out)
  |[],_,h=>h
  |_::r,_,h=>Ep r _ (RE h)
theorem CZ:∀(gs:List PGaz)(out:List PAct),Nd out→Nd (bX gs out)
  |[],_,h=>h
  |g::r,_,h=>CZ r _ (Ep g.acts _ h)
theorem UY(gs:List PGaz):(eD gs).Pairwise fun a b=>eN a b=true:=by
  have h1:=(sL iB (bX gs []) [] .nil).2
  have h2:Nd (eD gs):=((je gs).map _).nodup_iff.2 (CZ gs [] (by simp[Nd]))
  have h3:(eD gs).Pairwise fun a b=>a.number≠b.number:=List.pairwise_map.1 h2
  refine(List.Pairwise.and h1 h3).imp fun{a b} h=>?_
  obtain⟨p,q⟩:=h
  rw[kB]
  rw[←Bool.not_eq_true,kB]at p
  omega
/-- The legal order of amendments. -/
def UF(d e:PDeed):Prop:=d.day<e.day∨(d.day=e.day∧(d.act<e.act∨(d.act=e.act∧d.item<e.item)))
theorem mG(a:PAct):∀(l:List PItem)(i:Nat),(bP a l i).Pairwise UF∧∀d,d∈bP a l i→d.act=a.number∧d.day=a.day∧Int.ofNat i≤d.item
  |[],_=>⟨.nil,fun _ h=>by cases h⟩
  | x::r,i=>by
    obtain⟨h1,h2⟩:=mG a r (i+1)
    refine⟨.cons (fun d hd=>?_) h1,fun d hd=>?_⟩
    · obtain⟨q1,q2,q3⟩:=h2 d hd
      exact .inr ⟨q2.symm,.inr ⟨q1.symm,by simp only[oN]at *;omega⟩⟩
    · rcases fO.1 hd with rfl|hd
      · exact⟨rfl,rfl,Int.le_refl _⟩
      · obtain⟨q1,q2,q3⟩:=h2 d hd
        exact⟨q1,q2,by simp only[oN]at *;omega⟩
theorem wF:∀(L:List PAct),(L.Pairwise fun a b=>eN a b=true)→(kV L).Pairwise UF
  |[],_=>.nil
  | a::r,h=>by
    cases h with
    | cons h1 h2=>
      rw[kV,Ez,List.pairwise_append]
      refine⟨(mG a _ 0).1,wF r h2,fun d hd e he=>?_⟩
      obtain⟨b,hb,he⟩:=List.mem_flatMap.1 he
      have z:=(kB a b).1 (h1 b hb)
      obtain⟨p1,p2,_⟩:=(mG a _ 0).2 d hd
      obtain⟨q1,q2,_⟩:=(mG b _ 0).2 e he
      unfold UF;omega
theorem Iw(m:sm)(d:PDeed):(lZ m d).act=d.act∧(lZ m d).item=d.item∧(lZ m d).day=d.day:=by
  unfold lZ;split<;>exact⟨rfl,rfl,rfl⟩
theorem P5(day:Int)(p:aP)(gs:List PGaz):(j9 day p gs).Pairwise UF:=by
  have h:(qh gs).Pairwise UF:=List.pairwise_map.2 ((wF _ (UY gs)).imp fun{d e} h=>by
    have h1:=Iw (am (eD gs) []) d
    have h2:=Iw (am (eD gs) []) e
    unfold UF at *;omega)
  exact h.filter _
theorem B7{day:Int}{p:aP}{gs:List PGaz}{d:PDeed}(h:d∈j9 day p gs):∃a,a∈eD gs∧a.number=d.act∧a.day=d.day:=by
  obtain⟨o,ho,rfl⟩:=jg.1 (xE.1 h).1
  obtain⟨a,ha,hoa⟩:=List.mem_flatMap.1 ho
  obtain⟨q1,q2,_⟩:=(mG a _ 0).2 o hoa
  obtain⟨p1,_,p3⟩:=Iw (am (eD gs) []) o
  exact⟨a,ha,by omega,by omega⟩
theorem Nv{gs:List PGaz}{a b:PAct}(ha:a∈eD gs)(hb:b∈eD gs)(e:a.number=b.number):a=b:=
  qv gs [] (fun _ _ h=>by cases h) a b ((je gs).mem_iff.1 ha) ((je gs).mem_iff.1 hb) e
/-- Two lists, side by side. -/
def Wo(P:PFail→PDeed→Prop):List PFail→List PDeed→Prop
  |[],[]=>True
  |f::a,d::b=>P f d∧Wo P a b
  |_,_=>False
/-- The errors by their places. -/
def wZ(l:List PFail)(m:List ((Int×Int)×Int)):List ((Int×Int)×Int):=l.foldl (fun m f=>dD eB (f.act,f.item) f.why m) m
theorem zu{a b:Int×Int}:eB a b=true↔a=b:=by
  unfold eB
  constructor
  · intro h
    have h:=mK.1 h
    exact Prod.ext (iY h.1) (iY h.2)
  · rintro rfl;simp only[aR,vt]
theorem Dc{V:Type}(k j:Int×Int)(v:V):∀(m:List ((Int×Int)×V)),iq eB j (dD eB k v m)=match eB j k with|true=>some v|false=>iq eB j m
  |[]=>by simp only[dD,iq];cases eB j k<;>rfl
  | (i,u)::r=>by
    rw[dD]
    cases q:eB k i with
    |true=>have:=zu.1 q;subst this;simp only[iq];cases eB j k<;>rfl
    | false=>
      simp only[iq]
      cases q2:eB j i with
      | true=>
        have:=zu.1 q2;subst this
        cases q3:eB j k with
        |true=>have:=zu.1 q3;subst this;rw[q]at q3;cases q3
        |false=>rfl
      |false=>exact Dc k j v r
theorem yO{k:Int×Int}:∀(l:List PFail)(m:List ((Int×Int)×Int)),(∀f,f∈l→(f.act,f.item)≠k)→iq eB k (wZ l m)=iq eB k m
  |[],_,_=>rfl
  | f::r,m,h=>by
    have e:eB k (f.act,f.item)=false:=by
      cases q:eB k (f.act,f.item)with
      |false=>rfl
      |true=>exact absurd (zu.1 q).symm (h f (fY ..))
    exact(yO r _ fun x hx=>h x (fU _ hx)).trans (by rw[Dc,e])
/-- Two places differ. -/
def Wp(d e:PDeed):Prop:=(d.act,d.item)≠(e.act,e.item)
theorem Vz{X:List PDeed}(h:X.Pairwise UF)(hd:∀d e,d∈X→e∈X→d.act=e.act→d.day=e.day):X.Pairwise Wp:=h.imp_of_mem fun{d e} h1 h2 q e2=>by
  simp only[rz]at e2
  have:=hd d e h1 h2 e2.1
  unfold UF at q;omega
theorem P6(day:Int)(p:aP)(gs:List PGaz):(j9 day p gs).Pairwise Wp:=Vz (P5 day p gs) fun d e h1 h2 q=>by
  obtain⟨a,a1,a2,a3⟩:=B7 h1
  obtain⟨b,b1,b2,b3⟩:=B7 h2
  have:=Nv a1 b1 (by omega)
  rw[←a3,←b3,this]
theorem uS{u:TUnit}{d:PDeed}{f:PFail}(h:f∈qJ u d):f.act=d.act∧f.item=d.item∧f.why≠0:=by
  unfold qJ at h
  cases q:oV d.it.kind with
  |false=>rw[q]at h;cases h
  | true=>
    rw[q]at h
    cases q2:ab (fg u d).2 0 with
    |true=>rw[q2]at h;cases h
    | false=>
      rw[q2]at h
      have h:f=⟨d.act,d.item,(fg u d).2⟩:=by simpa using h
      subst h;exact⟨rfl,rfl,Cq q2⟩
theorem PX(u:TUnit)(d:PDeed):qJ u d=[]∨∃f,qJ u d=[f]:=by
  unfold qJ
  cases oV d.it.kind with
  |false=>exact .inl rfl
  | true=>
    cases ab (fg u d).2 0 with
    |true=>exact .inl rfl
    |false=>exact .inr ⟨_,rfl⟩
theorem vU:∀{l:List PDeed}{u:TUnit}{f:PFail},f∈bZ u l→∃d,d∈l∧f.act=d.act∧f.item=d.item
  |[],_,_,h=>by cases h
  | d::r,u,f,h=>by
    rw[bZ]at h
    rcases ji.1 h with h|h
    · exact⟨d,fY ..,(uS h).1,(uS h).2.1⟩
    · obtain⟨e,h1,h2⟩:=vU h
      exact⟨e,fU _ h1,h2⟩
/-- What the law asks of a failure and its item. -/
def UU(act:Int)(M:List ((Int×Int)×Int))(f:PFail)(d:PDeed):Prop:=f.item=d.item∧f.act=act∧f.why≠0∧iq eB (d.act,d.item) M=some f.why
noncomputable def tW(act:Int)(F:List PFail)(d:PDeed):Bool:=ab d.act act&&F.any (wD d.act d.item)
noncomputable def dP(act:Int)(F:List PFail):List PFail:=F.filter fun f=>ab f.act act
theorem HG (act:Int)(F:List PFail)(M:List ((Int×Int)×Int)):∀(r p:List PDeed)(u:TUnit)(G0:List PFail)(m:List ((Int×Int)×Int)),(p++r).Pairwise Wp→F=G0++bZ u r→(∀f,f∈G0→∃d,d∈p∧f.act=d.act∧f.item=d.item)→M=wZ (bZ u r) m→Wo (UU act M) ((bZ u r).filter fun f=>ab f.act act) (r.filter (tW act F))
  |[],p,u,G0,m,_,_,_,_=>trivial
  | d::r,p,u,G0,m,hp,hF,hG,hM=>by
    have hp2:((p++[d])++r).Pairwise Wp:=by rw[nD];exact hp
    have hpd:∀e,e∈p→Wp e d:=fun e he=>(List.pairwise_append.1 hp).2.2 e he d (fY ..)
    have hdr:∀e,e∈r→Wp d e:=(jG.1 (List.pairwise_append.1 hp).2.1).1
    rw[bZ]at hF hM ⊢
    rcases PX u d with e|⟨f,e⟩
    · rw [e,vp]at hF hM ⊢
      have hn:tW act F d=false:=by
        unfold tW
        have:F.any (wD d.act d.item)=false:=by
          refine List.any_eq_false.2 fun f hf hh=>?_
          unfold wD at hh
          have hh:=mK.1 hh
          have h1:=iY hh.1
          have h2:=iY hh.2
          rw[hF]at hf
          rcases ji.1 hf with q|q
          · obtain⟨c,c1,c2,c3⟩:=hG f q
            exact hpd c c1 (by rw[←c2,←c3,h1,h2])
          · obtain⟨c,c1,c2,c3⟩:=vU q
            exact hdr c c1 (by rw[←c2,←c3,h1,h2])
        rw[this,sr]
      rw[xD (by rw[hn];decide)]
      exact HG act F M r (p++[d]) (nG u d) G0 m hp2 hF (fun f hf=>by
        obtain⟨c,c1,c2⟩:=hG f hf
        exact⟨c,xG _ c1,c2⟩) hM
    · have hf:=uS (u:=u) (d:=d) (f:=f) (by rw[e];exact mT.2 rfl)
      rw[e]at hF hM ⊢
      have hany:F.any (wD d.act d.item)=true:=List.any_eq_true.2 ⟨f,by rw[hF];exact AP _ (xG _ (mT.2 rfl)),by unfold wD;rw[hf.1,hf.2.1,aR,aR];rfl⟩
      have hg:iq eB (d.act,d.item) M=some f.why:=by
        rw[hM,List.singleton_append]
        show iq eB _ (wZ (bZ (nG u d) r) (dD eB (f.act,f.item) f.why m))=_
        rw[yO _ _ fun x hx q=>by
          obtain⟨c,c1,c2,c3⟩:=vU hx
          exact hdr c c1 (by rw[←q,←c2,←c3]),Dc,hf.1,hf.2.1,zu.2 rfl]
      have ih:=HG act F M r (p++[d]) (nG u d) (G0++[f]) (dD eB (f.act,f.item) f.why m) hp2 (by rw[hF,nD]) (fun x hx=>by
        rcases ji.1 hx with q|q
        · obtain⟨c,c1,c2⟩:=hG x q
          exact⟨c,xG _ c1,c2⟩
        · rw[mT.1 q]
          exact⟨d,AP _ (mT.2 rfl),hf.1,hf.2.1⟩) (by rw[hM];rfl)
      rw[List.singleton_append]
      cases q:ab d.act act with
      | true=>
        have q1:ab f.act act=true:=by rw[hf.1];exact q
        have q2:tW act F d=true:=by unfold tW;rw[q,hany];rfl
        rw[show(f::bZ (nG u d) r).filter (fun f=>ab f.act act)=f::(bZ (nG u d) r).filter fun f=>ab f.act act from CA q1,show(d::r).filter (tW act F)=d::r.filter (tW act F)from CA q2]
        exact⟨⟨hf.2.1,iY q1,hf.2.2,hg⟩,ih⟩
      | false=>
        have q1:ab f.act act=false:=by rw[hf.1];exact q
        have q2:tW act F d=false:=by unfold tW;rw[q];rfl
        rw[show(f::bZ (nG u d) r).filter (fun f=>ab f.act act)=(bZ (nG u d) r).filter fun f=>ab f.act act from xD (by rw[q1];decide),xD (by rw[q2];decide)]
        exact ih
theorem Sx(act:Int)(X:List PDeed)(hX:X.Pairwise Wp)(u:TUnit):Wo (UU act (wZ (bZ u X) [])) (dP act (bZ u X)) (X.filter (tW act (bZ u X))):=
  HG act _ _ X [] u [] [] hX rfl (fun f hf=>by cases hf) rfl
noncomputable abbrev LF(act:Int):AV:=.func (.func 45) [] [.pptr [iV act] 0 0]
noncomputable abbrev UH:AV:=.agg [iV 0,iV 0,iV 0]
theorem Q6{b:Bool}(h:ax b=false):b=true:=by cases b<;>first|rfl|cases h
theorem Q4{b:Bool}(h:ax b=true):b=false:=by cases b<;>first|rfl|cases h
theorem DZ(act:Int)(d:PFail):kP 45 [af d,.pptr [iV act] 0 0] (.bool (ax (ab d.act act))):=by
  exact wk Tryz.func45 (.go 6 .fin)<|ba<|eP<|ax<|ab d.act act
theorem XA(X:List PFail)(act:Int)(ep m:Nat)(hm:m<X.length)(hs:X.length<2^30)(hA:∀k,k<m→ab (gD X k).act act=true)(hB:ab (gD X m).act act=false):kD 84 [.slice 0 ep 0 X.length none,LF act] (ay [fR ep X]) (nV m) (ay [fR ep X]):=by
  have hk:∀x,x≤m→ab (gD X x).act act=false→x=m:=fun x h1 h2=>by
    rcases eH x m with h|h
    · rw[hA x h]at h2;cases h2
    · omega
  have hk2:∀x,x≤m→ab (gD X x).act act=true→x+1≤m:=fun x h1 h2=>by
    rcases eH x m with h|h
    · exact h
    · rw[show x=m by omega,hB]at h2;cases h2
  let q:=ay [aZ 3 true ep (X.map af)];exact K7 Tryz.func84<|Mg 3<|Y5 (0:Nat) [0,1,7,8] (fun a=>([aG 0 ep 0 X.length none,bJ (bW 45) [] [AV.pptr [iV act] 0 0],nV X.length,nV a],[aZ 3 true ep<|X.map af])) (fun a=>a≤m) (fun a=>X.length-a) (by exact bD _) fun a b c=>have b:=b;Ka 0 (Int.ofNat a) (Int.ofNat X.length) (fun _ _=>K1 4 .rix (et (aU ep) (oA:a<X.length))<|Mr (et (aU ep)<|aT af (oA:a<(X).length))<|Mp (DZ act<|gD X a)<|Mb (ax<|ab (gD X a).act act) (fun _=>Kf 1<|et (by(rw[hk _ b (Q4 (by assumption))]):(nV a)=(nV m))<|aU q) fun _=>Kl 0 18 (iz a)<|Kf 0<|c (a+1) (by exact hk2 _ b (Q6 (by assumption)))<|by(omega)) fun _ _=>Kf 0<|et (by(exfalso;(simp only[oN]at *;omega)):(iV (-1))=(nV m))<|aU q
theorem Xu(X:List PFail)(act:Int)(ep:Nat)(hs:X.length<2^30)(hA:∀k,k<X.length→ab (gD X k).act act=true):kD 84 [.slice 0 ep 0 X.length none,LF act] (ay [fR ep X]) (iV (-1)) (ay [fR ep X]):=by
  exact fq Tryz.func84 fun a=>Mg 3<|Y5 (0:Nat) [0,1,7,8] (fun a=>([aG 0 ep 0 X.length none,bJ (bW 45) [] [AV.pptr [iV act] 0 0],nV X.length,nV a],[aZ 3 true ep<|X.map af])) (fun a=>a≤X.length) (fun a=>X.length-a) (by exact bD _) fun b c d=>have:=c;Ka 0 (Int.ofNat b) (Int.ofNat X.length) (fun _ _=>K1 4 .rix (et (aU ep) (by(simp only[oN,lM,lS]at *;omega):b<X.length))<|Mr (et (aU ep)<|aT af (by(simp only[oN,lM,lS]at *;omega):b<(X).length))<|Mp (DZ act<|gD X b)<|Mb (ax<|ab (gD X b).act act) (fun _=>Kf 1<|et (by(have z:=hA b (by(simp only[oN]at *;omega));simp_all;done):(nV b)=(iV (-1)))<|aU<|ay [aZ 3 true ep<|X.map af]) fun _=>Kl 0 18 (iz b)<|Kf 0<|d (b+1) (by(simp only[oN]at *;omega))<|by(simp only[oN]at *;omega)) fun _ _=>Kf 0 a
theorem VE(act:Int):kP 84 [.ls (([]:List PFail).map af),LF act] (iV (-1)):=by
  let q:=[aW [],bJ (bW 45) [] [AV.pptr [iV act] 0 0],iV 0,iV 0];exact bu Tryz.func84<|Mg 3<|WF [0,1,7,8] (q,[]) True 0 ti fun _ _=>Kf 2<|ba<|iV (-1)
noncomputable abbrev W6(ep:Nat)(K:List PFail)(n:Nat):AObj:=.row 3 true ep (K.map af++List.replicate n UH)
theorem X6{L:List PFail}{i n:Nat}(h:i≤L.length)(e:L.length=n):bp (L.map af) i (List.replicate (n-i) UH)=(L.take i).map af++List.replicate (n-i) UH:=by
  unfold bp
  rw[lR,xH (by rw[lM];omega),dr,List.map_take]
/-- What is kept so far stands ahead; what comes stands where it stood. -/
structure DelI(act:Int)(X L:List PFail)(j i:Nat):Prop where
  len:L.length=X.length
  lt:i<j
  le:j≤X.length
  pre:L.take i=(X.take j).filter fun d=>ab d.act act
  suf:L.drop j=X.drop j
theorem Iz{l:List PFail}{i:Nat}(h:i<l.length):gD l i=l[i]:=by simp[gD,List.getD,kM h]
theorem CE{l:List PFail}{k:Nat}(h:k<l.length):l.take (k+1)=l.take k++[gD l k]:=by
  rw[Iz h,List.take_append_getElem h]
theorem DelI.start{act:Int}{X:List PFail}{m:Nat}(hm:m<X.length)(hA:∀k,k<m→ab (gD X k).act act=true)(hB:ab (gD X m).act act=false):DelI act X X (m+1) m:=by
  refine⟨rfl,Nat.lt_succ_self m,hm,?_,rfl⟩
  rw[CE hm,List.filter_append,List.filter_eq_self.2 fun d hd=>?_,xD (by rw[hB];decide),List.filter_nil,dr]
  obtain⟨k,hk,e⟩:=List.mem_iff_getElem.1 hd
  rw[A9]at hk
  have:=hA k (by omega)
  rw[Iz (show k<X.length by omega)]at this
  rw[←e,List.getElem_take];exact this
theorem DelI.at_{act:Int}{X L:List PFail}{j i:Nat}(h:DelI act X L j i)(hj:j<X.length):gD L j=gD X j:=by
  have h1:=h.len
  have h2:=h.suf
  rw[Iz hj,Iz (show j<L.length by omega)]
  rw[AR (by omega),AR hj]at h2
  exact(List.cons.inj h2).1
theorem DelI.tail{act:Int}{X L:List PFail}{j i:Nat}(h:DelI act X L j i)(hj:j<X.length):L.drop (j+1)=X.drop (j+1):=by
  rw[←vg,←vg,h.suf]
theorem DelI.skip{act:Int}{X L:List PFail}{j i:Nat}(h:DelI act X L j i)(hj:j<X.length)(q:ab (gD L j).act act=false):DelI act X L (j+1) i:=by
  refine⟨h.len,Nat.lt_succ_of_lt h.lt,hj,?_,h.tail hj⟩
  rw[h.at_ hj]at q
  rw[h.pre,CE hj,List.filter_append,xD (by rw[q];decide),List.filter_nil,dr]
theorem DelI.keep{act:Int}{X L:List PFail}{j i:Nat}(h:DelI act X L j i)(hj:j<X.length)(q:ab (gD L j).act act=true):DelI act X (L.set i (gD L j)) (j+1) (i+1):=by
  have h1:=h.len
  have h2:=h.lt
  refine⟨by rw[lS];exact h.len,Nat.succ_lt_succ h.lt,hj,?_,?_⟩
  · have e:=h.at_ hj
    rw[e]at q ⊢
    have e2:(L.set i (gD X j)).take (i+1)=L.take i++[gD X j]:=by
      rw[CE (by rw[lS];omega),List.take_set_of_le (ah i),Iz (by rw[lS];omega),List.getElem_set_self]
    rw[e2,h.pre,CE hj,List.filter_append,show[gD X j].filter (fun d=>ab d.act act)=[gD X j]from CA q]
  · rw[List.drop_set_of_lt (by omega)];exact h.tail hj
theorem DelI.done{act:Int}{X L:List PFail}{j i:Nat}(h:DelI act X L j i)(hj:¬j<X.length):L.take i=dP act X∧i=(dP act X).length:=by
  have h1:=h.len
  have h2:=h.lt
  have h3:=h.le
  have e:L.take i=dP act X:=by rw[h.pre,xI (by omega)];rfl
  refine⟨e,?_⟩
  rw[←e,A9];omega
theorem Oj{ep:Nat}{xs:List AV}:nH 3 (ay [AObj.row 3 true ep xs]) 0 ep=some xs:=by
  have e:(ay [AObj.row 3 true ep xs]).get 0=some (AObj.row 3 true ep xs):=rfl
  unfold nH
  rw[e]
  have e2:(Nat.beq 3 3&&Nat.beq ep ep)=true:=by rw[nr,nr];rfl
  show(match(Nat.beq 3 3&&Nat.beq ep ep)with|true=>some xs|false=>none)=some xs
  rw[e2]
theorem TD(X:List PFail)(act:Int)(ep m:Nat)(hm:m<X.length)(hs:X.length<2^30)(hA:∀k,k<m→ab (gD X k).act act=true)(hB:ab (gD X m).act act=false):kD 44 [.slice 0 ep 0 X.length none,LF act] (ay [fR ep X]) (.slice 0 ep 0 (dP act X).length none) (ay [W6 ep (dP act X) (X.length-(dP act X).length)]):=by
  have hf:=XA X act ep m hm hs hA hB
  have e1:ab (Int.ofNat m) (-1)=false:=by rw[o5];exact decide_eq_false (by simp only[oN];omega)
  exact K7 Tryz.func44<|Ke 2 hf<|Kl 5 15 (iz m)<|Mg 0<|Uj (m+1) m X [0,1,5,6] (fun a b c=>([aG 0 ep 0 X.length none,bJ (bW 45) [] [AV.pptr [iV act] 0 0],nV b,nV a],[aZ 3 true ep<|c.map af])) (fun a b c=>DelI act X c a b) (fun a _ _=>X.length-a) (by exact DelI.start hm hA hB) fun a b c d e=>let f:=ay [aZ 3 true ep<|c.map af];let g:=aG 0 ep b (X.length-b) none;have d:=d;have:=d.len;have:=d.lt;have:=d.le;have:(c.take b).length=b:=(by rw[A9];omega);Ka 3 (Int.ofNat a) (Int.ofNat X.length) (fun _ _=>K1 1 .rix (et (aU ep) (by(simp only[oN,lM,lS]at *;omega):a<X.length))<|Mr (et (aU ep)<|aT af (by(simp only[oN,lM,lS]at *;omega):a<(c).length))<|Kp 3 (DZ act<|gD c a)<|Kn 0 (ax<|ab (gD c a).act act) (fun _=>K1 2 .rix (et (aU ep) (oA:b<X.length))<|M1 (.rst (af<|gD c b)<|(c.set b<|gD c a).map af) (cn (aU ep) (aT af (oA:b<(c).length))<|jk (f:=af) (l:=c) (i:=b) (w:=gD c a))<|Kl 1 35 (iz b)<|Kl 2 21 (iz a)<|K1 0 (.frz 1 [0,1,5,6]) (et (tR 3 true ep 1<|aX fL<|c.set b<|gD c a) ti)<|Mf<|e (a+1) (b+1) (c.set b<|gD c a) (by exact d.keep (by(simp only[oN]at *;omega)) (Q6 (by assumption)))<|by(simp only[oN]at *;omega)) fun _=>Kl 1 21 (iz a)<|K1 0 (.frz 1 [0,1,5,6]) (et (tR 3 true ep 1<|aX fL c) ti)<|Mf<|e (a+1) b c (by exact d.skip (by(simp only[oN]at *;omega)) (Q4 (by assumption)))<|by(simp only[oN]at *;omega)) fun _ _=>Ko 1 (by exact CM (xs:=c.map af) (l:=b) (h:=X.length) Oj (by rfl) (by rfl) (by omega) (by rw[lM];omega) (by omega) (by omega):bj f (c8 (3) f ((some (AV.slice 0 ep 0 X.length none))) ((some (nV b))) (none) (none))=some (ARes.val g f))<|Mo (by exact DE rfl (by kernel_rfl) (X6 (by omega) (by omega)):fJ (vw (3) (AV.agg [iV 0,iV 0,iV 0]) f ((some g)))=some (ARes.val (AV.tuple []) (ay [AObj.row 3 true ep ((c.take b).map af++List.replicate (X.length-b) UH)])))<|K1 1 .slc (cn (aU ep) (oA:0≤b) (by(simp only[oN,lM,lS,lA,lR,lC,lN]at * <;>omega):b≤((c.take b).map af++List.replicate (X.length-b) UH).length))<|Kf 0<|et (by(rw[←(d.done (by(simp only[oN]at *;omega))).2];done):(AV.slice 0 ep 0 b none)=(AV.slice 0 ep 0 (dP act X).length none)) (by(rw[←(d.done (by(simp only[oN]at *;omega))).2,←(d.done (by(simp only[oN]at *;omega))).1];done):(ay [AObj.row 3 true ep ((c.take b).map af++List.replicate (X.length-b) UH)])=(ay [W6 ep (dP act X) (X.length-(dP act X).length)]))
theorem Qs(X:List PFail)(act:Int)(ep:Nat)(hs:X.length<2^30)(hA:∀k,k<X.length→ab (gD X k).act act=true):kD 44 [.slice 0 ep 0 X.length none,LF act] (ay [fR ep X]) (.slice 0 ep 0 X.length none) (ay [fR ep X]):=by
  have hf:=Xu X act ep hs hA
  exact fq Tryz.func44 fun a=>Ke 2 hf<|Kf 5 a
theorem TE(act:Int):kP 44 [.ls (([]:List PFail).map af),LF act] (.ls (([]:List PFail).map af)):=by
  have hf:=VE act
  exact bu Tryz.func44<|Kp 2 hf<|Kf 5<|ba<|aW []
theorem Vf(gs:List PGaz)(day act:Int)(p:aP)(h:kP 19 [iV day,.str p,.ls (gs.map aB)] (.ls (([]:List PFail).map af))):kP 18 [iV act,iV day,.str p,.ls (gs.map aB)] (.ls (([]:List PFail).map af)):=by
  have hd:=TE act
  exact bu Tryz.func18<|Kp 4 h<|K1 0 (.frz 0 [12,13]) ti<|Mp hd<|Kf 0<|ba<|aW []
theorem Ve(gs:List PGaz)(day act:Int)(p:aP)(F:List PFail)(h:kD 19 [iV day,.str p,.ls (gs.map aB)] (ay []) (.slice 0 (F.length-1) 0 F.length none) (ay [fR (F.length-1) F]))(hs:F.length<2^30)(hA:∀k,k<F.length→ab (gD F k).act act=true):kP 18 [iV act,iV day,.str p,.ls (gs.map aB)] (.ls (F.map af)):=by
  have hd:=Qs F act (F.length-1) hs hA
  let q:=List.map af F;exact bu Tryz.func18<|K1 4 (.frz 0 [4,9,10,11]) ti<|Me h<|Ke 0 hd<|Mg 0<|M2 (.fsl 0 [] 8 q) ti (cn (aU<|F.length-1) (tA af F F.length rfl)<|aX fL F)<|Ml 8 (fw q false<|aX fL F)<|Mf<|ba<|aW q
theorem Vd(gs:List PGaz)(day act:Int)(p:aP)(F:List PFail)(m:Nat)(h:kD 19 [iV day,.str p,.ls (gs.map aB)] (ay []) (.slice 0 (F.length-1) 0 F.length none) (ay [fR (F.length-1) F]))(hm:m<F.length)(hs:F.length<2^30)(hA:∀k,k<m→ab (gD F k).act act=true)(hB:ab (gD F m).act act=false):kP 18 [iV act,iV day,.str p,.ls (gs.map aB)] (.ls ((dP act F).map af)):=by
  have hd:=TD F act (F.length-1) m hm hs hA hB
  have e3:((dP act F).map af).length=(dP act F).length:=b6 ..
  let q:=List.map af (dP act F);exact bu Tryz.func18<|K1 4 (.frz 0 [4,9,10,11]) ti<|Me h<|Ke 0 hd<|Mg 0<|M2 (.fsl 0 [] 8 q) ti (cn (aU<|F.length-1) (N3 (ys:=List.replicate (F.length-(dP act F).length) UH) (by assumption:((dP act F).map af).length=(dP act F).length))<|aX fL<|dP act F)<|Ml 8 (fw q false<|aX fL<|dP act F)<|Mf<|ba<|aW q
noncomputable def PF(a:PAct):Bool:=ax (ap 40 (Int.ofNat a.items.length))&&ax (ap 300 (Int.ofNat a.title.length))&&ax (ap 100 (Int.ofNat a.start.event.length))
noncomputable def AG(a:PAct):Bool:=PF a&&a.items.all mA
def YT(a:PAct)(x0:Nat×List PItem×Unit):Prop:=(a.items).drop x0.1=x0.2.1∧a.items.all mA=x0.2.1.all mA
noncomputable def YS(a:PAct)(x0:Nat×List PItem×Unit):List AV×List AObj:=([AV.pptr [AV.agg [iV a.number,AV.str a.title,iV a.day,iV a.start.kind,iV a.start.day,AV.str a.start.event,AV.ls (a.items.map MF)]] 0 0,nV x0.1],[])
theorem Th(a:PAct)(hf:MX a):kP 83 [av a] (.bool (AG a)):=by
  have fa:a.items.length<2^60:=hf.1
  have rr0 b' (h:(AG a)=b':=by simp only[AG,PF,aS,ax,bS, *]):=h;exact bu Tryz.func83<|Kl 4 6 (ln MF a.items)<|Ka 1 40 (Int.ofNat a.items.length) (fun b _=>Mt b<|Mt b<|Mt b<|MV b<|Ky 3<|rr0 false) fun b _=>Kh 0 b<|Kh 0 b<|Kh 0 b<|Kw 0 b<|Ka 0 300 (Int.ofNat<|List.length a.title) (fun b _=>Mt b<|Mt b<|Mt b<|Mt b<|MV b<|Ky 1<|rr0 false) fun b _=>Kh 0 b<|Kh 0 b<|Kh 0 b<|Kh 0 b<|Kw 0 b<|Mb (ap 100<|Int.ofNat<|List.length a.start.event) (fun b=>have:=ar b;Ky 0<|rr0 false) fun b=>have:=aM b;K1 0 (.frz 0 [1,3]) ti<|uy MF a.items [1,3] (fun b _=>([AV.pptr [aw [iV a.number,aj a.title,iV a.day,iV a.start.kind,iV a.start.day,aj a.start.event,aW<|a.items.map MF]] 0 0,nV b],[])) (fun b=>a.items.all mA=b.all mA) (by rfl) (fun _ _ _ _ _ b _=>Kl 3 24 (ln MF a.items)<|Kh 0 b<|Ky 0<|rr0 true) fun b _ c _ d e f g i _ j _=>have j:=j.trans<|congrArg some<|eZ d;Kl 3 24 (ln MF a.items)<|Kt 0 i<|Kx 2 j<|Kp 0 (Tg d<|by exact hf.2 _ (aN c g))<|Kn 0 (mA d) (fun _=>Kf 0<|cZ<|rr0 false) fun _=>Kl 1 27 (de b)<|Kf 0<|f<|by simp only[aS,ax,bS, *]at *
noncomputable def T1(g:PGaz):Bool:=ap 100 (Int.ofNat g.prior.length)||ap 20 (Int.ofNat g.acts.length)
noncomputable def wx(g:PGaz):Bool:=ax (T1 g)&&g.acts.all AG
def Wq:List PAct→Int→Int
  |[],n=>n
  |a::r,n=>Wq r (n+1+Int.ofNat a.items.length)
def Iu:List PGaz→Int→Int
  |[],n=>n
  |g::r,n=>Iu r (Wq g.acts n)
noncomputable def CJ(gs:List PGaz):Bool:=gs.all wx&&(ax (ap 60 (Iu gs 0))&&ax (ap 8 (Int.ofNat gs.length)))
theorem Q5{x:Bool}(h:ax x=true):x=false:=by cases x with|false=>rfl|true=>cases h
theorem Gw{a:PAct}(h:AG a=true):a.items.length≤40:=by
  unfold AG PF at h
  simp only[bU]at h
  have:=aM (Q5 h.1.1.1)
  simp only[oN]at this;omega
theorem QY(gs:List PGaz)(hf:pj gs)(hl:gs.length<2^47):kP 43 [.ls (gs.map aB)] (.bool (CJ gs)):=by
  obtain⟨f0,f1⟩:=hf
  have fb:∀g,g∈gs→g.acts.length<2^60:=fun g hg=>(f1 g hg).1
  have rr0 b' (h:(CJ gs)=b':=by(simp only[CJ,wx,T1,Iu,aS,ax,bS, *];done)):=h;exact bu Tryz.func43<|Mg 2<|KT aB gs (0:Int) [0,3,4] (fun a _ b=>([aW<|gs.map aB,iV b,nV a],[])) (fun a b=>(0:Int)≤b∧b+(1000:Int)*Int.ofNat a.length≤(1000:Int)*Int.ofNat gs.length∧gs.all wx=a.all wx∧Iu gs (0:Int)=Iu a b) (by(refine⟨by omega,by simp only[oN]at *;omega,rfl,rfl⟩)) (fun _ _ a _ _ _ b _=>Kl 2 8 (ln aB gs)<|Kh 0 b<|Kd 2 60 a (fun a _=>Kt 0 (cW a)<|Kl 0 65 (ln aB gs)<|Mt (cW a)<|Ku 0 (cW a)<|Kf 0<|cZ<|rr0<|ax<|ap 8<|Int.ofNat gs.length) fun a _=>Mh (cQ a)<|Mh (cQ a)<|My (cQ a)<|Ky 0<|rr0 false) fun a _ b c _ d f i j k _ l m=>Kl 2 8 (ln aB gs)<|Kt 0 k<|Kx 1 l<|Ka 4 100 (Int.ofNat<|List.length d.prior) (fun a _=>Mt a<|Mt a<|Mt a<|Mt a<|Mt a<|Mt a<|MV a<|Ky 1<|rr0 false) fun k _=>Kh 0 k<|Kh 0 k<|Mx l<|Mh k<|Kh 0 k<|Kh 0 k<|Kl 0 25 (ln av d.acts)<|Mh k<|Kw 0 k<|Mb (ap 20<|Int.ofNat d.acts.length) (fun a=>have:=ar a;Ky 0<|rr0 false) fun k=>have:=aM k;Mg 0<|KT av d.acts b [0,3,4,5] (fun b _ c=>([aW<|gs.map aB,iV c,nV a,nV b],[])) (fun a b=>(0:Int)≤b∧b+(41:Int)*Int.ofNat a.length+(1000:Int)*Int.ofNat f.length≤(1000:Int)*Int.ofNat gs.length∧d.acts.all AG=a.all AG∧True∧Iu gs (0:Int)=Iu f (Wq a b)) (by(refine⟨m.1,by have:=m.2.1;simp only[oN,lC]at *;omega,rfl,trivial,m.2.2.2⟩)) (fun _ _ b _ _ _ c j=>Kx 2 l<|Kl 2 34 (ln av d.acts)<|Kh 0 c<|Kl 1 11 (de a)<|Kf 0<|i b<|by(refine⟨j.1,by have:=j.2.1;simp only[oN,lN,lC]at *;omega,?_,j.2.2.2.2⟩;have e:=j.2.2.1;simp only[wx,T1,List.all_cons,List.all_nil,aS,ax,bS, *]at *)) fun a _ b i _ k m n o p _ q r=>have:=fb d<|aN c j;have:=((f1 d<|aN c j).2 k<|aN i o).1;Kx 2 l<|Kl 2 34 (ln av d.acts)<|Kt 0 p<|Kx 1 l<|Kx 2 q<|Kp 0 (Th k<|by first|exact(f1 _ (aN c j)).2 _ (aN i o))<|Kn 0 (AG k) (fun _=>Kf 0<|cZ<|rr0 false) fun _=>Kl 1 49 (Le.wr (x:=b+1) fW)<|Kx 1 l<|Kx 2 q<|Kl 2 59 (ln MF k.items)<|Kl 0 60 (Le.wr (x:=b+1+Int.ofNat k.items.length) fW)<|Kl 2 37 (de a)<|Kf 0<|n (b+1+Int.ofNat k.items.length)<|by(refine⟨by simp only[oN]at *;omega,by(have:=r.2.1;have:=Gw (by assumption);simp only[oN,lC]at *;omega),?_,trivial,r.2.2.2.2⟩;simp only[aS,ax,bS, *]at *)
noncomputable def vY(gs:List PGaz)(p:aP):Bool:=CJ gs&&ax (ap 100 (Int.ofNat p.length))
theorem Mk(gs:List PGaz)(p:aP)(hf:pj gs)(hl:gs.length<2^47):kP 17 [.ls (gs.map aB),.str p] (.bool (vY gs p)):=by
  have rr0 b' (h:(vY gs p)=b':=by simp only[vY,aS,ax,bS, *]):=h;exact bu Tryz.func17<|Kp 1 (QY gs hf hl)<|Kb 0 (CJ gs) (fun a=>Kt 0 a<|Kt 0 a<|Ku 0 a<|Kf 0<|cZ<|rr0<|ax<|ap 100<|Int.ofNat<|List.length p) fun a=>Mh a<|Mh a<|My a<|Ky 0<|rr0 false
theorem OT{gs:List PGaz}{p:aP}(hf:pj gs)(h:vY gs p=true):OkG gs:=by
  unfold vY CJ at h
  simp only[bU]at h
  obtain⟨⟨h1,_,h3⟩,_⟩:=h
  have h3:=aM (Q5 h3)
  have hg:∀g,g∈gs→wx g=true:=fun g hg=>lp.1 h1 g hg
  refine⟨hf,by simp only[oN]at h3;omega,fun g h=>?_,fun g h a ha=>?_⟩
  · have z:=hg g h
    unfold wx T1 at z
    have z:=aM (Ey.1 (Q5 (mK.1 z).1)).2
    simp only[oN]at z;omega
  · have z:=hg g h
    unfold wx at z
    have z:=lp.1 (mK.1 z).2 a ha
    refine⟨Gw z,?_⟩
    unfold AG at z
    exact fun x hx=>lp.1 (mK.1 z).2 x hx
theorem Wo.dropL{P:PFail→PDeed→Prop}{L:List PFail}{n:Nat}{d:PDeed}{b:List PDeed}(h:Wo P (L.drop n) (d::b)):n<L.length∧P (gD L n) d∧Wo P (L.drop (n+1)) b:=by
  have hn:n<L.length:=by
    rcases eH n L.length with q|q
    · exact q
    · rw[xH q]at h;cases h
  rw[AR hn]at h
  rw[Iz hn]
  exact⟨hn,h.1,h.2⟩
/-- How far the two lists are read. -/
structure ParI(act:Int)(F:List PFail)(M:List ((Int×Int)×Int))(L:List PFail)(r:List PDeed)(n:Nat):Prop where
  m:Wo (UU act M) (L.drop n) (r.filter (tW act F))
  le:n≤L.length
theorem ParI.other{act:Int}{F:List PFail}{M:List ((Int×Int)×Int)}{L:List PFail}{r:List PDeed}{n:Nat}{d:PDeed}(h:ParI act F M L (d::r) n)(q:ab d.act act=false):ParI act F M L r n:=by
  refine⟨?_,h.le⟩
  have z:=h.m
  rw[xD (by unfold tW;rw[q];simp)]at z
  exact z
theorem ParI.good{act:Int}{F:List PFail}{M:List ((Int×Int)×Int)}{L:List PFail}{r:List PDeed}{n:Nat}{d:PDeed}(h:ParI act F M L (d::r) n)(q:F.any (wD d.act d.item)=false):ParI act F M L r n:=by
  refine⟨?_,h.le⟩
  have z:=h.m
  rw[xD (by unfold tW;rw[q,sr];decide)]at z
  exact z
theorem ParI.miss{act:Int}{F:List PFail}{M:List ((Int×Int)×Int)}{L:List PFail}{r:List PDeed}{n:Nat}{d:PDeed}(h:ParI act F M L (d::r) n)(q:ab d.act act=true)(q2:F.any (wD d.act d.item)=true):n<L.length∧UU act M (gD L n) d∧ParI act F M L r (n+1):=by
  have z:=h.m
  rw[CA (by unfold tW;rw[q,q2];rfl)]at z
  obtain⟨z1,z2,z3⟩:=z.dropL
  exact⟨z1,z2,z3,z1⟩
theorem ParI.fs{act:Int}{F:List PFail}{M:List ((Int×Int)×Int)}{L:List PFail}{r:List PDeed}{n:Nat}{d:PDeed}(h:ParI act F M L (d::r) n)(q:ab d.act act=true)(q2:F.any (wD d.act d.item)=true):n<L.length∧ab (gD L n).item d.item=true∧ab (gD L n).act act=true∧ab (gD L n).why 0=false∧ab ((iq eB (d.act,d.item) M).getD 0) (gD L n).why=true:=by
  obtain⟨z1,⟨z2,z3,z4,z5⟩,_⟩:=h.miss q q2
  refine⟨z1,by rw[z2,aR],by rw[z3,aR],?_,by rw[z5,vu,aR]⟩
  cases e:ab (gD L n).why 0 with
  |false=>rfl
  |true=>exact absurd (iY e) z4
theorem ParI.done{act:Int}{F:List PFail}{M:List ((Int×Int)×Int)}{L:List PFail}{n:Nat}(h:ParI act F M L [] n):n=L.length:=by
  have z:=h.m
  have hl:=h.le
  cases q:L.drop n with
  |nil=>have:=List.drop_eq_nil_iff.1 q;omega
  |cons f t=>rw[List.filter_nil,q]at z;cases z
theorem U9(act day:Int)(p:aP)(gs:List PGaz)(haw:kP 16 [] (.bool true))(hw:kP 17 [.ls (gs.map aB),.str p] (.bool false)):kP 5 [iV act,iV day,.str p,.ls (gs.map aB)] (.bool true):=by
  exact bu Tryz.func5<|Kp 0 haw<|Kp 3 hw<|Kp 2 haw<|Kf 0<|ba<|eP true
theorem VQ(act day:Int)(p:aP)(gs:List PGaz)(X:List PDeed)(F:List PFail)(haw:kP 16 [] (.bool true))(hw:kP 17 [.ls (gs.map aB),.str p] (.bool true))
    (he:kP 18 [iV act,iV day,.str p,.ls (gs.map aB)] (.ls ((dP act F).map af)))(hf:kP 19 [iV day,.str p,.ls (gs.map aB)] (.ls (F.map af)))
    (ho:kP 20 [iV day,.str p,.ls (gs.map aB)] (.ls (X.map aY)))(hh:∀d,d∈X→kP 21 [iV day,.str p,E8 d.act d.item,.ls (gs.map aB)] (.bool (ax (F.any (wD d.act d.item)))))
    (hX:X.length<2^30)(hF:F.length<2^30)(hm:ParI act F (wZ F []) (dP act F) X 0):kP 5 [iV act,iV day,.str p,.ls (gs.map aB)] (.bool true):=by
  have hup:∀(m:List ((Int×Int)×Int))(f:PFail),pE (bF iU bK m 0) m.length (.agg [iV f.act,iV f.item]) (iV f.why) (bq true 2 [(0,1),(1,1)] (.agg [iV f.act,iV f.item]) (bF iU bK m 0) 0)=some (bF iU bK (dD eB (f.act,f.item) f.why m) 0,(dD eB (f.act,f.item) f.why m).length):=fun m f=>ue gX (f.act,f.item) f.why m
  have hlk:∀(M:List ((Int×Int)×Int))(a i:Int),ed (some (iV 0)) false (bq true 2 [(0,1),(1,1)] (.agg [iV a,iV i]) (bF iU bK M 0) 0)=some (iV ((iq eB (a,i) M).getD 0)):=fun M a i=>by
    have h:=sK (f:=bK) gX (some (iV 0)) false (a,i) M
    refine h.trans ?_
    cases iq eB (a,i) M<;>rfl
  have hl0:(dP act F).length≤F.length:=List.length_filter_le ..
  have rr0 b' (h:(true)=b':=by first|rfl|(rw[hj1.done,aR])|(exfalso;obtain⟨k1,k2,k3,k4,k5⟩:=hj1.fs ‹_› (nR ‹_›);clear hup hlk hh he hf ho haw hw hj1 hm;first|(simp only[oN,lM]at *;omega)|(simp_all;done))):=h;exact bu Tryz.func5<|Kp 0 haw<|Kp 3 hw<|Kp 6 he<|Kp 5 hf<|Kl 0 36 (ln af F)<|Mg 0<|KT af F ([]:List ((Int×Int)×Int)) [0,1,2,3,9,10,35,36,37] (fun b _ c=>([iV act,iV day,aj p,aW<|gs.map aB,aW<|(dP act F).map af,AV.map 0,aW<|F.map af,nV F.length,nV b],[AObj.map (bF iU bK c 0) c.length])) (fun b c=>wZ F []=wZ b c) (by rfl) (fun _ _ b _ _ _ c g=>Kh 0 c<|Kp 3 ho<|Kl 0 54 (ln aY X)<|Mg 0<|KT aY X (0:Nat) [0,1,2,3,9,10,13,53,54,55] (fun c _ g=>([iV act,iV day,aj p,aW<|gs.map aB,aW<|(dP act F).map af,AV.map 0,nV g,aW<|X.map aY,nV X.length,nV c],[AObj.map (bF iU bK b 0) b.length])) (fun c g=>ParI act F b (dP act F) c g) (by(have e:wZ F []=b:=g;rw[←e];exact hm)) (fun _ _ b _ _ _ c hj1=>Kh 0 c<|Kl 2 121 (ln af<|dP act F)<|Kf 1<|cZ<|rr0<|ab (Int.ofNat b)<|Int.ofNat (dP act F).length) fun c _ g j _ k l n o q _ r hj1=>have:=hj1.le;Kt 0 q<|Mx r<|Kc 6 k.act act (fun _ _=>Kl 0 118 (iz c)<|K1 0 (.frz 1 [0,1,2,3,9,10,13,53,54,55]) (et (tM b.length 1<|bE gX WJ b 0) ti)<|Mf<|n g<|by exact hj1.other (by assumption)) fun _ q=>Kl 1 64 (np (k:=IntKind.i64) q)<|Kp 8 (aI.onArgs (lc<|lc<|.cons (aL (.cons (li (by assumption:(k.act)=(act)))<|lc .nil)<|by kernel_rfl)<|lc .nil)<|hh k<|by exact aN j o:kP 21 [iV day,AV.str p,AV.agg [iV act,iV k.item],AV.ls (gs.map aB)] _)<|Kn 0 (ax<|F.any<|wD k.act k.item) (fun _=>Kd 4 (Int.ofNat g) (Int.ofNat ((dP act F).map af).length) (fun b _=>Mt (cW b)<|Mt (cW b)<|Mt (cW b)<|Mt (cW b)<|Mt (cW b)<|Mt (cW b)<|Mt (cW b)<|MV (cW b)<|Ky 7<|rr0 false) fun j _=>Kh 0 (cQ j)<|Kh 0 (cQ j)<|Mx (aT af (by(simp only[oN,lM,lS]at *;omega):g<(dP act F).length))<|Mh (cQ j)<|Kh 0 (cQ j)<|Kh 0 (cQ j)<|Kh 0 (cQ j)<|Kh 0 (cQ j)<|Kw 0 (cQ j)<|Kc 0 (gD (dP act F) g).item k.item (fun b _=>Mt (cW b)<|Mt (cW b)<|Mt (cW b)<|Mt (cW b)<|Mt (cW b)<|Mt (cW b)<|MV (cW b)<|Ky 5<|rr0 false) fun j _=>Kh 0 (cQ j)<|Kh 0 (cQ j)<|Mx (aT af (by(simp only[oN,lM,lS]at *;omega):g<(dP act F).length))<|Mh (cQ j)<|Kh 0 (cQ j)<|Kh 0 (cQ j)<|Kh 0 (cQ j)<|Kw 0 (cQ j)<|Kc 0 (gD (dP act F) g).act act (fun b _=>Mt (cW b)<|Mt (cW b)<|Mt (cW b)<|Mt (cW b)<|Mt (cW b)<|MV (cW b)<|Ky 3<|rr0 false) fun j _=>Kh 0 (cQ j)<|Kh 0 (cQ j)<|Mx (aT af (by(simp only[oN,lM,lS]at *;omega):g<(dP act F).length))<|Mh (cQ j)<|Kh 0 (cQ j)<|Kh 0 (cQ j)<|Kw 0 (cQ j)<|Kj 0 (gD (dP act F) g).why 0 (fun b _=>Mt b<|Mt b<|Mt b<|Mt b<|Mt b<|Mt b<|Mt b<|Mt b<|MV b<|Ky 1<|rr0 false) fun j _=>Kh 0 j<|Kh 0 j<|M1 (.look<|iV<|(iq eB (act,k.item) b).getD 0) (hlk b act k.item)<|Mh j<|Kh 0 j<|Kh 0 j<|Mx (aT af (by(simp only[oN,lM,lS]at *;omega):g<(dP act F).length))<|Mh j<|Kh 0 j<|Kh 0 j<|Kw 0 j<|Mn (ab ((iq eB (act,k.item) b).getD 0) (gD (dP act F) g).why) (fun b=>have:=Cq b;Ky 0<|rr0 false) fun j=>have:=iY j;Kl 1 117 (iz g)<|Kl 1 118 (iz c)<|K1 0 (.frz 1 [0,1,2,3,9,10,13,53,54,55]) (et (tM b.length 1<|bE gX WJ b 0) ti)<|Mf<|n (g+1)<|by exact(hj1.miss (by assumption) (nR (by assumption))).2.2) fun _=>Kl 0 118 (iz c)<|K1 0 (.frz 1 [0,1,2,3,9,10,13,53,54,55]) (et (tM b.length 1<|bE gX WJ b 0) ti)<|Mf<|n g<|by exact hj1.good (qZ (by assumption))) fun b _ c _ _ g j k _ l _ n o=>Kt 0 l<|Mx n<|K1 10 (.upd (bF iU bK (dD eB (g.act,g.item) g.why c) 0) (dD eB (g.act,g.item) g.why c).length) (hup c g)<|Kl 0 49 (iz b)<|K1 0 (.frz 1 [0,1,2,3,9,10,35,36,37]) (et (tM (dD eB (g.act,g.item) g.why c).length 1<|bE gX WJ (dD eB (g.act,g.item) g.why c) 0) ti)<|Mf<|k (dD eB (g.act,g.item) g.why c)<|by(rw[o];rfl)
theorem SM {gs:List PGaz}(ok:OkG gs)(act day:Int)(p:aP):kP 18 [iV act,iV day,.str p,.ls (gs.map aB)] (.ls ((dP act (bZ mP (j9 day p gs))).map af)):=by
  obtain⟨h1,h2,h3⟩:=ok.force day p
  have hs:=qR (j9 day p gs) mP
  have hf:=ok.fails day p
  have hr:bZ mP (j9 day p gs)≠[]→_:=fun hF=>M6 gs day p _ h1 h2 hF h3
  generalize bZ mP (j9 day p gs)=F at *
  cases F with
  |nil=>exact Vf gs day act p hf
  | cons f r=>
    have hr:=hr (by simp)
    by_cases hA:∀k,k<(f::r).length→ab (gD (f::r) k).act act=true
    · have e:dP act (f::r)=f::r:=List.filter_eq_self.2 fun d hd=>by
        obtain⟨k,hk,e⟩:=List.mem_iff_getElem.1 hd
        have:=hA k hk
        rw[Iz hk,e]at this;exact this
      rw[e]
      exact Ve gs day act p _ hr (by omega) hA
    · have hx :∃k,k<(f::r).length∧ab (gD (f::r) k).act act=false:=by
        simp only[Classical.not_forall]at hA
        obtain⟨k,hk,q⟩:=hA
        exact⟨k,hk,by simpa using q⟩
      exact (by
        obtain⟨m,⟨hm,hB⟩,hmin⟩:∃m,(m<(f::r).length∧ab (gD (f::r) m).act act=false)∧∀k,k<m→¬(k<(f::r).length∧ab (gD (f::r) k).act act=false):=by
          obtain⟨k,hk⟩:=hx
          induction k using Nat.strongRecOn with
          | ind k ih=>
            by_cases q:∃j,j<k∧(j<(f::r).length∧ab (gD (f::r) j).act act=false)
            · obtain⟨j,j1,j2⟩:=q
              exact ih j j1 j2
            · exact⟨k,hk,fun j j1 j2=>q ⟨j,j1,j2⟩⟩
        exact Vd gs day act p _ m hr hm (by omega) (fun k hk=>by
          cases q:ab (gD (f::r) k).act act with
          |true=>rfl
          |false=>exact absurd ⟨by omega,q⟩ (hmin k hk)) hB)
/-- The law of the partition, whole. -/
theorem Au(act day:Int)(p:aP)(gs:List PGaz)(hf:pj gs)(hl:gs.length<2^47)(haw:kP 16 [] (.bool true)):kP 5 [iV act,iV day,.str p,.ls (gs.map aB)] (.bool true):=by
  have hw:=Mk gs p hf hl
  cases hb:vY gs p with
  |false=>rw[hb]at hw;exact U9 act day p gs haw hw
  | true=>
    rw[hb]at hw
    have ok:=OT hf hb
    obtain⟨h1,h2,h3⟩:=ok.force day p
    have hs:=qR (j9 day p gs) mP
    have hc:=Ds gs day p _ h3
    have hfl:=ok.fails day p
    refine VQ act day p gs _ _ haw hw (SM ok act day p) hfl h3 (fun d hd=>?_) h1 (by omega) ⟨Sx act _ (P6 day p gs) mP,bD _⟩
    have z:=Tq gs day p d.act d.item _ _ hc hfl h1 (by omega)
    have e:(j9 day p gs).any (EU d.act d.item)=true:=List.any_eq_true.2 ⟨d,hd,by unfold EU;rw[aR,aR];rfl⟩
    rw[e,Bool.true_and]at z
    exact z
end Go.Proofs.YtiodnhiainjfgaaGreatDoor
