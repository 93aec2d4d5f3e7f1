/- Functions walked: what each of them answers, for the law of acts that conflict: part 7. Conditions: those that each theorem names. -/
import Derived.Test.YtefibmgdgameaaaGreatDoorH6
namespace Go.Proofs.YtefibmgdgameaaaGreatDoor
open Go Go.Ev
theorem RU {k:Int} (h:mK k=true):0≤k∧k≤6:=by
  unfold mK at h;rw [ba] at h;exact ⟨fM h.1,fM h.2⟩
/-- What an amendment makes of a book: the one outcome there is. -/
structure AppOk (u:TUnit) (d:PDeed):Prop where
  b:OkB u
  i:JN d.it
  a:mK d.it.kind=true
theorem Q7 {u:TUnit} {d:PDeed} (h:AppOk u d) : ∃ r:oF,kP 21 [eU u,bc d] (eB r)∧OkB r.1:=TO h.b d h.i (RU h.a).1 (RU h.a).2
open Classical in
noncomputable def fe (u:TUnit) (d:PDeed):oF:=if h:AppOk u d then (Q7 h).choose else (u,0)
theorem qQ {u:TUnit} {d:PDeed} (h:AppOk u d):kP 21 [eU u,bc d] (.tuple [eU (fe u d).1,iV (fe u d).2])∧OkB (fe u d).1:=by
  unfold fe;rw [dif_pos h];exact (Q7 h).choose_spec
theorem Ur (u:TUnit) (d:PDeed) (h1:OkB u) (h2:JN d.it) (h3:mK d.it.kind=true):kP 21 [eU u,bc d] (.tuple [eU (fe u d).1,iV (fe u d).2]):=(qQ ⟨h1,h2,h3⟩).1
noncomputable def rG (u:TUnit) (d:PDeed):TUnit:=bif mK d.it.kind then (fe u d).1 else u
noncomputable def Bo (u:TUnit) (d:PDeed):List PFail:=bif mK d.it.kind then (bif az (fe u d).2 0 then [] else [⟨d.act,d.item,(fe u d).2⟩]) else []
theorem NM {u:TUnit} {d:PDeed} (h1:OkB u) (h2:JN d.it):OkB (rG u d):=by
  unfold rG
  cases h:mK d.it.kind with
  | false=>exact h1
  | true=>exact (qQ ⟨h1,h2,h⟩).2
noncomputable def cZ:TUnit→List PDeed→TUnit
  | u, []=>u
  | u,d::r=>cZ (rG u d) r
noncomputable def cF:TUnit→List PDeed→List PFail
  | _, []=> []
  | u,d::r=>Bo u d++cF (rG u d) r
theorem GD : ∀ {l:List PDeed} {u:TUnit},OkB u→(∀ d,d∈l→JN d.it)→OkB (cZ u l)
  | [],_,h,_=>h
  | d::r,u,h,hl=>GD (l:=r) (u:=rG u d) (NM h (hl d (og ..))) fun x hx=>hl x (kw _ hx)
theorem BN : ∀ (l:List PDeed) (u:TUnit),(cF u l).length≤l.length
  | [],_=>ar _
  | d::r,u=>by
    have:=BN r (rG u d)
    have h:(Bo u d).length≤1:=by
      unfold Bo
      cases mK d.it.kind <;> cases az (fe u d).2 0 <;> simp
    rw [cF,lA,lC];omega
theorem Wg {u:TUnit} {d:PDeed} {r:List PDeed} (h:mK d.it.kind=false):cZ u (d::r)=cZ u r∧cF u (d::r)=cF u r:=by
  rw [cZ,cF,rG,Bo,h];exact ⟨rfl,rfl⟩
theorem RF {u:TUnit} {d:PDeed} {r:List PDeed} (h:mK d.it.kind=true) (h2:az (fe u d).2 0=true):cZ u (d::r)=cZ (fe u d).1 r∧cF u (d::r)=cF (fe u d).1 r:=by
  rw [cZ,cF,rG,Bo,h,h2];exact ⟨rfl,rfl⟩
theorem RE {u:TUnit} {d:PDeed} {r:List PDeed} (h:mK d.it.kind=true) (h2:az (fe u d).2 0=false):cZ u (d::r)=cZ (fe u d).1 r∧cF u (d::r)=⟨d.act,d.item,(fe u d).2⟩::cF (fe u d).1 r:=by
  rw [cZ,cF,rG,Bo,h,h2];exact ⟨rfl,rfl⟩
mutual
theorem Jm : ∀ (u:TUnit) (deep most:Int),jA u deep most≤most→Int.ofNat (nU u)≤jA u deep most
  | ⟨_,_,_,_,_,_,_,kids⟩,deep,most,h=>by
    rw [jA] at h ⊢
    cases hd:ao 20 deep with
    | true=>rw [hd] at h;simp only at h;omega
    | false=>
      rw [hd] at h
      have:=Jn kids deep most 1 h
      rw [nU]
      simp only [oN] at *
      omega
theorem Jn : ∀ (l:List TUnit) (deep most n:Int),ig l deep most n≤most→n+Int.ofNat (cV l)≤ig l deep most n
  | [],_,_,n,_=>by rw [ig,cV];exact Int.le_of_eq (Int.add_zero n)
  | k::r,deep,most,n,h=>by
    rw [ig] at h ⊢
    cases hd:ao most n with
    | true=>rw [hd] at h;have:=aJ hd;simp only at h;omega
    | false=>
      rw [hd] at h
      have h2:=Jn r deep most _ h
      have h1:=Jm k (deep+1) (most - n) (by simp only [oN] at *;omega)
      rw [cV]
      simp only [oN] at *
      omega
end
theorem Eh {l:List PWord} (h:i7 l=true):l.length≤300∧∀ w,w∈l→w.text.length≤100:=by
  unfold i7 at h
  obtain ⟨h1,h2⟩:=qx.1 h
  refine ⟨by have:=fM h2;simp only [oN] at this;omega,fun w hw=>?_⟩
  have:=fM (jp.1 h1 w hw)
  simp only [oN] at this;omega
theorem HJ : ∀ (u:TUnit),fp u=true→∀ x,x∈bB u→li x:=by
  refine TUnit.ind fun u ih h x hx=>?_
  rw [A6] at h
  simp only [ba] at h
  obtain ⟨⟨⟨h0,h1⟩,h2⟩,h3⟩:=h
  rw [dx] at hx
  rcases gx.1 hx with rfl | hx
  · have h0:=fM h0
    simp only [oN] at h0
    have q1:=Eh h1
    have q2:=Eh h2
    exact ⟨q1.1,q2.1,by omega,fun w hw=>bL (q1.2 w hw) (by decide),fun w hw=>bL (q2.2 w hw) (by decide)⟩
  · obtain ⟨k,hk,hx⟩:=lx hx
    exact ih k hk (jp.1 h3 k hk) x hx
theorem Ia {u:TUnit} {n:Nat} (h:uv u (.ofNat n)=true):nU u≤n∧∀ x,x∈bB u→li x:=by
  unfold uv at h
  obtain ⟨h1,h2⟩:=qx.1 h
  refine ⟨?_,HJ u h2⟩
  have h3:=fM h1
  have:=Jm u 0 (.ofNat n) h3
  simp only [oN] at *
  omega
theorem U5 {x:PItem} (hf:qK x) (h:mJ x=true):JN x:=by
  rw [Ke] at h
  unfold wD at h
  simp only [ba] at h
  obtain ⟨⟨⟨⟨⟨⟨⟨⟨⟨⟨a1,a2⟩,a3⟩,a4⟩,a5⟩,a6⟩,a7⟩,a8⟩,a9⟩,a10⟩,b1,b2,b3,b4,b5⟩:=h
  have a1:=fM a1
  have a2:=fM a2
  have a3:=fM a3
  have a4:=fM a4
  have a5:=fM a5
  have a6:=fM a6
  have a7:=fM a7
  simp only [oN] at a1 a2 a3 a4 a5 a6 a7
  have hs : ∀ {l:List aP},l.all j0=true→∀ s,s∈l→s.length≤2 ^ 39:=fun h s hs=>by
    have:=fM (jp.1 h s hs);simp only [oN] at this;omega
  have ht : ∀ {l:List PStep},l.all jS=true→∀ s,s∈l→s.label.length≤2 ^ 39:=fun h s hs=>by
    have:=fM (jp.1 h s hs);simp only [oN] at this;omega
  have hu:=Ia (n:=30) a10
  exact ⟨hf,⟨by omega,ht b3⟩,⟨by omega,ht b4⟩,⟨by omega,hs b1⟩,⟨by omega,hs b2⟩,by omega,by omega,by omega,bL hu.1 (by decide),hu.2⟩
theorem Sy : ∀ (u:TUnit),nU u≤1024→(∀ x,x∈bB u→x.head.length≤300∧x.words.length≤300)→oq u:=by
  refine TUnit.ind fun u ih hn hw=>?_
  have:=bq u
  obtain ⟨h1,h2⟩:=hw u (dJ u)
  exact nQ.2 ⟨by omega,by omega,by omega,fun k hk=>ih k hk (by have:=fW hk;omega) fun x hx=>hw x (bC hk hx)⟩
theorem EN {u:TUnit} (h:OkB u):oq u:=Sy u h.n h.w
theorem Ib {u v:TUnit} {l r:List PDeed} {xs:List PFail} (h:cF u l=xs++cF v r):xs.length≤l.length:=by
  grind [BN]
def GM (u:TUnit) (l:List PDeed) (x0:Nat × List PDeed × TUnit):Prop:=(l).drop x0.1=x0.2.1∧OkB x0.2.2∧cZ u l=cZ x0.2.2 x0.2.1∧cF u l=cF x0.2.2 x0.2.1
noncomputable def vO (u:TUnit) (l:List PDeed) (x0:Nat × List PDeed × TUnit):List AV × List AObj:=([AV.ptr 0 0 0 0,AV.ptr 1 0 0 0,AV.nils,AV.ls (l.map bc),nV l.length,nV x0.1], [AObj.row 8 false 0 [AV.agg [iV x0.2.2.act,iV x0.2.2.item,iV x0.2.2.n,iV x0.2.2.kind,AV.str x0.2.2.label,AV.ls (x0.2.2.head.map aQ),AV.ls (x0.2.2.words.map aQ),AV.ls (x0.2.2.kids.map aX)]],AObj.row 8 false 0 [AV.agg [iV 0,iV 0,iV 0,iV 0,AV.str [],AV.nils,AV.nils,AV.nils]]])
def GL (u:TUnit) (l:List PDeed) (x0:Nat × List PDeed × TUnit × Nat × Nat × List PFail):Prop:=(l).drop x0.1=x0.2.1∧OkB x0.2.2.1∧x0.2.2.2.2.1=x0.2.2.2.2.2.length∧cZ u l=cZ x0.2.2.1 x0.2.1∧cF u l=x0.2.2.2.2.2++cF x0.2.2.1 x0.2.1
noncomputable def GI (u:TUnit) (l:List PDeed) (x0:Nat × List PDeed × TUnit × Nat × Nat × List PFail):List AV × List AObj:=([AV.ptr 0 0 0 0,AV.ptr 1 0 0 0,AV.slice 2 x0.2.2.2.1 0 x0.2.2.2.2.1 none,AV.ls (l.map bc),nV l.length,nV x0.1], [AObj.row 8 false 0 [AV.agg [iV x0.2.2.1.act,iV x0.2.2.1.item,iV x0.2.2.1.n,iV x0.2.2.1.kind,AV.str x0.2.2.1.label,AV.ls (x0.2.2.1.head.map aQ),AV.ls (x0.2.2.1.words.map aQ),AV.ls (x0.2.2.1.kids.map aX)]],AObj.row 8 false 0 [AV.agg [iV 0,iV 0,iV 0,iV 0,AV.str [],AV.nils,AV.nils,AV.nils]],AObj.row 3 true x0.2.2.2.1 (x0.2.2.2.2.2.map iw)])
theorem RJ (u:TUnit) (l:List PDeed) (hu:OkB u) (hl:l.length<2 ^ 30) (ho : ∀ d,d∈l→JN d.it):kP 65 [eU u, .ls (l.map bc)] (.tuple [eU (cZ u l), .ls ((cF u l).map iw)]):=by
  have rr0 : ∀ b',(h:((cZ u l).act)=b':=by first | (rw [hj0.2.1];rfl) | (rw [hj0.2.2];rfl) | (rw [hj0.2.2.1];rfl) | (rw [hj0.2.2.2];simp only [cF,eE]) | exact aK fO _)→((cZ u l).act)=b':=(fun _ h=>h);have rr1 : ∀ b',(h:((cZ u l).item)=b':=by first | (rw [hj0.2.1];rfl) | (rw [hj0.2.2];rfl) | (rw [hj0.2.2.1];rfl) | (rw [hj0.2.2.2];simp only [cF,eE]) | exact aK fO _)→((cZ u l).item)=b':=(fun _ h=>h);have rr2 : ∀ b',(h:((cZ u l).n)=b':=by first | (rw [hj0.2.1];rfl) | (rw [hj0.2.2];rfl) | (rw [hj0.2.2.1];rfl) | (rw [hj0.2.2.2];simp only [cF,eE]) | exact aK fO _)→((cZ u l).n)=b':=(fun _ h=>h);have rr3 : ∀ b',(h:((cZ u l).kind)=b':=by first | (rw [hj0.2.1];rfl) | (rw [hj0.2.2];rfl) | (rw [hj0.2.2.1];rfl) | (rw [hj0.2.2.2];simp only [cF,eE]) | exact aK fO _)→((cZ u l).kind)=b':=(fun _ h=>h);have rr4 : ∀ b',(h:((cZ u l).label)=b':=by first | (rw [hj0.2.1];rfl) | (rw [hj0.2.2];rfl) | (rw [hj0.2.2.1];rfl) | (rw [hj0.2.2.2];simp only [cF,eE]) | exact aK fO _)→((cZ u l).label)=b':=(fun _ h=>h);have rr5 : ∀ b',(h:(List.map aQ (cZ u l).head)=b':=by first | (rw [hj0.2.1];rfl) | (rw [hj0.2.2];rfl) | (rw [hj0.2.2.1];rfl) | (rw [hj0.2.2.2];simp only [cF,eE]) | exact aK fO _)→(List.map aQ (cZ u l).head)=b':=(fun _ h=>h);have rr6 : ∀ b',(h:(List.map aQ (cZ u l).words)=b':=by first | (rw [hj0.2.1];rfl) | (rw [hj0.2.2];rfl) | (rw [hj0.2.2.1];rfl) | (rw [hj0.2.2.2];simp only [cF,eE]) | exact aK fO _)→(List.map aQ (cZ u l).words)=b':=(fun _ h=>h);have rr7 : ∀ b',(h:(List.map aX (cZ u l).kids)=b':=by first | (rw [hj0.2.1];rfl) | (rw [hj0.2.2];rfl) | (rw [hj0.2.2.1];rfl) | (rw [hj0.2.2.2];simp only [cF,eE]) | exact aK fO _)→(List.map aX (cZ u l).kids)=b':=(fun _ h=>h);have rr8 : ∀ b',(h:((cF u l).map iw)=b':=by first | (rw [hj0.2.1];rfl) | (rw [hj0.2.2];rfl) | (rw [hj0.2.2.1];rfl) | (rw [hj0.2.2.2];simp only [cF,eE]) | exact aK fO _)→((cF u l).map iw)=b':=(fun _ h=>h);exact b7 Tryz.func65 (Mg 2 (Ml 5 b9 (Mg 2 (Ml 12 (Le.len (f:=bc) (l:=l)) (Mg 0 (MM (Nat × List PDeed × TUnit) (Nat × List PDeed × TUnit × Nat × Nat × List PFail) [2,4,6,11,12,13] (vO u l) (GI u l) (GM u l) (GL u l) (fun x=>x.2.1.length) (fun x=>x.2.1.length) (.inl (0,l,u)) (ax ((vO u l) (0,l,u))) (et (rfl:List.drop 0 (l)=l) (by simp_all:(OkB u∧cZ u l=cZ u l∧cF u l=cF u l))) (fun x0 hx0 nx0=>Mc x0.2.1 (fun hr0=>have lt0:=ai hx0.1 hr0;(have hj0:=aF (J:=fun r x=>OkB x∧cZ u l=cZ x r∧cF u l=cF x r) (a:=x0.2.2) hr0 hx0.2;(Mg 0 (Mh lt0 (Mg 3 (Ml 5 b9 (Mf (cR (.cons (bX (.cons (aj (k:= .i64) (rr0 (x0.2.2.act))) (.cons (aj (k:= .i64) (rr1 (x0.2.2.item))) (.cons (aj (k:= .i64) (rr2 (x0.2.2.n))) (.cons (aj (k:= .i64) (rr3 (x0.2.2.kind))) (.cons (Le.str (rr4 (x0.2.2.label))) (.cons (dY (rr5 (x0.2.2.head.map aQ))) (.cons (dY (rr6 (x0.2.2.words.map aQ))) (.cons (dY (rr7 (x0.2.2.kids.map aX))) .nil)))))))) (by kernel_rfl)) (.cons (dY (rr8 ([]))) .nil)))))))))) (fun w0 r0 hr0=>have lt0:=aD hx0.1 hr0;(have glt0:=aJ lt0;(have nt0:=ah (enc:=bc) hx0.1 hr0;(have hj0:=aE (J:=fun r x=>OkB x∧cZ u l=cZ x r∧cF u l=cF x r) (a:=x0.2.2) hr0 hx0.2;(have q0:JN w0.it:=ho _ (bJ hx0.1 hr0);(Mg 0 (Mt lt0 (Mx nt0 (Mg 5 (Mp (I1 (w0.it.kind)) (Mg 0 (Mb (aV (mK w0.it.kind)) (fun z=>have h1:(mK w0.it.kind)=false:=(aI z);(Mg 0 (Ml 40 (Le.wr (x:=Int.ofNat x0.1+1) cq) (Mg 0 (M1 (.frz 2 [2,4,6,11,12,13]) (eR rt rt ti) (Mf (nx0 (.inl (x0.1+1,r0,x0.2.2)) (et (ay hx0.1 hr0) (by grind [Wg]:(OkB x0.2.2∧cZ u l=cZ x0.2.2 r0∧cF u l=cF x0.2.2 r0))) (aO hr0)))))))) (fun z=>have h1:(mK w0.it.kind)=true:=(aL z);(Mg 1 (Mp (Ur (x0.2.2) w0 (by simp_all) q0 h1) (Mg 7 (Mn (az (fe x0.2.2 w0).2 0) (fun h2=>have gh2:=iS h2;(Mg 12 (Ml 40 (Le.wr (x:=Int.ofNat x0.1+1) cq) (Mg 0 (M0 (.ren [0,1,4,2,3] [] [2,4,6,11,12,13]) (M1 (.frz 3 [2,4,6,11,12,13]) (mu rt rt rt ti) (Mf (nx0 (.inr (x0.1+1,r0,((fe x0.2.2 w0).1,0,1, [PFail.mk w0.act w0.item (fe x0.2.2 w0).2]))) (et (ay hx0.1 hr0) (by exact ⟨(qQ ⟨hj0.1,q0,by omega⟩).2,rfl,hj0.2.1.trans (RE (by omega) (by omega)).1,hj0.2.2.trans (RE (by omega) (by omega)).2⟩:(OkB (fe x0.2.2 w0).1∧(1:Nat) = [PFail.mk w0.act w0.item (fe x0.2.2 w0).2].length∧cZ u l=cZ (fe x0.2.2 w0).1 r0∧cF u l = [PFail.mk w0.act w0.item (fe x0.2.2 w0).2]++cF (fe x0.2.2 w0).1 r0))) (aO hr0))))))))) (fun h2=>have gh2:=eJ h2;(Mg 2 (Ml 40 (Le.wr (x:=Int.ofNat x0.1+1) cq) (Mg 0 (M1 (.frz 2 [2,4,6,11,12,13]) (eR rt rt ti) (Mf (nx0 (.inl (x0.1+1,r0,(fe x0.2.2 w0).1)) (et (ay hx0.1 hr0) (by exact ⟨(qQ ⟨hj0.1,q0,by omega⟩).2,hj0.2.1.trans (RF (by omega) (by omega)).1,hj0.2.2.trans (RF (by omega) (by omega)).2⟩:(OkB (fe x0.2.2 w0).1∧cZ u l=cZ (fe x0.2.2 w0).1 r0∧cF u l=cF (fe x0.2.2 w0).1 r0))) (aO hr0)))))))))))))))))))))))))) (fun x0 hx0 nx0=>Mc x0.2.1 (fun hr0=>have lt0:=ai hx0.1 hr0;(have hj0:=aF (J:=fun r x=>OkB x.1∧x.2.2.1=x.2.2.2.length∧cZ u l=cZ x.1 r∧cF u l=x.2.2.2++cF x.1 r) (a:=x0.2.2) hr0 hx0.2;(Mg 0 (Mh lt0 (Mg 3 (M2 (.fsl 2 [4] 5 (x0.2.2.2.2.2.map iw)) (eR rt rt ti) (eR (ax (x0.2.2.2.1)) (c8 (f:=iw) (l:=x0.2.2.2.2.2) (n:=x0.2.2.2.2.1) (by omega:(x0.2.2.2.2.2).length=x0.2.2.2.2.1)) (aK fO (x0.2.2.2.2.2))) (Ml 5 (ib (x0.2.2.2.2.2.map iw) (false) (aK fO (x0.2.2.2.2.2))) (Mf (cR (.cons (bX (.cons (aj (k:= .i64) (rr0 (x0.2.2.1.act))) (.cons (aj (k:= .i64) (rr1 (x0.2.2.1.item))) (.cons (aj (k:= .i64) (rr2 (x0.2.2.1.n))) (.cons (aj (k:= .i64) (rr3 (x0.2.2.1.kind))) (.cons (Le.str (rr4 (x0.2.2.1.label))) (.cons (dY (rr5 (x0.2.2.1.head.map aQ))) (.cons (dY (rr6 (x0.2.2.1.words.map aQ))) (.cons (dY (rr7 (x0.2.2.1.kids.map aX))) .nil)))))))) (by kernel_rfl)) (.cons (dY (rr8 (x0.2.2.2.2.2.map iw))) .nil))))))))))) (fun w0 r0 hr0=>have lt0:=aD hx0.1 hr0;(have glt0:=aJ lt0;(have nt0:=ah (enc:=bc) hx0.1 hr0;(have hj0:=aE (J:=fun r x=>OkB x.1∧x.2.2.1=x.2.2.2.length∧cZ u l=cZ x.1 r∧cF u l=x.2.2.2++cF x.1 r) (a:=x0.2.2) hr0 hx0.2;(have q0:JN w0.it:=ho _ (bJ hx0.1 hr0);(Mg 0 (Mt lt0 (Mx nt0 (Mg 5 (Mp (I1 (w0.it.kind)) (Mg 0 (Mb (aV (mK w0.it.kind)) (fun z=>have h3:(mK w0.it.kind)=false:=(aI z);(Mg 0 (Ml 40 (Le.wr (x:=Int.ofNat x0.1+1) cq) (Mg 0 (M1 (.frz 3 [2,4,6,11,12,13]) (mu (bZ (sz:=3) (op:=true) (ep:=x0.2.2.2.1) (n:=3) (aK fO (x0.2.2.2.2.2))) rt rt ti) (Mf (nx0 (.inr (x0.1+1,r0,(x0.2.2.1,x0.2.2.2.1,x0.2.2.2.2.1,x0.2.2.2.2.2))) (et (ay hx0.1 hr0) (by grind [Wg]:(OkB x0.2.2.1∧x0.2.2.2.2.1=x0.2.2.2.2.2.length∧cZ u l=cZ x0.2.2.1 r0∧cF u l=x0.2.2.2.2.2++cF x0.2.2.1 r0))) (aO hr0)))))))) (fun z=>have h3:(mK w0.it.kind)=true:=(aL z);(Mg 1 (Mp (Ur (x0.2.2.1) w0 (by simp_all) q0 h3) (Mg 7 (Mb (aV (az (fe x0.2.2.1 w0).2 0)) (fun z=>have h4:(az (fe x0.2.2.1 w0).2 0)=false:=(aI z);(have gh4:=iS h4;(Mg 7 (M1 .app (eR (ax (x0.2.2.2.1)) (by simp_all:x0.2.2.2.2.1=(x0.2.2.2.2.2.map iw).length) (by (have z:=Ib hj0.2.2.2;have z2:=hj0.2.1;refine aA (m:=2 ^ 31) ?_ ?_ ?_ <;> omega):small (x0.2.2.2.2.1+1) 24=true)) (M1 (.obj 2 (aw 3 true (x0.2.2.2.1+1) ((x0.2.2.2.2.2++ [PFail.mk w0.act w0.item (fe x0.2.2.1 w0).2]).map iw))) (congrArg (aw 3 true (x0.2.2.2.1+1)) (iI (f:=iw) (l:=x0.2.2.2.2.2) (ws:= [PFail.mk w0.act w0.item (fe x0.2.2.1 w0).2]))) (Mg 3 (Ml 40 (Le.wr (x:=Int.ofNat x0.1+1) cq) (Mg 0 (M1 (.frz 3 [2,4,6,11,12,13]) (mu (bZ (sz:=3) (op:=true) (ep:=x0.2.2.2.1+1) (n:=3) (aK fO (x0.2.2.2.2.2++ [PFail.mk w0.act w0.item (fe x0.2.2.1 w0).2]))) rt rt ti) (Mf (nx0 (.inr (x0.1+1,r0,((fe x0.2.2.1 w0).1,x0.2.2.2.1+1,x0.2.2.2.2.1+1,x0.2.2.2.2.2++ [PFail.mk w0.act w0.item (fe x0.2.2.1 w0).2]))) (et (ay hx0.1 hr0) (by exact ⟨(qQ ⟨hj0.1,q0,by omega⟩).2,by simp_all,hj0.2.2.1.trans (RE (by omega) (by omega)).1,hj0.2.2.2.trans (by grind [RE])⟩:(OkB (fe x0.2.2.1 w0).1∧x0.2.2.2.2.1+(1:Nat)=(x0.2.2.2.2.2++ [PFail.mk w0.act w0.item (fe x0.2.2.1 w0).2]).length∧cZ u l=cZ (fe x0.2.2.1 w0).1 r0∧cF u l=x0.2.2.2.2.2++ [PFail.mk w0.act w0.item (fe x0.2.2.1 w0).2]++cF (fe x0.2.2.1 w0).1 r0))) (aO hr0)))))))))))) (fun z=>have h4:(az (fe x0.2.2.1 w0).2 0)=true:=(aL z);(have gh4:=eJ h4;(Mg 2 (Ml 40 (Le.wr (x:=Int.ofNat x0.1+1) cq) (Mg 0 (M1 (.frz 3 [2,4,6,11,12,13]) (mu (bZ (sz:=3) (op:=true) (ep:=x0.2.2.2.1) (n:=3) (aK fO (x0.2.2.2.2.2))) rt rt ti) (Mf (nx0 (.inr (x0.1+1,r0,((fe x0.2.2.1 w0).1,x0.2.2.2.1,x0.2.2.2.2.1,x0.2.2.2.2.2))) (et (ay hx0.1 hr0) (by exact ⟨(qQ ⟨hj0.1,q0,by omega⟩).2,hj0.2.1,hj0.2.2.1.trans (RF (by omega) (by omega)).1,hj0.2.2.2.trans (by grind [RF])⟩:(OkB (fe x0.2.2.1 w0).1∧x0.2.2.2.2.1=x0.2.2.2.2.2.length∧cZ u l=cZ (fe x0.2.2.1 w0).1 r0∧cF u l=x0.2.2.2.2.2++cF (fe x0.2.2.1 w0).1 r0))) (aO hr0)))))))))))))))))))))))))))))))))
def ra (a:PAct):List PItem→Nat→List PDeed
  | [],_=> []
  | x::r,i=>⟨a.number,Int.ofNat i,a.day,x⟩::ra a r (i+1)
theorem G3 (a:PAct) : ∀ (l:List PItem) (i:Nat),(ra a l i).length=l.length
  | [],_=>rfl
  | x::r,i=>by simp only [ra,lC,G3 a r]
theorem zN (a:PAct) : ∀ (l:List PItem) (i:Nat) (d:PDeed),d∈ra a l i→d.it∈l
  | x::r,i,d,h=>by
    rcases gx.1 h with rfl | h
    · simp_all
    · exact kw _ (zN a r (i+1) d h)
theorem UJ {α:Type} {l r:List α} {j n:Nat} (h:l.drop j=r) (hr:0<r.length) (hl:n+r.length=l.length):j=n:=by
  grind
structure OkA (a:PAct):Prop where
  n:a.items.length<10000
  i : ∀ x,x∈a.items→JN x
noncomputable def mV (u:TUnit) (a:PAct):TUnit:=cZ u (ra a a.items 0)
theorem Dm {u:TUnit} {a:PAct} (h:OkB u) (ha:OkA a):OkB (mV u a):=GD h fun d hd=>ha.i _ (zN a _ _ d hd)
def GR (u:TUnit) (a:PAct) (x0:Nat × List PItem × Unit):Prop:=(a.items).drop x0.1=x0.2.1∧x0.2.1=a.items
noncomputable def vP (u:TUnit) (a:PAct) (x0:Nat × List PItem × Unit):List AV × List AObj:=([AV.ptr 0 0 0 0,AV.ptr 1 0 0 0,AV.ptr 2 0 0 0,AV.nils,AV.ls (a.items.map MB),nV a.items.length,nV x0.1], [AObj.row 8 false 0 [AV.agg [iV u.act,iV u.item,iV u.n,iV u.kind,AV.str u.label,AV.ls (u.head.map aQ),AV.ls (u.words.map aQ),AV.ls (u.kids.map aX)]],AObj.row 7 false 0 [AV.agg [iV a.number,AV.str a.title,iV a.day,iV a.start.kind,iV a.start.day,AV.str a.start.event,AV.ls (a.items.map MB)]],AObj.row 8 false 0 [AV.agg [iV 0,iV 0,iV 0,iV 0,AV.str [],AV.nils,AV.nils,AV.nils]]])
def GP (u:TUnit) (a:PAct) (D:List PDeed) (x0:Nat × List PItem × Nat × Nat × List PDeed):Prop:=(a.items).drop x0.1=x0.2.1∧x0.2.2.2.1=x0.2.2.2.2.length∧x0.2.2.2.1+x0.2.1.length=a.items.length∧D=x0.2.2.2.2++ra a x0.2.1 x0.2.2.2.1
noncomputable def GO (u:TUnit) (a:PAct) (D:List PDeed) (x0:Nat × List PItem × Nat × Nat × List PDeed):List AV × List AObj:=([AV.ptr 0 0 0 0,AV.ptr 1 0 0 0,AV.ptr 2 0 0 0,AV.slice 3 x0.2.2.1 0 x0.2.2.2.1 none,AV.ls (a.items.map MB),nV a.items.length,nV x0.1], [AObj.row 8 false 0 [AV.agg [iV u.act,iV u.item,iV u.n,iV u.kind,AV.str u.label,AV.ls (u.head.map aQ),AV.ls (u.words.map aQ),AV.ls (u.kids.map aX)]],AObj.row 7 false 0 [AV.agg [iV a.number,AV.str a.title,iV a.day,iV a.start.kind,iV a.start.day,AV.str a.start.event,AV.ls (a.items.map MB)]],AObj.row 8 false 0 [AV.agg [iV 0,iV 0,iV 0,iV 0,AV.str [],AV.nils,AV.nils,AV.nils]],AObj.row 28 true x0.2.2.1 (x0.2.2.2.2.map bc)])
theorem GN (u:TUnit) (a:PAct) (hu:OkB u) (ha:OkA a):kP 64 [eU u,au a] (.tuple [eU (mV u a), .ls ((cF u (ra a a.items 0)).map iw)]):=by
  have hb:=ha.n
  have h:=RJ u (ra a a.items 0) hu (by grind [G3]) fun d hd=>ha.i _ (zN a _ _ d hd)
  unfold mV
  obtain ⟨D,hD⟩ : ∃ D,D=ra a a.items 0:=⟨_,rfl⟩
  rw [← hD] at h ⊢
  let q:=fQ [ab [iV (cZ u D).act,iV (cZ u D).item,iV (cZ u D).n,iV (cZ u D).kind,af (cZ u D).label,aU (List.map aQ (cZ u D).head),aU (List.map aQ (cZ u D).words),aU (List.map aX (cZ u D).kids)],aU ((cF u D).map iw)];let q1:= [iV u.act,iV u.item,iV u.n,iV u.kind,af u.label,aU (u.head.map aQ),aU (u.words.map aQ),aU (u.kids.map aX)];exact b7 Tryz.func64 (Mg 7 (Ml 11 (Le.len (f:=MB) (l:=a.items)) (Mg 0 (MM (Nat × List PItem × Unit) (Nat × List PItem × Nat × Nat × List PDeed) [2,3,4,6,10,11,12] (vP u a) (GO u a D) (GR u a) (GP u a D) (fun x=>x.2.1.length) (fun x=>x.2.1.length) (.inl (0,a.items,())) (ax ((vP u a) (0,a.items,()))) (et (rfl:List.drop 0 (a.items)=a.items) (by rfl:(a.items=a.items))) (fun x0 hx0 nx0=>Mc x0.2.1 (fun hr0=>have lt0:=ai hx0.1 hr0;(have hj0:=aF (J:=fun r x=>r=a.items) (a:=x0.2.2) hr0 hx0.2;(Mg 0 (Mh lt0 (Mg 1 (Ml 29 b9 (Mp (bw.onArgs (.cons (aW _) (.cons (dY (by (rw [hD,← hj0];rfl):(D.map bc)=([]))) .nil)) (h):kP 65 [ab q1,aU []] _) (Mg 3 (Mf (aW q)))))))))) (fun w0 r0 hr0=>have lt0:=aD hx0.1 hr0;(have glt0:=aJ lt0;(have nt0:=(ah (enc:=MB) hx0.1 hr0).trans (congrArg some (fV w0));(have hj0:=aE (J:=fun r x=>r=a.items) (a:=x0.2.2) hr0 hx0.2;(Mg 0 (Mt lt0 (Mg 0 (Mx nt0 (Mg 15 (Ml 27 (Le.wr (x:=Int.ofNat x0.1+1) cq) (Mg 0 (M0 (.ren [0,1,2,4,3] [] [2,3,4,6,10,11,12]) (M1 (.frz 4 [2,3,4,6,10,11,12]) (Qy rt rt rt rt ti) (Mf (nx0 (.inr (x0.1+1,r0,(0,1, [PDeed.mk a.number (Int.ofNat x0.1) a.day w0]))) (et (ay hx0.1 hr0) (by (have e:x0.1=0:=UJ (hx0.1.trans hr0) (by simp) (by simp_all);exact ⟨rfl,by grind,by rw [hD,e,← hj0];first | done | rfl⟩):((1:Nat) = [PDeed.mk a.number (Int.ofNat x0.1) a.day w0].length∧(1:Nat)+r0.length=a.items.length∧D = [PDeed.mk a.number (Int.ofNat x0.1) a.day w0]++ra a r0 (1:Nat)))) (aO hr0))))))))))))))))) (fun x0 hx0 nx0=>let q2:=List.map bc x0.2.2.2.2;Mc x0.2.1 (fun hr0=>have lt0:=ai hx0.1 hr0;(have hj0:=aF (J:=fun r x=>x.2.1=x.2.2.length∧x.2.1+r.length=a.items.length∧D=x.2.2++ra a r x.2.1) (a:=x0.2.2) hr0 hx0.2;(Mg 0 (Mh lt0 (Mg 1 (M2 (.fsl 3 [4,28] 29 q2) (mu rt rt rt ti) (eR (ax (x0.2.2.1)) (c8 (f:=bc) (l:=x0.2.2.2.2) (n:=x0.2.2.2.1) (by omega:(x0.2.2.2.2).length=x0.2.2.2.1)) (aK Ui (x0.2.2.2.2))) (Ml 29 (ib q2 (false) (aK Ui (x0.2.2.2.2))) (Mp (bw.onArgs (.cons (aW _) (.cons (dY (by (rw [hj0.2.2];simp [ra];done):(D.map bc)=(x0.2.2.2.2.map bc))) .nil)) (h):kP 65 [ab q1,aU q2] _) (Mg 3 (Mf (aW q))))))))))) (fun w0 r0 hr0=>have lt0:=aD hx0.1 hr0;(have glt0:=aJ lt0;(have nt0:=(ah (enc:=MB) hx0.1 hr0).trans (congrArg some (fV w0));(have hj0:=aE (J:=fun r x=>x.2.1=x.2.2.length∧x.2.1+r.length=a.items.length∧D=x.2.2++ra a r x.2.1) (a:=x0.2.2) hr0 hx0.2;(Mg 0 (Mt lt0 (Mg 0 (Mx nt0 (Mg 12 (M1 .app (eR (ax (x0.2.2.1)) (by simp_all:x0.2.2.2.1=(x0.2.2.2.2.map bc).length) (by (refine aA (m:=10000) ?_ ?_ ?_ <;> omega):small (x0.2.2.2.1+1) 392=true)) (M1 (.obj 3 (aw 28 true (x0.2.2.1+1) ((x0.2.2.2.2++ [PDeed.mk a.number (Int.ofNat x0.1) a.day w0]).map bc))) (congrArg (aw 28 true (x0.2.2.1+1)) (iI (f:=bc) (l:=x0.2.2.2.2) (ws:= [PDeed.mk a.number (Int.ofNat x0.1) a.day w0]))) (Mg 1 (Ml 27 (Le.wr (x:=Int.ofNat x0.1+1) cq) (Mg 0 (M1 (.frz 4 [2,3,4,6,10,11,12]) (Qy (bZ (sz:=28) (op:=true) (ep:=x0.2.2.1+1) (n:=4) (aK Ui (x0.2.2.2.2++ [PDeed.mk a.number (Int.ofNat x0.1) a.day w0]))) rt rt rt ti) (Mf (nx0 (.inr (x0.1+1,r0,(x0.2.2.1+1,x0.2.2.2.1+1,x0.2.2.2.2++ [PDeed.mk a.number (Int.ofNat x0.1) a.day w0]))) (et (ay hx0.1 hr0) (by (have e:x0.1=x0.2.2.2.1:=UJ (hx0.1.trans hr0) (by simp) hj0.2.1;exact ⟨by simp_all,by grind,by grind [ra]⟩):(x0.2.2.2.1+(1:Nat)=(x0.2.2.2.2++ [PDeed.mk a.number (Int.ofNat x0.1) a.day w0]).length∧x0.2.2.2.1+(1:Nat)+r0.length=a.items.length∧D=x0.2.2.2.2++ [PDeed.mk a.number (Int.ofNat x0.1) a.day w0]++ra a r0 (x0.2.2.2.1+(1:Nat))))) (aO hr0)))))))))))))))))))))))
noncomputable def oD (items:Int) (a:PAct):Bool:=aV (ao items (.ofNat a.items.length)) && a.items.all mJ
noncomputable def Kf (l:List PAct) (most items:Int):Bool:=aV (ao most (.ofNat l.length)) && l.all (oD items)
def F6 (l:List PAct) (items:Int) (x0:Nat × List PAct × Unit):Prop:=(l).drop x0.1=x0.2.1∧l.all (oD items)=x0.2.1.all (oD items)
noncomputable def vi (l:List PAct) (items:Int) (x0:Nat × List PAct × Unit):List AV × List AObj:=([AV.ls (l.map au),iV items,nV x0.1], [])
def F5 (l:List PAct) (items:Int) (x0:Nat × List PAct × Unit) (w0:PAct) (x1:Nat × List PItem × Unit):Prop:=(w0.items).drop x1.1=x1.2.1∧w0.items.all mJ=x1.2.1.all mJ
noncomputable def vg (l:List PAct) (items:Int) (x0:Nat × List PAct × Unit) (w0:PAct) (x1:Nat × List PItem × Unit):List AV × List AObj:=([AV.ls (l.map au),iV items,nV x0.1,nV x1.1], [])
theorem Qj (l:List PAct) (hl:l.length<2 ^ 60) (hf : ∀ a,a∈l→FP a) (most items:Int):kP 9 [.ls (l.map au),iV most,iV items] (.bool (Kf l most items)):=by
  unfold Kf
  have rr0 : ∀ b',(h:(aV (ao most (Int.ofNat l.length)) && l.all (oD items))=b':=by first | (simp only [aS,aV,bS, *];done) | (rw [hj0,jo,oD,hj1,jo];simp only [aS,aV,bS, *];done) | (rw [hj0,jo,oD];simp only [aS,aV,bS, *];done) | (rw [hj0];simp only [aS,aV,bS, *];done))→(aV (ao most (Int.ofNat l.length)) && l.all (oD items))=b':=(fun _ h=>h);exact b7 Tryz.func9 (Mg 2 (Ml 10 (Le.len (f:=au) (l:=l)) (Mg 1 (Mb (ao most (Int.ofNat l.length)) (fun h0=>have gh0:=aJ h0;(Mg 0 (Mf (aq (rr0 (false)))))) (fun h0=>have gh0:=av h0;(Mg 0 (ML (Nat × List PAct × Unit) [0,2,7] (vi l items) (F6 l items) (fun x=>x.2.1.length) (0,l,()) (ax ((vi l items) (0,l,()))) (et (rfl:List.drop 0 (l)=l) (by rfl:(l.all (oD items)=l.all (oD items)))) (fun x0 hx0 nx0=>Mc x0.2.1 (fun hr0=>have lt0:=ai hx0.1 hr0;(have hj0:=aF (J:=fun r x=>l.all (oD items)=r.all (oD items)) (a:=x0.2.2) hr0 hx0.2;(Mg 2 (Ml 15 (Le.len (f:=au) (l:=l)) (Mg 0 (Mh lt0 (Mg 0 (Mf (aq (rr0 (true))))))))))) (fun w0 r0 hr0=>have lt0:=aD hx0.1 hr0;(have glt0:=aJ lt0;(have nt0:=ah (enc:=au) hx0.1 hr0;(have hj0:=aE (J:=fun r x=>l.all (oD items)=r.all (oD items)) (a:=x0.2.2) hr0 hx0.2;(have q0:FP w0:=hf _ (bJ hx0.1 hr0);(have q1:w0.items.length<2 ^ 60:=q0.1;(Mg 2 (Ml 15 (Le.len (f:=au) (l:=l)) (Mg 0 (Mt lt0 (Mg 1 (Mx nt0 (Mg 2 (Ml 24 (Le.len (f:=MB) (l:=w0.items)) (Mg 1 (Mb (ao items (Int.ofNat w0.items.length)) (fun h2=>have gh2:=aJ h2;(Mg 0 (Mf (aq (rr0 (false)))))) (fun h2=>have gh2:=av h2;(Mg 0 (ML (Nat × List PItem × Unit) [0,2,7,8] (vg l items x0 w0) (F5 l items x0 w0) (fun x=>x.2.1.length) (0,w0.items,()) (ax ((vg l items x0 w0) (0,w0.items,()))) (et (rfl:List.drop 0 (w0.items)=w0.items) (by rfl:(w0.items.all mJ=w0.items.all mJ))) (fun x1 hx1 nx1=>Mc x1.2.1 (fun hr1=>have lt1:=ai hx1.1 hr1;(have hj1:=aF (J:=fun r x=>w0.items.all mJ=r.all mJ) (a:=x1.2.2) hr1 hx1.2;(Mg 2 (Mx nt0 (Mg 2 (Ml 33 (Le.len (f:=MB) (l:=w0.items)) (Mg 0 (Mh lt1 (Mg 1 (Ml 18 (Le.wr (x:=Int.ofNat x0.1+1) cq) (Mg 0 (Mf (nx0 (x0.1+1,r0,()) (et (ay hx0.1 hr0) (by (rw [hj0,jo,oD,hj1];simp only [aS,aV,bS, *];done):(l.all (oD items)=r0.all (oD items)))) (aO hr0)))))))))))))) (fun w1 r1 hr1=>have lt1:=aD hx1.1 hr1;(have glt1:=aJ lt1;(have nt1:=(ah (enc:=MB) hx1.1 hr1).trans (congrArg some (fV w1));(have hj1:=aE (J:=fun r x=>w0.items.all mJ=r.all mJ) (a:=x1.2.2) hr1 hx1.2;(Mg 2 (Mx nt0 (Mg 2 (Ml 33 (Le.len (f:=MB) (l:=w0.items)) (Mg 0 (Mt lt1 (Mg 1 (Mx nt0 (Mg 2 (Mx nt1 (Mg 0 (Mp (Tb w1 (by exact q0.2 _ (bJ hx1.1 hr1))) (Mg 0 (Mn (mJ w1) (fun h4=>Mg 0 (Mf (aq (rr0 (false))))) (fun h4=>Mg 1 (Ml 36 (Le.wr (x:=Int.ofNat x1.1+1) cq) (Mg 0 (Mf (nx1 (x1.1+1,r1,()) (et (ay hx1.1 hr1) (by (rw [hj1,jo];simp only [aS,aV,bS, *];done):(w0.items.all mJ=r1.all mJ))) (aO hr1))))))))))))))))))))))))))))))))))))))))))))))))))))
theorem U6 {a:PAct} {n:Nat} (hf:FP a) (hn:n<10000) (h:oD (.ofNat n) a=true):OkA a:=by
  unfold oD at h
  obtain ⟨h1,h2⟩:=qx.1 h
  have h1:=fM h1
  simp only [oN] at h1
  exact ⟨by omega,fun x hx=>U5 (hf.2 x hx) (jp.1 h2 x hx)⟩
noncomputable def ko (u:TUnit) (a b:PAct):TUnit:=mV (mV u a) b
theorem M5 (u:TUnit) (a b:PAct) (hu:OkB u) (ha:OkA a) (hb:OkA b):kP 32 [eU u,au a,au b] (eU (ko u a b)):=by
  have h1:=GN u a hu ha
  have h2:=GN (mV u a) b (Dm hu ha) hb
  exact b7 Tryz.func32 (Mg 5 (Mp (h1) (Mg 5 (Mp (h2) (Mg 5 (Mf (aW (ab [iV (mV (mV u a) b).act,iV (mV (mV u a) b).item,iV (mV (mV u a) b).n,iV (mV (mV u a) b).kind,af (mV (mV u a) b).label,aU (List.map aQ (mV (mV u a) b).head),aU (List.map aQ (mV (mV u a) b).words),aU (List.map aX (mV (mV u a) b).kids)]))))))))
noncomputable def iT (u:TUnit) (a b:PAct):Bool:=aV (y7 (ko u a b) (ko u b a))
def Aj (C:Nat→Nat→Bool) (a:Nat):Nat→Nat→List PPair
  | _,0=> []
  | b,k+1=>(bif C a b then [⟨Int.ofNat a,Int.ofNat b⟩] else [])++Aj C a (b+1) k
def jn (C:Nat→Nat→Bool) (n:Nat):Nat→Nat→List PPair
  | _,0=> []
  | a,k+1=>Aj C a (a+1) (n - (a+1))++jn C n (a+1) k
def Nk (i k:Int) (p:PPair):Bool:=az p.a i && az p.b k
theorem Kn (a b:Nat):az (Int.ofNat a) (Int.ofNat b)=Nat.beq a b:=rfl
theorem Er (C:Nat→Nat→Bool) (i k:Nat) (a:Nat) : ∀ (m b:Nat),(Aj C a b m).any (Nk (Int.ofNat i) (Int.ofNat k))=(Nat.beq a i && (Nat.ble b k && (Nat.blt k (b+m) && C i k)))
  | 0,b=>by
    show false=_
    cases h1:Nat.ble b k with
    | false=>cases Nat.beq a i <;> rfl
    | true=>
      have:=ng h1
      have:Nat.blt k (b+0)=false:=by
        cases q:Nat.blt k (b+0) with
        | false=>rfl
        | true=>have:=ng q;omega
      rw [this];cases Nat.beq a i <;> rfl
  | m+1,b=>by
    rw [Aj,List.any_append,Er C i k a m (b+1),show b+1+m=b+(m+1) by omega]
    have e:(bif C a b then [(⟨Int.ofNat a,Int.ofNat b⟩:PPair)] else []).any (Nk (Int.ofNat i) (Int.ofNat k))=(C a b && (Nat.beq a i && Nat.beq b k)):=by
      cases C a b with
      | false=>rfl
      | true=>show ((az (Int.ofNat a) (Int.ofNat i) && az (Int.ofNat b) (Int.ofNat k)) || false)=_;rw [Kn,Kn,Bool.or_false];rfl
    rw [e]
    cases h:Nat.beq a i with
    | false=>cases C a b <;> rfl
    | true=>
      have:=j1 h
      subst this
      cases h2:Nat.beq b k with
      | true=>
        have:=j1 h2
        subst this
        rw [show Nat.ble b b=true from mW (ar _),show Nat.blt b (b+(m+1))=true from mW (by omega)]
        cases C a b
        · cases Nat.ble (b+1) b <;> rfl
        · cases Nat.ble (b+1) b <;> rfl
      | false=>
        have hne:b≠k:=fun e=>by rw [e,mC] at h2;cases h2
        have:Nat.ble (b+1) k=Nat.ble b k:=by
          rw [Cj,Nat.ble_eq,Nat.ble_eq];omega
        rw [this]
        cases C a b <;> rfl
theorem G2 (C:Nat→Nat→Bool) (i k n:Nat) (hik:i<k) (hk:k<n) : ∀ (m a:Nat),(jn C n a m).any (Nk (Int.ofNat i) (Int.ofNat k))=(Nat.ble a i && (Nat.blt i (a+m) && C i k))
  | 0,a=>by
    show false=_
    cases h1:Nat.ble a i with
    | false=>rfl
    | true=>
      have:=ng h1
      have:Nat.blt i (a+0)=false:=by
        cases q:Nat.blt i (a+0) with
        | false=>rfl
        | true=>have:=ng q;omega
      rw [this];rfl
  | m+1,a=>by
    rw [jn,List.any_append,Er,G2 C i k n hik hk m (a+1),show a+1+m=a+(m+1) by omega]
    cases h:Nat.beq a i with
    | true=>
      have:=j1 h
      subst this
      rw [show Nat.ble (a+1) k=true from mW (by omega),show Nat.blt k (a+1+(n - (a+1)))=true from mW (by omega),show Nat.ble a a=true from mW (ar _),show Nat.blt a (a+(m+1))=true from mW (by omega)]
      cases Nat.ble (a+1) a <;> cases C a k <;> rfl
    | false=>
      have hne:a≠i:=fun e=>by rw [e,mC] at h;cases h
      have:Nat.ble (a+1) i=Nat.ble a i:=by
        rw [Cj,Nat.ble_eq,Nat.ble_eq];omega
      rw [this];rfl
theorem Ep (C:Nat→Nat→Bool) (a:Nat) : ∀ (m b:Nat),(Aj C a b m).length≤m
  | 0,_=>ar _
  | m+1,b=>by
    have:=Ep C a m (b+1)
    rw [Aj,lA]
    cases C a b
    · show 0+_≤_;omega
    · show 1+_≤_;omega
theorem zL (C:Nat→Nat→Bool) (n:Nat) : ∀ (m a:Nat),(jn C n a m).length≤m * n
  | 0,_=>by simp [jn]
  | m+1,a=>by
    have h1:=zL C n m (a+1)
    have h2:=Ep C a (n - (a+1)) (a+1)
    rw [jn,lA,qv];omega
noncomputable def bG (u:TUnit) (l:List PAct) (i k:Nat):Bool:=iT u (gD l i) (gD l k)
noncomputable def jQ (u:TUnit) (l:List PAct):List PPair:=jn (bG u l) l.length 0 l.length
theorem HG (u:TUnit) (a b:PAct):jQ u [a,b]=bif iT u a b then [⟨0,1⟩] else []:=by
  show ((bif iT u a b then [PPair.mk (Int.ofNat 0) (Int.ofNat 1)] else [])++ [])++([]++ [])=_
  cases iT u a b <;> rfl
theorem ID (u:TUnit) (a b:PAct):iT u a b=iT u b a:=by
  unfold iT
  have:y7 (ko u a b) (ko u b a)=y7 (ko u b a) (ko u a b):=by
    rw [Cj,Kl,Kl];exact ⟨Eq.symm,Eq.symm⟩
  rw [this]
def fx (C:Nat→Nat→Bool) (n a b:Nat):List PPair:=Aj C a b (n - b)++jn C n (a+1) (n - (a+1))
theorem rR {C:Nat→Nat→Bool} {n a b:Nat} (hb:b<n) (h:C a b=true):fx C n a b=⟨Int.ofNat a,Int.ofNat b⟩::fx C n a (b+1):=by
  unfold fx
  rw [show n - b=(n - (b+1))+1 by omega,Aj,h];rfl
theorem rS {C:Nat→Nat→Bool} {n a b:Nat} (hb:b<n) (h:C a b=false):fx C n a b=fx C n a (b+1):=by
  unfold fx
  rw [show n - b=(n - (b+1))+1 by omega,Aj,h];rfl
theorem yf {l r:List PAct} {w:PAct} {a:Nat} (h:l.drop a=w::r):a<l.length∧l.length - r.length=a+1∧r.length=l.length - (a+1)∧l.length - (w::r).length=a∧(w::r).length=r.length+1:=by
  have:=congrArg List.length h
  rw [jW,lC] at this
  rw [lC]
  omega
theorem HH {C:Nat→Nat→Bool} {l r:List PAct} {w:PAct} {a:Nat} (h:l.drop a=w::r):jn C l.length (l.length - (w::r).length) (w::r).length=fx C l.length a (a+1):=by
  obtain ⟨h1,h2,h3,h4,h5⟩:=yf h
  rw [h4,h5,jn,h3];rfl
theorem yp {C:Nat→Nat→Bool} {l r:List PAct} {w:PAct} {a b:Nat} (h:l.drop a=w::r) (hb:l.length≤b):fx C l.length a b=jn C l.length (l.length - r.length) r.length:=by
  obtain ⟨h1,h2,h3,h4,h5⟩:=yf h
  unfold fx
  rw [show l.length - b=0 by omega,Aj,h2,h3];rfl
noncomputable abbrev uO (u:TUnit):AObj:= .row 8 false 0 [eU u]
noncomputable abbrev J6 (l:List PAct):AObj:= .row 1 false 0 [.ls (l.map au)]
noncomputable abbrev UY:AObj:= .row 1 false 0 [.nils]
noncomputable abbrev MT (ep n:Nat):AObj:= .row 1 false 0 [.slice 3 ep 0 n none]
noncomputable abbrev Bx (ep:Nat) (l:List PPair):AObj:= .row 2 true ep (l.map bY)
theorem ux {α:Type} [Inhabited α] {l:List α} {i:Nat} (h:i<l.length):gD l i=l[i]:=by simp [gD,List.getD,kS h]
theorem T4 {α:Type} [Inhabited α] {p:α→Bool} {l:List α} (h : ∀ j,j<l.length→p (gD l j)=true):l.all p=true:=jp.2 fun x hx=>by
  grind [List.getElem_of_mem, ux]
theorem Rj {α:Type} [Inhabited α] {p:α→Bool} {l:List α} {j:Nat} (hj:j<l.length) (h:p (gD l j)=false):l.all p=false:=by
  cases q:l.all p with
  | false=>rfl
  | true=>grind [gy]
theorem wa {p:Nat→Prop} {n:Nat} (h : ∀ j,j<n→p j) (hn:p n) : ∀ j,j<n+1→p j:=fun j hj=>by
  grind
def Lc (s:aP) (x0:Nat):Prop:=x0≤List.length s∧∀ (j:Nat),j<x0→AW (33:Int) (126:Int) (gD s j)=true
noncomputable def Bz (s:aP) (x0:Nat):List AV × List AObj:=([AV.str s,nV x0], [])
theorem OZ (s:aP) (hs:s.length≤2 ^ 39):kP 372 [.str s] (.bool (gh s)):=by
  unfold gh
  have rr0 : ∀ b',(h:(aV (ao (Int.ofNat (List.length s)) 1) && (aV (ao 24 (Int.ofNat (List.length s))) && List.all s (AW 33 126)))=b':=by first | (simp only [aS,aV,bS, *];done) | (rw [T4 fun j h=>hx0.2 j (by (first | omega | (simp only [oN] at *;omega)))];simp only [aS,aV,bS, *];done) | (rw [Rj (j:=x0) (by (first | omega | (simp only [oN] at *;omega))) (IU (by assumption))];simp only [aS,aV,bS, *];done) | (rw [Rj (j:=x0) (by (first | omega | (simp only [oN] at *;omega))) (CS (by assumption))];simp only [aS,aV,bS, *];done))→(aV (ao (Int.ofNat (List.length s)) 1) && (aV (ao 24 (Int.ofNat (List.length s))) && List.all s (AW 33 126)))=b':=(fun _ h=>h);exact b7 Tryz.func372 (Mg 4 (Mb (ao (Int.ofNat (List.length s)) 1) (fun h0=>have gh0:=aJ h0;(Mt h0 (Mt h0 (M1 (.pk true) h0 (Mg 1 (Mf (aq (rr0 (false))))))))) (fun h0=>have gh0:=av h0;(Mg 0 (Mh h0 (Mg 0 (Mh h0 (Mg 0 (M1 (.pk false) h0 (Mb (ao 24 (Int.ofNat (List.length s))) (fun h1=>have gh1:=aJ h1;(Mg 0 (Mf (aq (rr0 (false)))))) (fun h1=>have gh1:=av h1;(Mg 0 (ML (Nat) [0,3] (Bz s) (Lc s) (fun n=>List.length s - n) (0) (ax ((Bz s) (0))) (by simp_all:(0:Nat)≤List.length s∧∀ (j:Nat),j<(0:Nat)→AW (33:Int) (126:Int) (gD s j)=true) (fun x0 hx0 nx0=>have hx0:x0≤List.length s∧∀ (j:Nat),j<x0→AW (33:Int) (126:Int) (gD s j)=true:=hx0;(Mg 3 (Mb (ao (Int.ofNat x0) (Int.ofNat (List.length s))) (fun h3=>have gh3:=aJ h3;(Mg 1 (M1 (.chr (gD s x0)) (kL (by simp_all:x0<(s).length)) (Mg 1 (Mb (ao (Int.ofNat (gD s x0).toNat) 33) (fun h4=>have gh4:=aJ h4;(Mt h4 (Mt h4 (Mt h4 (M1 (.pk true) h4 (Mg 1 (Mf (aq (rr0 (false)))))))))) (fun h4=>have gh4:=av h4;(Mg 0 (Mh h4 (Mg 0 (Mh h4 (M1 (.chr (gD s x0)) (kL (by simp_all:x0<(s).length)) (Mh h4 (Mg 0 (M1 (.pk false) h4 (Mb (ao 126 (Int.ofNat (gD s x0).toNat)) (fun h5=>have gh5:=aJ h5;(Mg 0 (Mf (aq (rr0 (false)))))) (fun h5=>have gh5:=av h5;(Mg 1 (Ml 17 (bb (x:=Int.ofNat x0+(1:Int)) (n:=x0+(1:Nat)) cq) (Mg 0 (Mf (nx0 (x0+1) (by exact ⟨by grind,wa hx0.2 (IY (by omega) (by omega))⟩:x0+(1:Nat)≤List.length s∧∀ (j:Nat),j<x0+(1:Nat)→AW (33:Int) (126:Int) (gD s j)=true) (by grind:List.length s - (x0+(1:Nat))<List.length s - x0)))))))))))))))))))))) (fun h3=>have gh3:=av h3;(Mg 0 (Mf (aq (rr0 (true))))))))))))))))))))))
def UP (l:List aP) (x0:Nat × List aP × Unit):Prop:=(l).drop x0.1=x0.2.1∧l.all gh=x0.2.1.all gh
noncomputable def OJ (l:List aP) (x0:Nat × List aP × Unit):List AV × List AObj:=([AV.ls (l.map lT),nV x0.1], [])
theorem RR (l:List aP) (hl:l.length<2 ^ 40) (hs : ∀ s,s∈l→s.length≤2 ^ 39):kP 333 [.ls (l.map lT)] (.bool (lX l)):=by
  unfold lX
  have rr0 : ∀ b',(h:(aV (ao 256 (Int.ofNat l.length)) && l.all gh)=b':=by (simp only [aS,aV,bS, *];done))→(aV (ao 256 (Int.ofNat l.length)) && l.all gh)=b':=(fun _ h=>h);exact b7 Tryz.func333 (Mg 2 (Ml 5 (Le.len (f:=lT) (l:=l)) (Mg 0 (Mb (ao 256 (Int.ofNat l.length)) (fun h0=>have gh0:=aJ h0;(Mg 0 (Mf (aq (rr0 (false)))))) (fun h0=>have gh0:=av h0;(Mg 0 (ML (Nat × List aP × Unit) [0,3] (OJ l) (UP l) (fun x=>x.2.1.length) (0,l,()) (ax ((OJ l) (0,l,()))) (et (rfl:List.drop 0 (l)=l) (by rfl:(l.all gh=l.all gh))) (fun x0 hx0 nx0=>Mc x0.2.1 (fun hr0=>have lt0:=ai hx0.1 hr0;(have hj0:=aF (J:=fun r x=>l.all gh=r.all gh) (a:=x0.2.2) hr0 hx0.2;(Mg 2 (Ml 9 (Le.len (f:=lT) (l:=l)) (Mg 0 (Mh lt0 (Mg 0 (Mf (aq (rr0 (true))))))))))) (fun w0 r0 hr0=>have lt0:=aD hx0.1 hr0;(have glt0:=aJ lt0;(have nt0:=ah (enc:=lT) hx0.1 hr0;(have hj0:=aE (J:=fun r x=>l.all gh=r.all gh) (a:=x0.2.2) hr0 hx0.2;(Mg 2 (Ml 9 (Le.len (f:=lT) (l:=l)) (Mg 0 (Mt lt0 (Mg 1 (Mx nt0 (Mg 0 (Mp (OZ w0 (by exact hs _ (bJ hx0.1 hr0))) (Mg 0 (Mn (gh w0) (fun h1=>Mg 0 (Mf (aq (rr0 (false))))) (fun h1=>Mg 1 (Ml 12 (Le.wr (x:=Int.ofNat x0.1+1) cq) (Mg 0 (Mf (nx0 (x0.1+1,r0,()) (et (ay hx0.1 hr0) (by (rw [hj0,jo];simp only [aS,aV,bS, *];done):(l.all gh=r0.all gh))) (aO hr0))))))))))))))))))))))))))))
def Ca (l:List PWord) (x0:Nat × List PWord × Unit):Prop:=(l).drop x0.1=x0.2.1∧x0.2.1=l
noncomputable def rD (l:List PWord) (x0:Nat × List PWord × Unit):List AV × List AObj:=([AV.ls (l.map aQ),AV.ps [] true,nV x0.1], [])
def Cy (l:List PWord) (x0:Nat × List PWord × Nat × Nat × List aP):Prop:=(l).drop x0.1=x0.2.1∧x0.2.2.2.1=x0.2.2.2.2.length∧bW l=x0.2.2.2.2++bW x0.2.1∧x0.2.2.2.2.length+x0.2.1.length=l.length
noncomputable def Cv (l:List PWord) (x0:Nat × List PWord × Nat × Nat × List aP):List AV × List AObj:=([AV.ls (l.map aQ),AV.slice 0 x0.2.2.1 0 x0.2.2.2.1 none,nV x0.1], [AObj.row 1 true x0.2.2.1 (x0.2.2.2.2.map lT)])
theorem LJ (l:List PWord) (hl:l.length≤300):kP 334 [.ls (l.map aQ)] (.ls ((bW l).map lT)):=by
  have rr0 : ∀ b',(h:((bW l).map lT)=b':=by first | rfl | (rw [← hj0];rfl) | (rw [hj0.2.1];simp [bW]))→((bW l).map lT)=b':=(fun _ h=>h);exact b7 Tryz.func334 (Mg 3 (MM (Nat × List PWord × Unit) (Nat × List PWord × Nat × Nat × List aP) [0,3,4] (rD l) (Cv l) (Ca l) (Cy l) (fun x=>x.2.1.length) (fun x=>x.2.1.length) (.inl (0,l,())) (ax ((rD l) (0,l,()))) (et (rfl:List.drop 0 (l)=l) (by rfl:(l=l))) (fun x0 hx0 nx0=>Mc x0.2.1 (fun hr0=>have lt0:=ai hx0.1 hr0;(have hj0:=aF (J:=fun r x=>r=l) (a:=x0.2.2) hr0 hx0.2;(Mg 2 (Ml 8 (Le.len (f:=aQ) (l:=l)) (Mg 0 (Mh lt0 (Mg 1 (Mf ((Le.lsp (rr0 ([])) (by rfl)):Le _ (eL [] true)))))))))) (fun w0 r0 hr0=>have lt0:=aD hx0.1 hr0;(have glt0:=aJ lt0;(have nt0:=ah (enc:=aQ) hx0.1 hr0;(have hj0:=aE (J:=fun r x=>r=l) (a:=x0.2.2) hr0 hx0.2;(have q0:r0.length+(1:Nat)≤l.length:=JB hx0.1 hr0;(Mg 2 (Ml 8 (Le.len (f:=aQ) (l:=l)) (Mg 0 (Mt lt0 (Mg 2 (Mx nt0 (Mg 6 (Ml 11 (Le.wr (x:=Int.ofNat x0.1+1) cq) (Mg 0 (Mf (nx0 (.inr (x0.1+1,r0,(0,1, [w0.text]))) (et (ay hx0.1 hr0) (by exact ⟨rfl,by rw [← hj0];rfl,by grind⟩:((1:Nat) = [w0.text].length∧bW l = [w0.text]++bW r0∧ [w0.text].length+r0.length=l.length))) (aO hr0)))))))))))))))))) (fun x0 hx0 nx0=>Mc x0.2.1 (fun hr0=>have lt0:=ai hx0.1 hr0;(have hj0:=aF (J:=fun r x=>x.2.1=x.2.2.length∧bW l=x.2.2++bW r∧x.2.2.length+r.length=l.length) (a:=x0.2.2) hr0 hx0.2;(Mg 2 (Ml 8 (Le.len (f:=aQ) (l:=l)) (Mg 0 (Mh lt0 (Mg 1 (M2 (.fsl 0 [] 2 (x0.2.2.2.2.map lT)) ti (eR (ax (x0.2.2.1)) (c8 (f:=lT) (l:=x0.2.2.2.2) (n:=x0.2.2.2.1) (by omega:(x0.2.2.2.2).length=x0.2.2.2.1)) (aK Im (x0.2.2.2.2))) (Ml 2 (ib (x0.2.2.2.2.map lT) (false) (aK Im (x0.2.2.2.2))) (Mf (dY (rr0 (x0.2.2.2.2.map lT))))))))))))) (fun w0 r0 hr0=>have lt0:=aD hx0.1 hr0;(have glt0:=aJ lt0;(have nt0:=ah (enc:=aQ) hx0.1 hr0;(have hj0:=aE (J:=fun r x=>x.2.1=x.2.2.length∧bW l=x.2.2++bW r∧x.2.2.length+r.length=l.length) (a:=x0.2.2) hr0 hx0.2;(have q0:r0.length+(1:Nat)≤l.length:=JB hx0.1 hr0;(Mg 2 (Ml 8 (Le.len (f:=aQ) (l:=l)) (Mg 0 (Mt lt0 (Mg 2 (Mx nt0 (Mg 2 (M1 .app (eR (ax (x0.2.2.1)) (by simp_all:x0.2.2.2.1=(x0.2.2.2.2.map lT).length) (by (have z:=hj0.2.2;have z2:=hj0.1;simp only [lC] at z;refine aA (m:=10000) ?_ ?_ ?_ <;> omega):small (x0.2.2.2.1+1) 16=true)) (M1 (.obj 0 (aw 1 true (x0.2.2.1+1) ((x0.2.2.2.2++ [w0.text]).map lT))) (congrArg (aw 1 true (x0.2.2.1+1)) (iI (f:=lT) (l:=x0.2.2.2.2) (ws:= [w0.text]))) (Mg 2 (Ml 11 (Le.wr (x:=Int.ofNat x0.1+1) cq) (Mg 0 (Mf (nx0 (.inr (x0.1+1,r0,(x0.2.2.1+1,x0.2.2.2.1+1,x0.2.2.2.2++ [w0.text]))) (et (ay hx0.1 hr0) (by grind [bW]:(x0.2.2.2.1+(1:Nat)=(x0.2.2.2.2++ [w0.text]).length∧bW l=x0.2.2.2.2++ [w0.text]++bW r0∧(x0.2.2.2.2++ [w0.text]).length+r0.length=l.length))) (aO hr0)))))))))))))))))))))))
theorem Ju (l:List PWord) (hl:l.length≤300) (hs : ∀ w,w∈l→w.text.length≤2 ^ 39):kP 284 [.ls (l.map aQ)] (.bool (fm l)):=by
  have h:=LJ l hl
  have h2:=RR (bW l) (by grind [bW]) (fun s hs'=>by obtain ⟨w,hw,e⟩:=ky.1 hs';grind)
  unfold fm
  rw [show (l.map fun w=>w.text)=bW l from rfl]
  have rr0 : ∀ b',(h:(aV (ao 256 (Int.ofNat l.length)) && lX (bW l))=b':=by (simp only [aS,aV,bS, *];first | done | rfl))→(aV (ao 256 (Int.ofNat l.length)) && lX (bW l))=b':=(fun _ h=>h);exact b7 Tryz.func284 (Mg 2 (Ml 4 (Le.len (f:=aQ) (l:=l)) (Mg 1 (Mn (ao 256 (Int.ofNat l.length)) (fun h0=>(Mg 0 (Mt (ce h0) (Mp (h) (Mt (ce h0) (Mp (h2) (M1 (.pk true) (ce h0) (Mg 0 (Mf (aq (rr0 (lX (bW l))))))))))))) (fun h0=>(Mh (cJ h0) (Mh (cJ h0) (M1 (.pk false) (cJ h0) (Mg 0 (Mf (aq (rr0 (false)))))))))))))
theorem LM (p k:Int):kP 214 [iV p,iV k] (.bool (jG p k)):=by
  have rr0 : ∀ b',(h:(jG p k)=b':=by (simp only [jG,aS,aV,bS,cond_true,cond_false, *];first | done | rfl))→(jG p k)=b':=(fun _ h=>h);exact b7 Tryz.func214 (Mg 3 (Mb (az p 0) (fun h0=>(Mg 2 (Mb (az k 1) (fun h1=>(Mt h1 (M1 (.pk true) h1 (Mg 0 (Mf (aq (rr0 (true)))))))) (fun h1=>(Mg 0 (Mh h1 (Mg 0 (M1 (.pk false) h1 (Mg 0 (Mf (aq (rr0 (az k 2))))))))))))) (fun h0=>(Mg 1 (Mb (az p 1) (fun h2=>(Mg 2 (Mf (aq (rr0 (az k 2)))))) (fun h2=>(Mg 1 (Mb (az p 2) (fun h3=>(Mt h3 (Mg 2 (Mb (az k 3) (fun h4=>(Mt h4 (M1 (.pk true) h4 (Mg 2 (Mf (aq (rr0 (true)))))))) (fun h4=>(Mg 0 (Mh h4 (Mg 0 (M1 (.pk false) h4 (Mg 0 (Mb (az k 4) (fun h5=>(Mt h5 (M1 (.pk true) h5 (Mg 0 (Mf (aq (rr0 (true)))))))) (fun h5=>(Mg 0 (Mh h5 (Mg 0 (M1 (.pk false) h5 (Mg 0 (Mf (aq (rr0 (az k 7))))))))))))))))))))) (fun h3=>(Mg 1 (Mb (az p 3) (fun h6=>(Mg 2 (Mb (az k 3) (fun h7=>(Mt h7 (M1 (.pk true) h7 (Mg 2 (Mf (aq (rr0 (true)))))))) (fun h7=>(Mg 0 (Mh h7 (Mg 0 (M1 (.pk false) h7 (Mg 0 (Mb (az k 4) (fun h8=>(Mt h8 (M1 (.pk true) h8 (Mg 0 (Mf (aq (rr0 (true)))))))) (fun h8=>(Mg 0 (Mh h8 (Mg 0 (M1 (.pk false) h8 (Mg 0 (Mf (aq (rr0 (az k 7)))))))))))))))))))) (fun h6=>(Mg 1 (Mb (az p 4) (fun h9=>(Mg 2 (Mf (aq (rr0 (az k 5)))))) (fun h9=>(Mg 1 (Mb (az p 5) (fun h10=>(Mg 2 (Mf (aq (rr0 (az k 6)))))) (fun h10=>(Mg 0 (Mf (aq (rr0 (false)))))))))))))))))))))))
theorem NW (u:TUnit) (h:li u) (hk:u.kids.length≤2 ^ 20):kP 213 [eU u] (.bool (mQ u)):=by
  obtain ⟨h1,h2,h3,h4,h5⟩:=h
  have g1:=Ju u.head h1 h4
  have g2:=Ju u.words h2 h5
  have g3:=SH u.label h3
  have rr0 : ∀ b',(h:(mQ u)=b':=by (simp only [mQ,aS,aV,bS,cond_true,cond_false, *];first | done | rfl))→(mQ u)=b':=(fun _ h=>h);exact b7 Tryz.func213 (Mg 5 (Mb (ao u.kind 0) (fun h0=>(Mt h0 (Mt h0 (M1 (.pk true) h0 (Mg 7 (Mf (aq (rr0 (false))))))))) (fun h0=>(Mg 0 (Mh h0 (Mg 0 (Mh h0 (Mg 0 (M1 (.pk false) h0 (Mg 0 (Mb (ao 7 u.kind) (fun h1=>(Mt h1 (Mt h1 (Mt h1 (M1 (.pk true) h1 (Mg 5 (Mf (aq (rr0 (false)))))))))) (fun h1=>(Mg 0 (Mh h1 (Mg 0 (Mh h1 (Mg 0 (Ml 14 (Le.len (f:=aX) (l:=u.kids)) (Mh h1 (Mg 0 (M1 (.pk false) h1 (Mg 0 (Mb (ao 64 (Int.ofNat u.kids.length)) (fun h2=>(Mt h2 (Mt h2 (Mt h2 (M1 (.pk true) h2 (Mg 3 (Mf (aq (rr0 (false)))))))))) (fun h2=>(Mg 0 (Mh h2 (Mg 0 (Mh h2 (Mp (g1) (Mh h2 (Mg 0 (M1 (.pk false) h2 (Mg 0 (Mb (aV (fm u.head)) (fun z=>have h3:(fm u.head)=false:=(aI z);(Mt (ce h3) (Mt (ce h3) (Mt (ce h3) (M1 (.pk true) (ce h3) (Mg 1 (Mf (aq (rr0 (false)))))))))) (fun z=>have h3:(fm u.head)=true:=(aL z);(Mg 0 (Mh (cJ h3) (Mg 0 (Mh (cJ h3) (Mp (g2) (Mh (cJ h3) (Mg 0 (M1 (.pk false) (cJ h3) (Mn (fm u.words) (fun h4=>Mg 0 (Mf (aq (rr0 (false))))) (fun h4=>Mg 2 (Mb (az u.kind 0) (fun h5=>(Mg 3 (Mb (dS u.label (ByteArray.mk #[]).data.toList) (fun h6=>Mg 0 (Mt h6 (Mg 0 (Mt h6 (Mg 0 (Ml 38 (Le.len (f:=aQ) (l:=u.head)) (Mt h6 (Mg 0 (M1 (.pk true) h6 (Mg 0 (Mb (az (Int.ofNat u.head.length) 0) (fun h7=>(Mg 0 (Mt h7 (Mg 0 (Mt h7 (Mg 0 (Ml 44 (Le.len (f:=aQ) (l:=u.words)) (Mt h7 (Mg 0 (M1 (.pk true) h7 (Mg 0 (Mf (aq (rr0 (az (Int.ofNat u.words.length) 0))))))))))))))) (fun h7=>(Mh h7 (Mh h7 (Mh h7 (M1 (.pk false) h7 (Mg 0 (Mf (aq (rr0 (false))))))))))))))))))))) (fun h6=>Mh h6 (Mh h6 (Mh h6 (M1 (.pk false) h6 (Mg 2 (Mf (aq (rr0 (false)))))))))))) (fun h5=>(Mg 1 (Mp (g3) (Mg 0 (Mf (aq (rr0 (fu u.label))))))))))))))))))))))))))))))))))))))))))))))))))))))
theorem Ws {pk:Int} {d r:List TUnit} {w:TUnit} (h:jG pk w.kind=false):c9 pk d (w::r)=false:=by rw [jB,h];rfl
theorem Wr {pk:Int} {d r:List TUnit} {w:TUnit} (h:kH w=false):c9 pk d (w::r)=false:=by rw [jB,h];simp_all
theorem Wp {pk:Int} {d r:List TUnit} {w x:TUnit} (hx:x∈d) (h:iX w x=true):c9 pk d (w::r)=false:=by
  rw [jB,List.any_eq_true.2 ⟨x,hx,h⟩];simp_all
theorem Wo {pk:Int} {d r:List TUnit} {w:TUnit} (h1:jG pk w.kind=true) (h2:kH w=true) (h3 : ∀ x,x∈d→iX w x=false):c9 pk d (w::r)=c9 pk (d++ [w]) r:=by
  have:d.any (iX w)=false:=by
    simp_all
  rw [jB,h1,h2,this];rfl
theorem FB {l:List TUnit} {i j:Nat} (h:i<j) (hj:j≤l.length):gD l i∈l.take j:=by
  rw [ux (show i<l.length by omega)]
  exact List.mem_iff_getElem.2 ⟨i,by simp_all,List.getElem_take ..⟩
theorem RA {l:List TUnit} {j:Nat} {x:TUnit} (h:x∈l.take j) : ∃ i,i<j∧x=gD l i:=by
  obtain ⟨i,hi,e⟩:=JK h
  rw [rh] at hi
  refine ⟨i,by omega,?_⟩
  grind [ux]
theorem LV {l:List TUnit} {j:Nat} {w:TUnit} {r:List TUnit} (h:l.drop j=w::r):l.take j++ [w]=l.take (j+1):=by
  grind [List.drop_eq_getElem_cons]
theorem Lb {k d:TUnit} (h:az d.kind k.kind=false):iX k d=false:=by unfold iX;simp_all
theorem La {k d:TUnit} (h:dS d.label k.label=false):iX k d=false:=by simp_all [iX]
theorem OQ {k d:TUnit} (h:az d.kind k.kind=true) (h2:dS d.label k.label=true):iX k d=true:=by unfold iX;simp_all
theorem OV {l r:List TUnit} {w:TUnit} {j:Nat} (h:l.drop j=w::r):j<l.length∧l.length - (w::r).length=j∧l.length - r.length=j+1:=by
  grind
theorem OK {A:Bool} {pk:Int} {l r:List TUnit} {w:TUnit} {j:Nat} (h:l.drop j=w::r) (h0:A=c9 pk (l.take (l.length - (w::r).length)) (w::r)) (h1:jG pk w.kind=true) (h2:kH w=true) (h3 : ∀ i,i<j→iX w (gD l i)=false):A=c9 pk (l.take (l.length - r.length)) r:=by
  obtain ⟨q1,q2,q3⟩:=OV h
  rw [h0,q2,q3,Wo h1 h2,LV h]
  intro x hx
  obtain ⟨i,hi,rfl⟩:=RA hx
  simp_all
theorem RS {A:Bool} {pk:Int} {l r:List TUnit} {w:TUnit} {j i:Nat} (h:l.drop j=w::r) (h0:A=c9 pk (l.take (l.length - (w::r).length)) (w::r)) (hi:i<j) (h1:iX w (gD l i)=true):A=false:=by
  obtain ⟨q1,q2,q3⟩:=OV h
  rw [h0,q2];exact Wp (FB hi (by omega)) h1
theorem TI {D a k:Nat} (h:a+cV []=D∧a≤k):D=a:=by grind [kq]
def Oq (u:TUnit) (x0:Nat × List TUnit × Unit):Prop:=(u.kids).drop x0.1=x0.2.1∧c9 u.kind [] u.kids=c9 u.kind (u.kids.take (u.kids.length - x0.2.1.length)) x0.2.1
noncomputable def Et (u:TUnit) (x0:Nat × List TUnit × Unit):List AV × List AObj:=([AV.pptr [AV.agg [iV u.act,iV u.item,iV u.n,iV u.kind,AV.str u.label,AV.ls (u.head.map aQ),AV.ls (u.words.map aQ),AV.ls (u.kids.map aX)]] 0 0,nV x0.1], [])
def Hp (u:TUnit) (x0:Nat × List TUnit × Unit) (w0:TUnit) (x1:Nat):Prop:=x1≤x0.1∧∀ (j:Nat),j<x1→iX w0 (gD u.kids j)=false
noncomputable def xC (u:TUnit) (x0:Nat × List TUnit × Unit) (w0:TUnit) (x1:Nat):List AV × List AObj:=([AV.pptr [AV.agg [iV u.act,iV u.item,iV u.n,iV u.kind,AV.str u.label,AV.ls (u.head.map aQ),AV.ls (u.words.map aQ),AV.ls (u.kids.map aX)]] 0 0,nV x0.1,nV x1], [])
theorem Ld : ∀ (u:TUnit),nU u≤2 ^ 20→(∀ x,x∈bB u→li x)→kP 104 [eU u] (.bool (kH u)):=by
  refine TUnit.ind fun u ih hn hw=>?_
  have hkl:=bq u
  have ha:=NW u (hw u (dJ u)) (by omega)
  have ihk : ∀ k,k∈u.kids→kP 104 [eU k] (.bool (kH k)):=fun k hk=>ih k hk (bL (mU (fW hk)) hn) fun x hx=>hw x (bC hk hx)
  rw [Bj]
  have rr0 : ∀ b',(h:(mQ u && c9 u.kind [] u.kids)=b':=by first | (simp only [aS,aV,bS, *];done) | (rw [RS (i:=x1) (hx0.1.trans hr0) hj0 (by (first | omega | (simp only [oN] at *;omega))) (OQ (by assumption) (by assumption))];simp only [aS,aV,bS, *];done) | (rw [hj0,Ws (by assumption)];simp only [aS,aV,bS, *];done) | (rw [hj0,Wr (by assumption)];simp only [aS,aV,bS, *];done) | (rw [hj0,Es];simp only [aS,aV,bS, *];done))→(mQ u && c9 u.kind [] u.kids)=b':=(fun _ h=>h);exact b7 Tryz.func104 (Mg 2 (Mp (ha) (Mg 0 (Mb (aV (mQ u)) (fun z=>have h0:(mQ u)=false:=(aI z);(Mg 0 (Mf (aq (rr0 (false)))))) (fun z=>have h0:(mQ u)=true:=(aL z);(Mg 0 (M1 (.frz 0 [1,3]) ti (ML (Nat × List TUnit × Unit) [1,3] (Et u) (Oq u) (fun x=>x.2.1.length) (0,u.kids,()) (ax ((Et u) (0,u.kids,()))) (et (rfl:List.drop 0 (u.kids)=u.kids) (by simp_all:(c9 u.kind [] u.kids=c9 u.kind (u.kids.take (u.kids.length - u.kids.length)) u.kids))) (fun x0 hx0 nx0=>Mc x0.2.1 (fun hr0=>have lt0:=ai hx0.1 hr0;(have hj0:=aF (J:=fun r x=>c9 u.kind [] u.kids=c9 u.kind (u.kids.take (u.kids.length - r.length)) r) (a:=x0.2.2) hr0 hx0.2;(Mg 3 (Ml 11 (Le.len (f:=aX) (l:=u.kids)) (Mg 0 (Mh lt0 (Mg 0 (Mf (aq (rr0 (true))))))))))) (fun w0 r0 hr0=>have lt0:=aD hx0.1 hr0;(have glt0:=aJ lt0;(have nt0:=(ah (enc:=aX) hx0.1 hr0).trans (congrArg some (aC w0));(have hj0:=aE (J:=fun r x=>c9 u.kind [] u.kids=c9 u.kind (u.kids.take (u.kids.length - r.length)) r) (a:=x0.2.2) hr0 hx0.2;(Mg 3 (Ml 11 (Le.len (f:=aX) (l:=u.kids)) (Mg 0 (Mt lt0 (Mg 4 (Mx nt0 (Mg 1 (Mp (LM (u.kind) (w0.kind)) (Mg 1 (Mb (aV (jG u.kind w0.kind)) (fun z=>have h1:(jG u.kind w0.kind)=false:=(aI z);(Mt (ce h1) (Mt (ce h1) (Mt (ce h1) (Mt (ce h1) (Mt (ce h1) (Mt (ce h1) (M1 (.pk true) (ce h1) (Mg 1 (Mf (aq (rr0 (false))))))))))))) (fun z=>have h1:(jG u.kind w0.kind)=true:=(aL z);(Mg 0 (Mh (cJ h1) (Mg 0 (Mh (cJ h1) (Mg 0 (Mh (cJ h1) (Mx nt0 (Mh (cJ h1) (Mg 0 (Mh (cJ h1) (Mp (ihk w0 (by exact bJ hx0.1 hr0)) (Mh (cJ h1) (Mg 0 (M1 (.pk false) (cJ h1) (Mn (kH w0) (fun h2=>Mg 0 (Mf (aq (rr0 (false))))) (fun h2=>Mg 0 (ML (Nat) [1,3,4] (xC u x0 w0) (Hp u x0 w0) (fun k=>x0.1 - k) (0) (ax ((xC u x0 w0) (0))) (by simp_all:(0:Nat)≤x0.1∧∀ (j:Nat),j<(0:Nat)→iX w0 (gD u.kids j)=false) (fun x1 hx1 nx1=>have hx1:x1≤x0.1∧∀ (j:Nat),j<x1→iX w0 (gD u.kids j)=false:=hx1;(Mg 2 (Mb (ao (Int.ofNat x1) (Int.ofNat x0.1)) (fun h4=>have gh4:=aJ h4;(Mg 2 (Mx ((cj aX (by grind:x1<(u.kids).length)).trans (congrArg some (aC _))) (Mg 4 (Mx nt0 (Mg 3 (Mb (az (gD u.kids x1).kind w0.kind) (fun h5=>have gh5:=eJ h5;(Mg 0 (Mt h5 (Mg 0 (Mt h5 (Mg 0 (Mt h5 (Mx ((cj aX (by grind:x1<(u.kids).length)).trans (congrArg some (aC _))) (Mt h5 (Mg 0 (Mt h5 (Mg 0 (Mt h5 (Mg 0 (Mt h5 (Mg 0 (Mt h5 (Mg 0 (Mt h5 (Mx nt0 (Mt h5 (Mg 0 (Mt h5 (Mg 0 (Mt h5 (Mg 0 (M1 (.pk true) h5 (Mb (dS (gD u.kids x1).label w0.label) (fun h6=>Mg 0 (Mf (aq (rr0 (false))))) (fun h6=>Mg 1 (Ml 38 (bb (x:=Int.ofNat x1+(1:Int)) (n:=x1+(1:Nat)) cq) (Mg 0 (Mf (nx1 (x1+1) (by exact ⟨by grind,wa hx1.2 (La (by omega))⟩:x1+(1:Nat)≤x0.1∧∀ (j:Nat),j<x1+(1:Nat)→iX w0 (gD u.kids j)=false) (by grind:x0.1 - (x1+(1:Nat))<x0.1 - x1)))))))))))))))))))))))))))))))))) (fun h5=>have gh5:=iS h5;(Mh h5 (Mh h5 (Mh h5 (Mh h5 (Mh h5 (Mh h5 (Mh h5 (Mh h5 (Mh h5 (Mh h5 (Mh h5 (Mh h5 (M1 (.pk false) h5 (Mg 2 (Ml 38 (bb (x:=Int.ofNat x1+(1:Int)) (n:=x1+(1:Nat)) cq) (Mg 0 (Mf (nx1 (x1+1) (by exact ⟨by grind,wa hx1.2 (Lb (by omega))⟩:x1+(1:Nat)≤x0.1∧∀ (j:Nat),j<x1+(1:Nat)→iX w0 (gD u.kids j)=false) (by grind:x0.1 - (x1+(1:Nat))<x0.1 - x1))))))))))))))))))))))))))) (fun h4=>have gh4:=av h4;(Mg 1 (Ml 14 (bb (x:=Int.ofNat x0.1+(1:Int)) (n:=x0.1+(1:Nat)) cq) (Mg 0 (Mf (nx0 (x0.1+1,r0,()) (et (ay hx0.1 hr0) (by exact OK (hx0.1.trans hr0) hj0 (by omega) (by omega) (fun i hi=>hx1.2 i (by grind)):(c9 u.kind [] u.kids=c9 u.kind (u.kids.take (u.kids.length - r0.length)) r0))) (aO hr0)))))))))))))))))))))))))))))))))))))))))))))))))))
def DU (u:TUnit) (x0:Nat × List TUnit × Nat):Prop:=(u.kids).drop x0.1=x0.2.1∧x0.2.2+cV x0.2.1=(1:Nat)+cV u.kids∧x0.2.2≤2 ^ 20
noncomputable def sN (u:TUnit) (x0:Nat × List TUnit × Nat):List AV × List AObj:=([AV.ptr 0 0 0 0,nV x0.2.2,nV x0.1], [AObj.row 8 false 0 [AV.agg [iV u.act,iV u.item,iV u.n,iV u.kind,AV.str u.label,AV.ls (u.head.map aQ),AV.ls (u.words.map aQ),AV.ls (u.kids.map aX)]]])
theorem MF : ∀ (u:TUnit),nU u≤2 ^ 20→kP 106 [eU u] (nV (nU u)):=by
  refine TUnit.ind fun u ih hn=>?_
  have hkl:=bq u
  have ihk : ∀ k,k∈u.kids→kP 106 [eU k] (nV (nU k)):=fun k hk=>ih k hk (bL (mU (fW hk)) hn)
  have rr0 : ∀ b',(h:(Int.ofNat (nU u))=b':=by (rw [iz,TI hj0]))→(Int.ofNat (nU u))=b':=(fun _ h=>h);exact b7 Tryz.func106 (Mg 3 (ML (Nat × List TUnit × Nat) [1,3,4] (sN u) (DU u) (fun x=>x.2.1.length) (0,u.kids,1) (ax ((sN u) (0,u.kids,1))) (et (rfl:List.drop 0 (u.kids)=u.kids) (by omega:((1:Nat)+cV u.kids=(1:Nat)+cV u.kids∧(1:Nat)≤2 ^ 20))) (fun x0 hx0 nx0=>Mc x0.2.1 (fun hr0=>have lt0:=ai hx0.1 hr0;(have hj0:=aF (J:=fun r a=>a+cV r=(1:Nat)+cV u.kids∧a≤2 ^ 20) (a:=x0.2.2) hr0 hx0.2;(Mg 3 (Ml 8 (Le.len (f:=aX) (l:=u.kids)) (Mg 0 (Mh lt0 (Mg 1 (Mf (aj (k:= .i64) (rr0 (Int.ofNat x0.2.2))))))))))) (fun w0 r0 hr0=>have lt0:=aD hx0.1 hr0;(have glt0:=aJ lt0;(have nt0:=(ah (enc:=aX) hx0.1 hr0).trans (congrArg some (aC w0));(have hj0:=aE (J:=fun r a=>a+cV r=(1:Nat)+cV u.kids∧a≤2 ^ 20) (a:=x0.2.2) hr0 hx0.2;(have q0:cV (w0::r0)=nU w0+cV r0:=bm w0 r0;(have q1:nU u=(1:Nat)+cV u.kids:=iz u;(Mg 3 (Ml 8 (Le.len (f:=aX) (l:=u.kids)) (Mg 0 (Mt lt0 (Mg 3 (Mx nt0 (Mg 0 (Mp (ihk w0 (by exact bJ hx0.1 hr0)) (Mg 0 (Ml 19 (bb (x:=Int.ofNat x0.2.2+Int.ofNat (nU w0)) (n:=x0.2.2+nU w0) cq) (Mg 2 (Ml 11 (bb (x:=Int.ofNat x0.1+(1:Int)) (n:=x0.1+(1:Nat)) cq) (Mg 0 (Mf (nx0 (x0.1+1,r0,x0.2.2+nU w0) (et (ay hx0.1 hr0) (by omega:(x0.2.2+nU w0+cV r0=(1:Nat)+cV u.kids∧x0.2.2+nU w0≤2 ^ 20))) (aO hr0)))))))))))))))))))))))))
def DJ (u:TUnit) (x0:Nat × List TUnit × Nat):Prop:=(u.kids).drop x0.1=x0.2.1∧eh u.kids=x0.2.2.max (eh x0.2.1)∧x0.2.2≤2 ^ 20
noncomputable def sH (u:TUnit) (x0:Nat × List TUnit × Nat):List AV × List AObj:=([AV.ptr 0 0 0 0,nV x0.2.2,nV x0.1], [AObj.row 8 false 0 [AV.agg [iV u.act,iV u.item,iV u.n,iV u.kind,AV.str u.label,AV.ls (u.head.map aQ),AV.ls (u.words.map aQ),AV.ls (u.kids.map aX)]]])
theorem MD : ∀ (u:TUnit),nU u≤2 ^ 20→kP 105 [eU u] (nV (fD u)):=by
  refine TUnit.ind fun u ih hn=>?_
  have hkl:=bq u
  have ihk : ∀ k,k∈u.kids→kP 105 [eU k] (nV (fD k)):=fun k hk=>ih k hk (bL (mU (fW hk)) hn)
  have rr0 : ∀ b',(h:(Int.ofNat (fD u))=b':=by (rw [DK,Kr hj0]))→(Int.ofNat (fD u))=b':=(fun _ h=>h);exact b7 Tryz.func105 (Mg 3 (ML (Nat × List TUnit × Nat) [1,3,4] (sH u) (DJ u) (fun x=>x.2.1.length) (0,u.kids,0) (ax ((sH u) (0,u.kids,0))) (et (rfl:List.drop 0 (u.kids)=u.kids) (by simp_all:(eh u.kids=Nat.max (0:Nat) (eh u.kids)∧(0:Nat)≤2 ^ 20))) (fun x0 hx0 nx0=>Mc x0.2.1 (fun hr0=>have lt0:=ai hx0.1 hr0;(have hj0:=aF (J:=fun r a=>eh u.kids=a.max (eh r)∧a≤2 ^ 20) (a:=x0.2.2) hr0 hx0.2;(Mg 3 (Ml 8 (Le.len (f:=aX) (l:=u.kids)) (Mg 0 (Mh lt0 (Mg 1 (Mf (aj (k:= .i64) (rr0 (Int.ofNat x0.2.2))))))))))) (fun w0 r0 hr0=>have lt0:=aD hx0.1 hr0;(have glt0:=aJ lt0;(have nt0:=(ah (enc:=aX) hx0.1 hr0).trans (congrArg some (aC w0));(have hj0:=aE (J:=fun r a=>eh u.kids=a.max (eh r)∧a≤2 ^ 20) (a:=x0.2.2) hr0 hx0.2;(have q0:nU w0<nU u:=fW (bJ hx0.1 hr0);(have q1:fD w0<nU w0:=wF w0;(Mg 3 (Ml 8 (Le.len (f:=aX) (l:=u.kids)) (Mg 0 (Mt lt0 (Mg 3 (Mx nt0 (Mg 0 (Mp (ihk w0 (by exact bJ hx0.1 hr0)) (Mg 0 (Ml 19 (bb (x:=(1:Int)+Int.ofNat (fD w0)) (n:=(1:Nat)+fD w0) cq) (Mg 0 (Ml 20 (I8 (k:=IntKind.i64) (O7 (x0.2.2) (1+fD w0))) (Mg 2 (Ml 11 (bb (x:=Int.ofNat x0.1+(1:Int)) (n:=x0.1+(1:Nat)) cq) (Mg 0 (Mf (nx0 (x0.1+1,r0,x0.2.2.max (1+fD w0)) (et (ay hx0.1 hr0) (by exact Gh hj0 q0 q1 hn:(eh u.kids=(x0.2.2.max ((1:Nat)+fD w0)).max (eh r0)∧x0.2.2.max ((1:Nat)+fD w0)≤2 ^ 20))) (aO hr0)))))))))))))))))))))))))))
theorem jv (u:TUnit):(cC u).length=nU u:=by grind [cC, xM]
def I4 (u:TUnit) (x0:Nat × List TUnit × Unit):Prop:=(u.kids).drop x0.1=x0.2.1∧al u::bz u.kids=al u::bz x0.2.1
noncomputable def zM (u:TUnit) (x0:Nat × List TUnit × Unit):List AV × List AObj:=([AV.ptr 0 0 0 0,AV.ps [AV.agg [iV (al u).a,iV (al u).i,iV (al u).n]] true,nV x0.1], [AObj.row 8 false 0 [AV.agg [iV u.act,iV u.item,iV u.n,iV u.kind,AV.str u.label,AV.ls (u.head.map aQ),AV.ls (u.words.map aQ),AV.ls (u.kids.map aX)]]])
def I3 (u:TUnit) (x0:Nat × List TUnit × Nat × Nat × List PId):Prop:=(u.kids).drop x0.1=x0.2.1∧x0.2.2.2.1=x0.2.2.2.2.length∧al u::bz u.kids=x0.2.2.2.2++bz x0.2.1
noncomputable def I2 (u:TUnit) (x0:Nat × List TUnit × Nat × Nat × List PId):List AV × List AObj:=([AV.ptr 0 0 0 0,AV.slice 1 x0.2.2.1 0 x0.2.2.2.1 none,nV x0.1], [AObj.row 8 false 0 [AV.agg [iV u.act,iV u.item,iV u.n,iV u.kind,AV.str u.label,AV.ls (u.head.map aQ),AV.ls (u.words.map aQ),AV.ls (u.kids.map aX)]],AObj.row 3 true x0.2.2.1 (x0.2.2.2.2.map aZ)])
theorem T5 : ∀ (u:TUnit),nU u≤2 ^ 20→kP 215 [eU u] (.ls ((al u::bz u.kids).map aZ)):=by
  refine TUnit.ind fun u ih hn=>?_
  have hkl:=bq u
  have ihk : ∀ k,k∈u.kids→kP 215 [eU k] (.ls ((al k::bz k.kids).map aZ)):=fun k hk=>ih k hk (bL (mU (fW hk)) hn)
  have hlen:(al u::bz u.kids).length≤2 ^ 20:=by rw [← gC,jv];omega
  have rr0 : ∀ b',(h:((al u::bz u.kids).map aZ)=b':=by first | rfl | exact aK zK _ | (rw [hj0,j9];rfl) | (rw [hj0.2,j9,eE];first | done | rfl))→((al u::bz u.kids).map aZ)=b':=(fun _ h=>h);let q:= [ab [iV (al u).a,iV (al u).i,iV (al u).n]];exact b7 Tryz.func215 (Mg 6 (MM (Nat × List TUnit × Unit) (Nat × List TUnit × Nat × Nat × List PId) [1,3,4] (zM u) (I2 u) (I4 u) (I3 u) (fun x=>x.2.1.length) (fun x=>x.2.1.length) (.inl (0,u.kids,())) (ax ((zM u) (0,u.kids,()))) (et (rfl:List.drop 0 (u.kids)=u.kids) (by rfl:(al u::bz u.kids=al u::bz u.kids))) (fun x0 hx0 nx0=>Mc x0.2.1 (fun hr0=>have lt0:=ai hx0.1 hr0;(have hj0:=aF (J:=fun r x=>al u::bz u.kids=al u::bz r) (a:=x0.2.2) hr0 hx0.2;(Mg 3 (Ml 11 (Le.len (f:=aX) (l:=u.kids)) (Mg 0 (Mh lt0 (Mg 1 (Mf ((Le.lsp (rr0 (q)) (by rfl)):Le _ (eL q true)))))))))) (fun w0 r0 hr0=>have lt0:=aD hx0.1 hr0;(have glt0:=aJ lt0;(have nt0:=(ah (enc:=aX) hx0.1 hr0).trans (congrArg some (aC w0));(have hj0:=aE (J:=fun r x=>al u::bz u.kids=al u::bz r) (a:=x0.2.2) hr0 hx0.2;(have q0:(bz (w0::r0)).length=(al w0::bz w0.kids).length+(bz r0).length:=(by rw [dO,gC,lA]);(Mg 3 (Ml 11 (Le.len (f:=aX) (l:=u.kids)) (Mg 0 (Mt lt0 (Mg 3 (Mx nt0 (Mg 0 (Mp (ihk w0 (by exact bJ hx0.1 hr0)) (M2 .apl (et (by simp_all:List.map aZ (al w0::bz w0.kids)≠ []) (fa (sz:=3) (f:=aZ) (fun _=>by rfl) (al w0::bz w0.kids))) (et (by (have z:=congrArg List.length hj0;simp only [lM,lC,lN] at *;refine aA (m:=2 ^ 21) ?_ ?_ ?_ <;> omega):small (([ab [iV (al u).a,iV (al u).i,iV (al u).n]]).length+((al w0::bz w0.kids).map aZ).length) 24=true) rt) (M1 (.obj 1 (aw 3 true 0 (([al u]++al w0::bz w0.kids).map aZ))) (congrArg (aw 3 true 0) (by rfl:q++List.map aZ (al w0::bz w0.kids)=List.map aZ ([al u]++al w0::bz w0.kids))) (Mg 2 (Ml 14 (Le.wr (x:=Int.ofNat x0.1+1) cq) (Mg 0 (Mf (nx0 (.inr (x0.1+1,r0,(0,(q++List.map aZ (al w0::bz w0.kids)).length, [al u]++al w0::bz w0.kids))) (et (ay hx0.1 hr0) (by exact ⟨by simp,by rw [hj0,dO,gC];rfl⟩:(([ab [iV (al u).a,iV (al u).i,iV (al u).n]]++List.map aZ (al w0::bz w0.kids)).length=([al u]++al w0::bz w0.kids).length∧al u::bz u.kids = [al u]++al w0::bz w0.kids++bz r0))) (aO hr0)))))))))))))))))))))) (fun x0 hx0 nx0=>let q1:=List.map aZ x0.2.2.2.2;Mc x0.2.1 (fun hr0=>have lt0:=ai hx0.1 hr0;(have hj0:=aF (J:=fun r x=>x.2.1=x.2.2.length∧al u::bz u.kids=x.2.2++bz r) (a:=x0.2.2) hr0 hx0.2;(Mg 3 (Ml 11 (Le.len (f:=aX) (l:=u.kids)) (Mg 0 (Mh lt0 (Mg 1 (M2 (.fsl 0 [] 2 q1) ti (eR (ax (x0.2.2.1)) (c8 (f:=aZ) (l:=x0.2.2.2.2) (n:=x0.2.2.2.1) (by omega:(x0.2.2.2.2).length=x0.2.2.2.1)) (aK zK (x0.2.2.2.2))) (Ml 2 (ib q1 (false) (aK zK (x0.2.2.2.2))) (Mf (dY (rr0 q1)))))))))))) (fun w0 r0 hr0=>have lt0:=aD hx0.1 hr0;(have glt0:=aJ lt0;(have nt0:=(ah (enc:=aX) hx0.1 hr0).trans (congrArg some (aC w0));(have hj0:=aE (J:=fun r x=>x.2.1=x.2.2.length∧al u::bz u.kids=x.2.2++bz r) (a:=x0.2.2) hr0 hx0.2;(have q0:(bz (w0::r0)).length=(al w0::bz w0.kids).length+(bz r0).length:=(by rw [dO,gC,lA]);(Mg 3 (Ml 11 (Le.len (f:=aX) (l:=u.kids)) (Mg 0 (Mt lt0 (Mg 3 (Mx nt0 (Mg 0 (Mp (ihk w0 (by exact bJ hx0.1 hr0)) (M2 .apl (et (by simp_all:List.map aZ (al w0::bz w0.kids)≠ []) (fa (sz:=3) (f:=aZ) (fun _=>by rfl) (al w0::bz w0.kids))) (eR (ax (x0.2.2.1)) (by simp_all:x0.2.2.2.1=(x0.2.2.2.2.map aZ).length) (by (have z:=congrArg List.length hj0.2;have z2:=hj0.1;simp only [lA,lM,lC,lN] at *;refine aA (m:=2 ^ 21) ?_ ?_ ?_ <;> omega):small (x0.2.2.2.1+((al w0::bz w0.kids).map aZ).length) 24=true)) (M1 (.obj 1 (aw 3 true (x0.2.2.1+1) ((x0.2.2.2.2++al w0::bz w0.kids).map aZ))) (congrArg (aw 3 true (x0.2.2.1+1)) (iI (f:=aZ) (l:=x0.2.2.2.2) (ws:=al w0::bz w0.kids))) (Mg 2 (Ml 14 (Le.wr (x:=Int.ofNat x0.1+1) cq) (Mg 0 (Mf (nx0 (.inr (x0.1+1,r0,(x0.2.2.1+1,x0.2.2.2.1+((al w0::bz w0.kids).map aZ).length,x0.2.2.2.2++al w0::bz w0.kids))) (et (ay hx0.1 hr0) (by grind [dO, gC]:(x0.2.2.2.1+((al w0::bz w0.kids).map aZ).length=(x0.2.2.2.2++al w0::bz w0.kids).length∧al u::bz u.kids=x0.2.2.2.2++al w0::bz w0.kids++bz r0))) (aO hr0))))))))))))))))))))))))
def DE (l:List PId) (i:Nat):Bool:=mb (l.take i) (l.drop i)
theorem UG {α:Type} [Inhabited α] {l:List α} {n:Nat} (h:n<l.length):l.take (n+1)=l.take n++ [gD l n]:=by
  rw [Jq h,ux h]
theorem WH (l:List PId):mb [] l=DE l 0:=rfl
theorem Sb {l:List PId} : DE l l.length=true:=by unfold DE;rw [List.drop_length];rfl
theorem U8 {l:List PId} {i k:Nat} (hi:i<l.length) (hk:k<i) (h:aM (gD l k) (gD l i)=true):DE l i=false:=by
  unfold DE
  rw [pM hi,mb]
  have:((l.take i).any fun q=>aM q (gD l i))=true:=List.any_eq_true.2 ⟨gD l k,by
    rw [ux (show k<l.length by omega)]
    exact List.mem_iff_getElem.2 ⟨k,by grind,List.getElem_take ..⟩,h⟩
  grind
theorem O3 {l:List PId} {i:Nat} (hi:i<l.length) (h : ∀ k,k<i→aM (gD l k) (gD l i)=false):DE l i=DE l (i+1):=by
  have:((l.take i).any fun q=>aM q (gD l i))=false:=by
    cases q:(l.take i).any fun q=>aM q (gD l i) with
    | false=>rfl
    | true=>
      grind [List.getElem_of_mem, ux]
  unfold DE
  rw [pM hi,mb,this,UG hi];rfl
def Vh (u:TUnit) (L:List PId) (x0:Nat × List PId × Bool):Prop:=(L).drop x0.1=x0.2.1∧L.all yl=(x0.2.2 && x0.2.1.all yl)
noncomputable def PG (u:TUnit) (L:List PId) (x0:Nat × List PId × Bool):List AV × List AObj:=([AV.pptr [AV.agg [iV u.act,iV u.item,iV u.n,iV u.kind,AV.str u.label,AV.ls (u.head.map aQ),AV.ls (u.words.map aQ),AV.ls (u.kids.map aX)]] 0 0,AV.ls (L.map aZ),AV.bool x0.2.2,nV x0.1], [])
def PF (L:List PId) (x1:Nat):Prop:=x1≤L.length∧DE L (0:Nat)=DE L x1
noncomputable def Fc (L:List PId) (x1:Nat):List AV × List AObj:=([AV.ls (L.map aZ),nV x1], [])
def PE (L:List PId) (x1:Nat) (x2:Nat):Prop:=x2≤x1∧∀ (j:Nat),j<x2→aM (gD L j) (gD L x1)=false
noncomputable def Fb (L:List PId) (x1:Nat) (x2:Nat):List AV × List AObj:=([AV.ls (L.map aZ),nV x1,nV x2], [])
theorem TQ (u:TUnit) (hn:nU u≤2 ^ 20):kP 107 [eU u] (.bool (PD u)):=by
  have ha:=T5 u hn
  have hl:=jv u
  unfold PD
  rw [gC] at hl ⊢
  obtain ⟨L,hL⟩ : ∃ L,L=al u::bz u.kids:=⟨_,rfl⟩
  have hz:gD L 0=al u:=by rw [hL];rfl
  rw [← hL] at ha hl ⊢
  rw [← hz]
  have hpos:0<L.length:=by grind
  rw [WH]
  clear hL hz
  have rr0 : ∀ b',(h:(L.all yl || yl (gD L 0) == az u.kind 0 && DE L 0)=b':=by first | (rw [hj0];simp only [yl,aS,aV,bS, *];done) | (rw [hx1.2,U8 (k:=x2) (by (first | omega | (simp only [oN] at *;omega))) (by (first | omega | (simp only [oN] at *;omega))) (by assumption),hj0];simp only [yl,aS,aV,bS, *];done) | (rw [hj0,hx1.2,show x1=L.length by (first | omega | (simp only [oN] at *;omega)),Sb];simp only [yl,aS,aV,bS, *];done))→(L.all yl || yl (gD L 0) == az u.kind 0 && DE L 0)=b':=(fun _ h=>h);let q:= [iV 0,iV 0,iV 0];exact b7 Tryz.func107 (Mg 2 (Mp (ha) (Mg 2 (M1 (.frz 0 [1,3,4,5]) ti (ML (Nat × List PId × Bool) [1,3,4,5] (PG u L) (Vh u L) (fun x=>x.2.1.length) (0,L,true) (ax ((PG u L) (0,L,true))) (et (rfl:List.drop 0 (L)=L) (by rfl:(L.all yl=(true && L.all yl)))) (fun x0 hx0 nx0=>Mc x0.2.1 (fun hr0=>have lt0:=ai hx0.1 hr0;(have hj0:=aF (J:=fun r b=>L.all yl=(b && r.all yl)) (a:=x0.2.2) hr0 hx0.2;(Mg 2 (Ml 12 (Le.len (f:=aZ) (l:=L)) (Mg 0 (Mh lt0 (Mg 0 (Mb x0.2.2 (fun h0=>Mg 0 (Mf (aq (rr0 (true))))) (fun h0=>Mg 0 (Mx (cj aZ (by omega:0<(L).length)) (Mg 1 (Mv (cA (d:=(Tryz.prog).underlying 23) (n:=3) (l:=(0,1)::(1,1)::(2,1):: []) (xs:= [iV (gD L 0).a,iV (gD L 0).i,iV (gD L 0).n]) (ys:=q) (H:=AHeap.mk 1000000 Tr.nil) rfl (bj (e:=az (gD L 0).a 0) rfl rfl rfl (bj (e:=az (gD L 0).i 0) rfl rfl rfl (da (e:=az (gD L 0).n 0) rfl rfl rfl rfl)))) (Mg 3 (Mn ((az (gD L 0).a 0 && (az (gD L 0).i 0 && az (gD L 0).n 0)) == az u.kind 0) (fun h1=>Mg 0 (Mf (aq (rr0 (false))))) (fun h1=>Mg 0 (ML (Nat) [3,6] (Fc L) (PF L) (fun i=>L.length - i) (0) (ax ((Fc L) (0))) (by simp_all:(0:Nat)≤L.length∧DE L (0:Nat)=DE L (0:Nat)) (fun x1 hx1 nx1=>have hx1:x1≤L.length∧DE L (0:Nat)=DE L x1:=hx1;(Mg 2 (Ml 37 (Le.len (f:=aZ) (l:=L)) (Mg 0 (Mb (ao (Int.ofNat x1) (Int.ofNat L.length)) (fun h3=>have gh3:=aJ h3;(Mg 0 (ML (Nat) [3,6,7] (Fb L x1) (PE L x1) (fun k=>x1 - k) (0) (ax ((Fb L x1) (0))) (by simp_all:(0:Nat)≤x1∧∀ (j:Nat),j<(0:Nat)→aM (gD L j) (gD L x1)=false) (fun x2 hx2 nx2=>have hx2:x2≤x1∧∀ (j:Nat),j<x2→aM (gD L j) (gD L x1)=false:=hx2;(Mg 2 (Mb (ao (Int.ofNat x2) (Int.ofNat x1)) (fun h5=>have gh5:=aJ h5;(Mg 1 (Mx (cj aZ (by grind:x2<(L).length)) (Mg 2 (Mx (cj aZ (by simp_all:x1<(L).length)) (Mg 0 (Mv (cA (d:=(Tryz.prog).underlying 23) (n:=3) (l:=(0,1)::(1,1)::(2,1):: []) (xs:= [iV (gD L x2).a,iV (gD L x2).i,iV (gD L x2).n]) (ys:= [iV (gD L x1).a,iV (gD L x1).i,iV (gD L x1).n]) (H:=AHeap.mk 1000000 Tr.nil) rfl (bj (e:=az (gD L x2).a (gD L x1).a) rfl rfl rfl (bj (e:=az (gD L x2).i (gD L x1).i) rfl rfl rfl (da (e:=az (gD L x2).n (gD L x1).n) rfl rfl rfl rfl)))) (Mb (az (gD L x2).a (gD L x1).a && (az (gD L x2).i (gD L x1).i && az (gD L x2).n (gD L x1).n)) (fun h6=>Mg 0 (Mf (aq (rr0 (false))))) (fun h6=>Mg 1 (Ml 45 (bb (x:=Int.ofNat x2+(1:Int)) (n:=x2+(1:Nat)) cq) (Mg 0 (Mf (nx2 (x2+1) (by exact ⟨by grind,wa hx2.2 (by assumption)⟩:x2+(1:Nat)≤x1∧∀ (j:Nat),j<x2+(1:Nat)→aM (gD L j) (gD L x1)=false) (by grind:x1 - (x2+(1:Nat))<x1 - x2)))))))))))))) (fun h5=>have gh5:=av h5;(Mg 1 (Ml 40 (bb (x:=Int.ofNat x1+(1:Int)) (n:=x1+(1:Nat)) cq) (Mg 0 (Mf (nx1 (x1+1) (by grind [O3]:x1+(1:Nat)≤L.length∧DE L (0:Nat)=DE L (x1+(1:Nat))) (by grind:L.length - (x1+(1:Nat))<L.length - x1))))))))))))) (fun h3=>have gh3:=av h3;(Mg 0 (Mf (aq (rr0 (true))))))))))))))))))))))))))) (fun w0 r0 hr0=>have lt0:=aD hx0.1 hr0;(have glt0:=aJ lt0;(have nt0:=ah (enc:=aZ) hx0.1 hr0;(have hj0:=aE (J:=fun r b=>L.all yl=(b && r.all yl)) (a:=x0.2.2) hr0 hx0.2;(Mg 2 (Ml 12 (Le.len (f:=aZ) (l:=L)) (Mg 0 (Mt lt0 (Mg 1 (Mb x0.2.2 (fun h7=>Mg 0 (Mt h7 (Mg 0 (Mt h7 (Mx nt0 (Mt h7 (Mg 0 (Mt h7 (Mg 0 (Mt h7 (Mv (cA (d:=(Tryz.prog).underlying 23) (n:=3) (l:=(0,1)::(1,1)::(2,1):: []) (xs:= [iV w0.a,iV w0.i,iV w0.n]) (ys:=q) (H:=ae []) rfl (bj (e:=az w0.a 0) rfl rfl rfl (bj (e:=az w0.i 0) rfl rfl rfl (da (e:=az w0.n 0) rfl rfl rfl rfl)))) (M1 (.pk true) h7 (Mg 2 (Ml 15 (bb (x:=Int.ofNat x0.1+(1:Int)) (n:=x0.1+(1:Nat)) cq) (Mg 0 (Mf (nx0 (x0.1+1,r0,az w0.a 0 && (az w0.i 0 && az w0.n 0)) (et (ay hx0.1 hr0) (by (rw [hj0,jo];simp only [yl,aS,aV,bS, *];done):(L.all yl=(az w0.a (0:Int) && (az w0.i (0:Int) && az w0.n (0:Int)) && r0.all yl)))) (aO hr0)))))))))))))))))) (fun h7=>Mh h7 (Mh h7 (Mh h7 (Mh h7 (Mh h7 (M1 (.pk false) h7 (Mg 2 (Ml 15 (bb (x:=Int.ofNat x0.1+(1:Int)) (n:=x0.1+(1:Nat)) cq) (Mg 0 (Mf (nx0 (x0.1+1,r0,false) (et (ay hx0.1 hr0) (by (rw [hj0,jo];simp only [yl,aS,aV,bS, *];done):(L.all yl=(false && r0.all yl)))) (aO hr0))))))))))))))))))))))))))))
theorem Sp (u:TUnit) (hn:nU u≤2 ^ 19) (hw : ∀ x,x∈bB u→li x):kP 60 [eU u] (.bool (H0 u)):=by
  have h1:=Ld u (by omega) hw
  have h2:=MD u (by omega)
  have h3:=MF u (by omega)
  have h4:=TQ u (by omega)
  have rr0 : ∀ b',(h:(H0 u)=b':=by (simp only [H0,aS,aV,bS, *];first | done | rfl))→(H0 u)=b':=(fun _ h=>h);exact b7 Tryz.func60 (Mg 2 (Mp (h1) (Mg 0 (Mb (kH u) (fun h0=>Mg 0 (Mt h0 (Mp (h2) (Mt h0 (Mg 0 (M1 (.pk true) h0 (Mg 0 (Mb (aV (ao 8 (Int.ofNat (fD u)))) (fun z=>have h1:(ao 8 (Int.ofNat (fD u)))=false:=(aI z);((Mg 0 (Mt (ce h1) (Mp (h3) (Mt (ce h1) (Mg 0 (M1 (.pk true) (ce h1) (Mg 0 (Mn (ao 1024 (Int.ofNat (nU u))) (fun h2=>(Mg 0 (Mt (ce h2) (Mp (h4) (M1 (.pk true) (ce h2) (Mg 0 (Mf (aq (rr0 (PD u)))))))))) (fun h2=>(Mh (cJ h2) (M1 (.pk false) (cJ h2) (Mg 0 (Mf (aq (rr0 (false)))))))))))))))))) (fun z=>have h1:(ao 8 (Int.ofNat (fD u)))=true:=(aL z);((Mh (cJ h1) (Mh (cJ h1) (M1 (.pk false) (cJ h1) (Mg 2 (Mf (aq (rr0 (false)))))))))))))))))) (fun h0=>Mh h0 (Mh h0 (M1 (.pk false) h0 (Mg 4 (Mf (aq (rr0 (false))))))))))))
def ES (u:TUnit) (x0:Nat × List TUnit × Unit):Prop:=(u.kids).drop x0.1=x0.2.1∧u.kids.all de=x0.2.1.all de
noncomputable def sU (u:TUnit) (x0:Nat × List TUnit × Unit):List AV × List AObj:=([AV.pptr [AV.agg [iV u.act,iV u.item,iV u.n,iV u.kind,AV.str u.label,AV.ls (u.head.map aQ),AV.ls (u.words.map aQ),AV.ls (u.kids.map aX)]] 0 0,nV x0.1], [])
theorem LN : ∀ (u:TUnit),nU u≤2 ^ 20→kP 61 [eU u] (.bool (de u)):=by
  refine TUnit.ind fun u ih hn=>?_
  have hkl:=bq u
  have ihk : ∀ k,k∈u.kids→kP 61 [eU k] (.bool (de k)):=fun k hk=>ih k hk (bL (mU (fW hk)) hn)
  rw [uW]
  have rr0 : ∀ b',(h:(aV (aV (az u.kind 0) && (az u.act 0 && (az u.item 0 && az u.n 0))) && u.kids.all de)=b':=by first | (simp only [aS,aV,bS, *];done) | (rw [hj0];simp only [bF,aS,aV,bS, *];done) | (rw [hj0,jo];simp only [bF,aS,aV,bS, *];done))→(aV (aV (az u.kind 0) && (az u.act 0 && (az u.item 0 && az u.n 0))) && u.kids.all de)=b':=(fun _ h=>h);exact b7 Tryz.func61 (Mg 5 (Mb (aV (az u.kind 0)) (fun z=>have h0:(az u.kind 0)=false:=(aI z);(have gh0:=iS h0;(Mg 0 (Mt (ce h0) (Mg 0 (Mt (ce h0) (Mg 0 (Mt (ce h0) (Mv (cA (d:=(Tryz.prog).underlying 23) (n:=3) (l:=(0,1)::(1,1)::(2,1):: []) (xs:= [iV u.act,iV u.item,iV u.n]) (ys:= [iV 0,iV 0,iV 0]) (H:=ae [aw 8 false 0 [ab [iV u.act,iV u.item,iV u.n,iV u.kind,af u.label,aU (u.head.map aQ),aU (u.words.map aQ),aU (u.kids.map aX)]]]) rfl (bj (e:=az u.act 0) rfl rfl rfl (bj (e:=az u.item 0) rfl rfl rfl (da (e:=az u.n 0) rfl rfl rfl rfl)))) (M1 (.pk true) (ce h0) (Mb (az u.act 0 && (az u.item 0 && az u.n 0)) (fun h1=>Mg 0 (Mf (aq (rr0 (false))))) (fun h1=>Mg 0 (M1 (.frz 0 [1,3]) ti (ML (Nat × List TUnit × Unit) [1,3] (sU u) (ES u) (fun x=>x.2.1.length) (0,u.kids,()) (ax ((sU u) (0,u.kids,()))) (et (rfl:List.drop 0 (u.kids)=u.kids) (by rfl:(u.kids.all de=u.kids.all de))) (fun x0 hx0 nx0=>Mc x0.2.1 (fun hr0=>have lt0:=ai hx0.1 hr0;(have hj0:=aF (J:=fun r x=>u.kids.all de=r.all de) (a:=x0.2.2) hr0 hx0.2;(Mg 3 (Ml 16 (Le.len (f:=aX) (l:=u.kids)) (Mg 0 (Mh lt0 (Mg 0 (Mf (aq (rr0 (true))))))))))) (fun w0 r0 hr0=>have lt0:=aD hx0.1 hr0;(have glt0:=aJ lt0;(have nt0:=(ah (enc:=aX) hx0.1 hr0).trans (congrArg some (aC w0));(have hj0:=aE (J:=fun r x=>u.kids.all de=r.all de) (a:=x0.2.2) hr0 hx0.2;(Mg 3 (Ml 16 (Le.len (f:=aX) (l:=u.kids)) (Mg 0 (Mt lt0 (Mg 2 (Mx nt0 (Mg 0 (Mp (ihk w0 (by exact bJ hx0.1 hr0)) (Mg 0 (Mn (de w0) (fun h2=>Mg 0 (Mf (aq (rr0 (false))))) (fun h2=>Mg 1 (Ml 19 (Le.wr (x:=Int.ofNat x0.1+1) cq) (Mg 0 (Mf (nx0 (x0.1+1,r0,()) (et (ay hx0.1 hr0) (by (rw [hj0,jo];simp only [aS,aV,bS, *];done):(u.kids.all de=r0.all de))) (aO hr0))))))))))))))))))))))))))))))))))) (fun z=>have h0:(az u.kind 0)=true:=(aL z);(have gh0:=eJ h0;(Mh (cJ h0) (Mh (cJ h0) (Mh (cJ h0) (M1 (.pk false) (cJ h0) (Mg 1 (M1 (.frz 0 [1,3]) ti (ML (Nat × List TUnit × Unit) [1,3] (sU u) (ES u) (fun x=>x.2.1.length) (0,u.kids,()) (ax ((sU u) (0,u.kids,()))) (et (rfl:List.drop 0 (u.kids)=u.kids) (by rfl:(u.kids.all de=u.kids.all de))) (fun x0 hx0 nx0=>Mc x0.2.1 (fun hr0=>have lt0:=ai hx0.1 hr0;(have hj0:=aF (J:=fun r x=>u.kids.all de=r.all de) (a:=x0.2.2) hr0 hx0.2;(Mg 3 (Ml 16 (Le.len (f:=aX) (l:=u.kids)) (Mg 0 (Mh lt0 (Mg 0 (Mf (aq (rr0 (true))))))))))) (fun w0 r0 hr0=>have lt0:=aD hx0.1 hr0;(have glt0:=aJ lt0;(have nt0:=(ah (enc:=aX) hx0.1 hr0).trans (congrArg some (aC w0));(have hj0:=aE (J:=fun r x=>u.kids.all de=r.all de) (a:=x0.2.2) hr0 hx0.2;(Mg 3 (Ml 16 (Le.len (f:=aX) (l:=u.kids)) (Mg 0 (Mt lt0 (Mg 2 (Mx nt0 (Mg 0 (Mp (ihk w0 (by exact bJ hx0.1 hr0)) (Mg 0 (Mn (de w0) (fun h3=>Mg 0 (Mf (aq (rr0 (false))))) (fun h3=>Mg 1 (Ml 19 (Le.wr (x:=Int.ofNat x0.1+1) cq) (Mg 0 (Mf (nx0 (x0.1+1,r0,()) (et (ay hx0.1 hr0) (by (rw [hj0,jo];simp only [aS,aV,bS, *];done):(u.kids.all de=r0.all de))) (aO hr0))))))))))))))))))))))))))))))))
theorem Lx (u:TUnit) (hn:nU u≤2 ^ 19) (hw : ∀ x,x∈bB u→li x):kP 27 [eU u] (.bool (mj u)):=by
  have h1:=Sp u hn hw
  have h2:=LN u (by omega)
  have rr0 : ∀ b',(h:(mj u)=b':=by (simp only [mj,aS,aV,bS, *];first | done | rfl))→(mj u)=b':=(fun _ h=>h);exact b7 Tryz.func27 (Mg 2 (Mp (h1) (Mg 0 (Mb (H0 u) (fun h0=>Mg 0 (Mt h0 (Mp (h2) (M1 (.pk true) h0 (Mg 0 (Mf (aq (rr0 (de u))))))))) (fun h0=>Mh h0 (M1 (.pk false) h0 (Mg 0 (Mf (aq (rr0 (false)))))))))))
theorem NN {u:TUnit} (h:mj u=true) (hn:nU u≤1024) (hw : ∀ x,x∈bB u→li x):OkB u:=⟨Lj h,hn,fun x hx=>⟨(hw x hx).1,(hw x hx).2.1⟩⟩
end Go.Proofs.YtefibmgdgameaaaGreatDoor
