/- An abstract machine for runs of the program, proved sound against the model: part 8. No conditions. -/
import Derived.Test.YtdhkhecalpkngaaGreatDoorMach7
namespace Go.Ev
open Go
section
variable{u v x q:TUnit}{p:PId}{f:TUnit->TUnit}{i j n:Nat}{a c:Int}{l:List TUnit}
theorem Ss:∀{l:List TUnit},jL l<=n↔∀k,k∈l->1+gd k<=n
 |[]=>by rw[jL];exact⟨fun _ _ h=>(by cases h),fun _=>b8 _⟩
 |k::r=>by
  rw[jL,Nat.max_le,Ss (l:=r)];simp only[dP,forall_eq_or_imp]
theorem uY:gd u<=n↔∀k,k∈u.kids->1+gd k<=n:=by rw[mR,Ss]
theorem Lk:∀{l:List TUnit},be p l≠[]->∃k,k∈l/\bX p k=true/\be p l=aE p k
 |[],h=>absurd kJ h
 | k::r,h=>by
  cases hk:bX p k with
  |true=>exact⟨k,ef ..,hk,nq hk⟩
  |false=>
   rw[fQ hk]at h ⊢;obtain⟨k,h1,h2,h3⟩:=Lk h;exact⟨k,dA _ h1,h2,h3⟩
theorem EK(h:bX p u=true)(hi:eD p u=false):∃k,k∈u.kids/\bX p k=true/\aE p u=u::aE p k:=by
 have e:=jl h;rw[fF,hi]at e ⊢;have hw:be p u.kids≠[]:=fun z=>by rw[z]at e;exact e rfl
 obtain⟨k,h1,h2,h3⟩:=Lk hw;refine⟨k,h1,h2,?_⟩;rw[h3];obtain⟨y,t,ey⟩:=pN h2;rw[ey];rfl
theorem BW(h:bX p u=true){k:TUnit}(hk:bX p k=true)(e:aE p u=u::aE p k):ch p u=ch p k:=by
 obtain⟨y,t,ey⟩:=pN hk;unfold ch;rw[h,hk,e,ey];rfl
theorem E7(h:eD p u=true):ch p u=u:=by unfold ch;rw[vv h,lP h];rfl
theorem EV:∀u:TUnit,bX p u=true->(aE p u).length+gd (ch p u)<=gd u+1:=TUnit.ind fun u ih h=>by
 cases hi:eD p u with
 |true=>rw[E7 hi,lP hi,wT];omega
 |false=>
  obtain⟨k,h1,h2,h3⟩:=EK h hi;have z:=ih k h1 h2;have y:=uY.1 (af (gd u)) k h1;rw[BW h h2 h3,h3,cO];omega
theorem Ii:∀(u:TUnit)(n:Nat),gd u<=n->(bX p u=true->(aE p u).length+gd (f (ch p u))<=n+1)->gd (cK p f u)<=n:=TUnit.ind fun u ih n hn hf=>by
 cases h:bX p u with
 |false=>rw[za u h];exact hn
 | true=>
  have hf:=hf h;cases hi:eD p u with
  |true=>
   rw[m0 hi];rw[E7 hi,lP hi,wT]at hf;omega
  | false=>
   rw [jS hi,uY];have hw:=uY.1 hn;have key:∀r:List TUnit,(∀k,k∈r->k∈u.kids)->be p u.kids=be p r->∀k,k∈dB p f r->1+gd k<=n:=by
    intro r;induction r with
    |nil=>intro _ _ k hk;rw[nY]at hk;cases hk
    | cons k r ihr=>
     intro hm e z hz;have hk1:=hm k (ef ..);rw[iK]at hz;cases hk:bX p k with
     | true=>
      rw[hk,cond_true]at hz;rcases dP.1 hz with rfl|hz
      ·have e2:aE p u=u::aE p k:=yl hi e hk;have hn1:=hw k hk1;rw[BW h hk e2,e2,cO]at hf;have:=ih k hk1 (n-1) (by omega) fun _=>by omega
       omega
      ·exact hw z (hm z (dA _ hz))
     |false=>
      rw[hk,cond_false]at hz;rcases dP.1 hz with rfl|hz
      ·exact hw z hk1
      ·exact ihr (fun x hx=>hm x (dA _ hx)) (e.trans (fQ hk)) z hz
   exact key u.kids (fun _ h=>h) rfl
theorem vi(hf:∀v,gd (f v)<=gd v)(u:TUnit):gd (cK p f u)<=gd u:=Ii u _ (af _) fun h=>by
 have:=EV u h;have:=hf (ch p u);omega
theorem VR:gd (dV j x v)<=n↔gd v<=n/\1+gd x<=n:=by
 rw[uY,uY];have e:∀k,k∈(dV j x v).kids↔k=x\/k∈v.kids:=fun k=>by
  show k∈rh j x v.kids↔_
  rw[Hp.mem_iff,dP]
 simp only[e];exact⟨fun h=>⟨fun k hk=>h k (.inr hk),h x (.inl rfl)⟩,fun h k hk=>hk.elim (fun e=>e▸h.2) (h.1 k)⟩
theorem VT:gd (fu j v)<=gd v:=uY.2 fun k hk=>uY.1 (af _) k (List.mem_of_mem_eraseIdx (show k∈v.kids.eraseIdx j from hk))
theorem Wv(h:bX p u=true):(pJ p u).length+1=(aE p u).length:=by
 obtain⟨y,t,e⟩:=pN h;unfold pJ;rw[List.length_reverse,cJ,List.length_take,e,cO];omega
theorem Il(h8:gd u<=8)(hd:yZ u p x=false):gd (cK p (dV j x) u)<=8:=Ii u 8 h8 fun h=>by
 have h1:=Wv h;have h2:=EV u h;unfold yZ at hd;have h3:=aG hd;simp only[bW]at h3;have h4:=(VR (j:=j) (x:=x) (v:=ch p u) (n:=9-(aE p u).length)).2 ⟨by omega,by omega⟩;omega
def Rd(u:TUnit):Prop:=Rg u/\gd u<=8
theorem GP(hu:OkB u)(hx:x∈bv u)(hp:iZ (am x) u=true){l:List PWord}(hv:eM x.words=true->eM l=true)(h:Rd u):Rd (cK (am x) (jN l) u):=by
 obtain⟨hr,hd⟩:=h;refine⟨uo u hr (fun v hv' hid=>?_) fun p k hp' hk _=>⟨rfl,.inl rfl⟩,bu (vi (fun v=>by rw[mR,mR v];exact af _) u) hd⟩;obtain rfl:=hu.uni hv' hx hid;have ha:=(hr v hx).al;have hw:eM v.words=true:=by simp_all[iP]
 exact Jp (f:=jN l) (wx hr hx) rfl rfl (I4 ha (AF hu hr hx hp) (hv hw)).1
theorem Un(hu:OkB u)(hx:x∈bv u)(hp:iZ (am x) u=true){l:List au}(hl:mA l=true)(h:Rd u):Rd (cK (am x) (rl (ce a c l 0)) u):=by
 obtain⟨hr,hd⟩:=h;refine⟨uo u hr (fun v hv' hid=>?_) fun p k hp' hk _=>⟨rfl,.inl rfl⟩,bu (vi (fun v=>by rw[mR,mR v];exact af _) u) hd⟩;obtain rfl:=hu.uni hv' hx hid;exact Jp (f:=rl _) (wx hr hx) rfl rfl (I4 (hr v hx).al (AF hu hr hx hp) (L9 hl)).2
theorem Qe(hu:OkB u)(hx:x∈bv u)(hp:iZ (am x) u=true){s:au}(hs:gI s=true)(ht:ld (ch (rx (am x) u) u) (ji s x)≠10)(h:Rd u):Rd (cK (am x) (ji s) u):=by
 obtain⟨hr,hd⟩:=h;refine⟨?_,bu (vi (fun v=>by rw[mR,mR v];exact af _) u) hd⟩;obtain⟨q,i,h1,h2,_,h4,h5⟩:=oH u hp;have hkx:=hu.uni (fW h1 (bj (gc h4) (cX _))) hx h5;have hfq:ch (rx (am x) u) u=q:=by
  obtain⟨f1,f2⟩:=oa (nH h1);rw[h2];exact hu.uni f1 h1 f2
 rw[hfq]at ht;have hno:∀d,d∈q.kids->qg d≠qg (ji s x):=fun d hd e=>by
  refine ht ?_;unfold ld;rw[Ae,show(ji s x).kind=x.kind from rfl,<-hkx,(hr q h1).ne _ (gc h4),cond_true,List.any_eq_true.2 ⟨d,hd,hkx▸zL.2 e⟩];rfl
 refine uo u hr (fun v hv' hid=>?_) fun p k hp' hk hid=>?_
 ·obtain rfl:=hu.uni hv' hx hid;exact Jp (f:=ji s) (wx hr hx) rfl rfl (Ti (hr v hx).al (AF hu hr hx hp) hs)
 ·obtain rfl:=hu.uni (fW hp' (yN hk)) hx hid;obtain rfl:=UB hu.nd hp' h1 hk (gc h4) h5.symm;exact⟨rfl,.inr hno⟩
theorem Qf(h:Rd u):Rd (cK (am v) (fu j) u):=⟨uo u h.1 (fun _ hz _=>Xf (wx h.1 hz)) fun _ _ _ _ _=>⟨rfl,.inl rfl⟩,bu (vi (fun _=>VT) u) h.2⟩
theorem Xi(hu:OkB u){x0:TUnit}(hx:Rg x0)(hl:(ch p u).kids.length<64)(ht:ld (ch p u) (co a c x0 0 0)=0)(hd:yZ u p (co a c x0 0 0)=false)(h:Rd u):Rd (cK p (dV j (co a c x0 0 0)) u):=⟨LM hu h.1 (QQ a c x0 hx 0 0) hl ht,Il h.2 hd⟩
theorem Xh{r:TUnit}(hv:v∈bv u)(hj:j<v.kids.length)(hr:r=cK (am v) (fu j) u)(ho:OkB r)(hl:Rg u->(ch p r).kids.length<64)(ht:ld (ch p r) (gD v.kids j)=0)(hd:yZ r p (gD v.kids j)=false)(h:Rd u):Rd (cK p (dV i (gD v.kids j)) r):=by
 have h1:Rd r:=hr▸Qf h;exact⟨LM ho h1.1 (wx h.1 (fW hv (bj (gc hj) (cX _)))) (hl h.1) ht,Il h1.2 hd⟩
theorem GY(h:bX p u=true):∃t,aE p u=u::t:=by
 have e:=jl h;rw[fF]at e ⊢;cases hk:eD p u with
 |true=>exact⟨[],rfl⟩
 |false=>
  rw[hk]at e;cases ek:be p u.kids with
  |nil=>rw[ek]at e;exact absurd rfl e
  |cons s r=>exact⟨s::r,rfl⟩
theorem T2:∀u:TUnit,∀y,y∈(aE p u).drop 1->∃z,z∈bv u/\y∈z.kids:=TUnit.ind fun u ih y hy=>by
 cases h:bX p u with
 |false=>rw[uZ h]at hy;cases hy
 | true=>
  cases hi:eD p u with
  |true=>rw[lP hi]at hy;cases hy
  |false=>
   obtain⟨k,h1,h2,h3⟩:=EK h hi;rw[h3,List.drop_succ_cons,List.drop_zero]at hy;obtain⟨t,e⟩:=GY h2;rw[e]at hy;rcases dP.1 hy with rfl|hy
   ·exact⟨u,cX u,h1⟩
   ·obtain⟨z,z1,z2⟩:=ih k h1 y (by rw[e];exact hy);exact⟨z,bj h1 z1,z2⟩
end
end Go.Ev
