/- An abstract machine for runs of the program, proved sound against the model: part 8. No conditions. -/
import Derived.Test.YtidehekfpcgelaaGreatDoorMach7
namespace Go.Ev
open Go
def pA(u:TUnit):Int×aE:=(u.kind,u.label)
structure Lc(x:TUnit):Prop where
 al:ec x=true
 ne:∀k,k∈x.kids→fh x.kind k.kind=true
 nd:(x.kids.map pA).Nodup
def Rg(u:TUnit):Prop:=∀x,x∈bW u→Lc x
theorem qP{u k:TUnit}(h:Rg u)(hk:k∈u.kids):Rg k:=fun x hx=>h x (bX hk hx)
theorem vH{u v:TUnit}(h:Rg u)(hv:v∈bW u):Rg v:=fun x hx=>h x (eD hv hx)
theorem Cp{u:TUnit}(h:Lc u)(hk:∀k,k∈u.kids→Rg k):Rg u:=fun x hx=>by
 rw[co]at hx;rcases ed.1 hx with rfl|hx
 ·omega
 ·obtain⟨k,h1,h2⟩:=lY hx;exact hk k h1 x h2
theorem sT{k d:TUnit}:gi k d=true↔pA d=pA k:=by
 unfold gi pA;constructor
 ·grind[iI,Dx]
 ·intro h;obtain⟨h1,h2⟩:=Prod.mk.inj h;rw[h1,h2,ba,rh];rfl
theorem QJ:∀u:TUnit,Rg u→nK u=true:=TUnit.ind fun u ih h=>by
 have hs:=h u (bq u);have key:∀(r done:List TUnit),(∀k,k∈r→k∈u.kids)→((done++r).map pA).Nodup→dj u.kind done r=true:=by
  intro r;induction r with
  |nil=>grind[wT]
  | cons k r ihr=>
   intro done hm hd;have hk:=hm k (eG ..);have h0:done.any (gi k)=false:=by
    rw[List.any_eq_false];intro d hd' e;rw[m0,tC]at hd;exact hd.2.2 _ (yD hd') _ (yD (eG ..)) (sT.1 e)
   rw[ky,hs.ne k hk,ih k hk (qP h hk),h0,ihr (done++[k]) (fun x hx=>hm x (eQ _ hx)) (by simp_all)];rfl
 rw[Co,hs.al,key u.kids [] (fun _ h=>h) hs.nd];rfl
variable{u v x:TUnit}{q:PId}{f:TUnit→TUnit}{a i:Int}
theorem OO{b:Bool}(h:az b=true):b=false:=by simp_all
theorem Fq{ks:List TUnit}(h:ec u=true)(hl:ks.length≤64):ec (iU u ks)=true:=by
 unfold ec at h ⊢;simp only[aO]at h ⊢;exact⟨h.1,h.2.1,(by rw[j6 (show Int.ofNat (iU u ks).kids.length≤64 by show Int.ofNat ks.length≤64;grind)];rfl),h.2.2.2⟩
theorem Kk(h:ec u=true):u.kids.length≤64:=by
 unfold ec at h;simp only[aO]at h;have:=af (OO h.2.2.1);grind
theorem Ie{l:List PWord}(h:ec u=true)(hk:u.kind≠0)(hl:dz l=true):ec (fy l u)=true∧ec (kn l u)=true:=by
 unfold ec at h ⊢;have e:ak u.kind 0=false:=by grind[lr]
 simp only[aO]at h;obtain⟨h1,h2,h3,h4,h5,h6⟩:=h;rw[e]at h6;constructor<;>simp only[aO]
 ·exact⟨h1,h2,h3,h4,hl,(by show(bif ak u.kind 0 then _ else _)=true;rw[e];exact h6)⟩
 ·exact⟨h1,h2,h3,hl,h5,(by show(bif ak u.kind 0 then _ else _)=true;rw[e];exact h6)⟩
theorem Te{s:aE}(h:ec u=true)(hk:u.kind≠0)(hs:fS s=true):ec (f9 s u)=true:=by
 unfold ec at h ⊢;have e:ak u.kind 0=false:=by grind[lr]
 simp only[aO]at h ⊢;obtain⟨h1,h2,h3,h4,h5,h6⟩:=h;exact⟨h1,h2,h3,h4,h5,(by show(bif ak u.kind 0 then _ else _)=true;rw[e];exact hs)⟩
theorem tI:∀u:TUnit,Rg u→(∀v,v∈bW u→ah v=q→Rg (f v))→(∀p k,p∈bW u→k∈p.kids→ah k=q→(f k).kind=k.kind∧(pA (f k)=pA k∨∀d,d∈p.kids→pA d≠pA (f k)))→Rg (bG q f u):=TUnit.ind fun u ih h hf hk=>by
 cases hi:fI q u with
 |true=>grind[jN,bq,fx]
 | false=>
  have hs:=h u (bq u);have one:∀k,k∈u.kids→Rg (bG q f k)∧(bG q f k).kind=k.kind∧(pA (bG q f k)=pA k∨∀d,d∈u.kids→pA d≠pA (bG q f k)):=fun k hm=>by
   refine⟨ih k hm (qP h hm) (fun v hv=>hf v (bX hm hv)) (fun p z hp=>hk p z (bX hm hp)),?_⟩;cases hik:fI q k with
   |true=>grind[jN,bq,fx]
   |false=>rw[iQ hik];exact⟨rfl,.inl rfl⟩
  have key:∀r:List TUnit,(∀k,k∈r→k∈u.kids)→(r.map pA).Nodup→(dn q f r).length=r.length∧(∀k,k∈dn q f r→Rg k∧fh u.kind k.kind=true)∧((dn q f r).map pA).Nodup∧∀y,y∈(dn q f r).map pA→y∈r.map pA∨∀d,d∈u.kids→pA d≠y:=by
   intro r;induction r with
   |nil=>intro _ _;rw[pJ];simp_all
   | cons k r ihr=>
    intro hm hd;have hk1:=hm k (eG ..);have hm2:=fun x hx=>hm x (eQ k hx)
    rw[dl,tD]at hd;rw[gk];cases hq:b7 q k with
    | true=>
     obtain⟨o1,o2,o3⟩:=one k hk1;refine⟨rfl,fun z hz=>?_,?_,fun y hy=>?_⟩
     ·rcases ed.1 hz with rfl|hz
      ·exact⟨o1,by rw[o2];exact hs.ne k hk1⟩
      ·exact⟨qP h (hm2 z hz),hs.ne z (hm2 z hz)⟩
     ·show(pA (bG q f k)::r.map pA).Nodup
      refine tD.2 ⟨fun hc=>?_,hd.2⟩;rcases o3 with e|e
      ·grind
      ·obtain⟨d,d1,d2⟩:=fE.1 hc;simp_all
     grind
    | false=>
     obtain⟨k1,k2,k3,k4⟩:=ihr hm2 hd.2;refine⟨by simp_all,fun z hz=>?_,?_,fun y hy=>?_⟩
     ·rcases ed.1 hz with rfl|hz
      ·exact⟨qP h hk1,hs.ne z hk1⟩
      simp_all
     all_goals grind
  obtain⟨k1,k2,k3,_⟩:=key u.kids (fun _ h=>h) hs.nd;rw[iQ hi];exact Cp ⟨Fq hs.al (by grind[Kk,cases Lc]),fun k hk=>(k2 k hk).2,k3⟩ fun k hk=>(k2 k hk).1
theorem zN(p k:Int):iJ p k=fh p k:=by
 have h:(p<0∨7<p)∨p=0∨p=1∨p=2∨p=3∨p=4∨p=5∨p=6∨p=7:=by omega
 rcases h with h|rfl|rfl|rfl|rfl|rfl|rfl|rfl|rfl
 ·have e:∀c:Int,0≤c→c≤7→ak p c=false:=fun c h1 h2=>by grind[lr]
  unfold iJ fh;rw[y7 h,e 0 (by omega) (by omega),e 1 (by omega) (by omega),e 2 (by omega) (by omega),e 3 (by omega) (by omega),e 4 (by omega) (by omega),e 5 (by omega) (by omega)];rfl
 all_goals simp[iJ,fh,DI,lr,eq_comm]
theorem T2(h:lJ v x=0):fh v.kind x.kind=true∧∀k,k∈v.kids→pA k≠pA x:=by
 unfold lJ at h;rw[zN]at h;cases h1:fh v.kind x.kind with
 |false=>grind
 |true=>
  rw[h1]at h;cases h2:v.kids.any (kw x)with
  |true=>grind
  |false=>exact⟨rfl,fun k hk e=>List.any_eq_false.1 h2 k hk (sT.2 e)⟩
theorem Rm{j:Nat}{l:List TUnit}:(rz j x l).Perm (x::l):=by
 unfold rz;exact List.perm_middle.trans (by simp_all)
theorem Xr{j:Nat}(hv:Rg v)(hx:Rg x)(hl:v.kids.length<64)(ht:fh v.kind x.kind=true∧∀k,k∈v.kids→pA k≠pA x):Rg (cV j x v):=by
 have hs:=hv v (bq v);have hp:=Rm (x:=x) (j:=j) (l:=v.kids);refine Cp ⟨Fq hs.al (by rw[hp.length_eq];grind),fun k hk=>?_,(hp.map pA).nodup_iff.2 (tD.2 ⟨fun hc=>?_,hs.nd⟩)⟩ fun k hk=>?_
 ·rcases ed.1 (hp.mem_iff.1 hk)with rfl|hk
  ·exact ht.1
  ·exact hs.ne k hk
 ·grind
 ·rcases ed.1 (hp.mem_iff.1 hk)with rfl|hk
  all_goals grind[qP]
theorem Xs{j:Nat}(hv:Rg v):Rg (dg j v):=by
 have hs:=hv v (bq v);have hp:(v.kids.eraseIdx j).Sublist v.kids:=List.eraseIdx_sublist ..;exact Cp ⟨Fq hs.al (bL hp.length_le (Kk hs.al)),fun k hk=>hs.ne k (hp.mem hk),hs.nd.sublist (hp.map pA)⟩ fun k hk=>qP hv (hp.mem hk)
theorem JZ(hv:Rg v)(h1:(f v).kids=v.kids)(h2:(f v).kind=v.kind)(h3:ec (f v)=true):Rg (f v):=by
 have hs:=hv v (bq v);exact Cp ⟨h3,by grind[cases Lc],by grind[cases Lc]⟩ (by grind[qP])
def Es(p:TUnit):List PId:=p.kids.map ah
theorem RC:∀u:TUnit,(cR u).Perm (ah u::(bW u).flatMap Es):=TUnit.ind fun u ih=>by
 have key:∀r:List TUnit,(∀k,k∈r→k∈u.kids)→(bx r).Perm (r.map ah++(dQ r).flatMap Es):=by
  intro r;induction r with
  |nil=>grind[lk,fZ]
  |cons k r ihr=>grind[dC,bf]
 rw[gQ,co,B9];exact .cons _ (key u.kids fun _ h=>h)
theorem Ur{p1 p2 k1 k2:TUnit}(hu:(cR u).Nodup)(h1:p1∈bW u)(h2:p2∈bW u)(m1:k1∈p1.kids)(m2:k2∈p2.kids)(e:ah k1=ah k2):p1=p2:=by
 have hn:=(tD.1 ((RC u).nodup_iff.1 hu)).2;have hp:=(List.pairwise_flatMap.1 hn).2;obtain⟨i1,l1,e1⟩:=sd h1;obtain⟨i2,l2,e2⟩:=sd h2;have hp:=CQ.1 hp;have a1:ah k1∈Es p1:=yD m1;have a2:ah k1∈Es p2:=e▸yD m2;rcases Nat.lt_trichotomy i1 i2 with h|h|h
 ·exact absurd rfl (hp i1 i2 l1 l2 h _ (by rw[e1];exact a1) _ (by simp_all))
 ·simp_all
 ·exact absurd rfl (hp i2 i1 l2 l1 h _ (by rw[e2];exact a2) _ (by simp_all))
def fl{α:Type}(g:TUnit→List α)(u:TUnit):List α:=(bW u).flatMap g
def ym{α:Type}(g:TUnit→List α)(l:List TUnit):List α:=(dQ l).flatMap g
section
variable{α:Type}{g:TUnit→List α}
theorem ng(u:TUnit):fl g u=g u++ym g u.kids:=by grind[fl,ym,co]
theorem EI:ym g []=[]:=by unfold ym;rw[fZ];rfl
theorem l0(k:TUnit)(r:List TUnit):ym g (k::r)=fl g k++ym g r:=by grind[fl,ym,bf]
theorem MZ(l m:List TUnit):ym g (l++m)=ym g l++ym g m:=by
 induction l with
 |nil=>rw[EI];rfl
 |cons k r ih=>grind[l0]
theorem DE(hg:∀u ks,g (iU u ks)=g u):∀u:TUnit,b7 q u=true→∃v C,v∈bW u∧ah v=q∧(fl g u).Perm (C++fl g v)∧∀f,(fl g (bG q f u)).Perm (C++fl g (f v)):=TUnit.ind fun u ih h=>by
 cases hi:fI q u with
 |true=>exact⟨u,[],bq u,(fx q u).1 hi,.refl _,fun f=>by simp_all[jN]⟩
 | false=>
  have key:∀r:List TUnit,(∀k,k∈r→k∈u.kids)→ca q r≠[]→∃v C,v∈dQ r∧ah v=q∧(ym g r).Perm (C++fl g v)∧∀f,(ym g (dn q f r)).Perm (C++fl g (f v)):=by
   intro r;induction r with
   |nil=>intro _ hw;rw[jO]at hw;simp_all
   | cons k r ihr=>
    intro hm hw;cases hk:b7 q k with
    |true=>
     obtain⟨v,C,h1,h2,h3,h4⟩:=ih k (hm k (eG ..)) hk;refine⟨v,ym g r++C,by grind[bf],h2,?_,fun f=>?_⟩
     ·rw[l0,ia];exact Ws.trans (h3.append_left _)
     ·rw[gk,hk,cond_true,l0,ia];exact Ws.trans ((h4 f).append_left _)
    |false=>
     rw[ii hk]at hw;obtain⟨v,C,h1,h2,h3,h4⟩:=ihr (fun x hx=>hm x (eQ _ hx)) hw;refine⟨v,fl g k++C,by grind[bf],h2,?_,fun f=>?_⟩
     ·rw[l0,ia];exact h3.append_left _
     ·rw[gk,hk,cond_false,l0,ia];exact(h4 f).append_left _
  have hw:ca q u.kids≠[]:=by
   intro e;have:=ko h;rw[gw,hi,e]at this;simp_all
  obtain⟨v,C,h1,h2,h3,h4⟩:=key u.kids (fun _ h=>h) hw;refine⟨v,g u++C,by grind[co],h2,by rw[ng,ia];exact h3.append_left _,fun f=>?_⟩;rw[iQ hi,ng,hg,ia];exact(h4 f).append_left _
theorem Yf(hg:∀u ks,g (iU u ks)=g u){j:Nat}:(fl g (cV j x v)).Perm (fl g v++fl g x):=by
 rw[ng v];unfold cV rz;rw[ng,hg,ia];refine KC _ ?_;show(ym g (v.kids.take j++(x::v.kids.drop j))).Perm _
 grind[MZ,l0,List.take_append_drop,List.perm_append_comm]
theorem Yg(hg:∀u ks,g (iU u ks)=g u){j:Nat}(h:j<v.kids.length):(fl g v).Perm (fl g (dg j v)++fl g (gD v.kids j)):=by
 rw[ng v];unfold dg;rw[ng,hg,ia];refine KC _ ?_;show(ym g v.kids).Perm (ym g (v.kids.eraseIdx j)++_)
 have e:v.kids=v.kids.take j++(gD v.kids j::v.kids.drop (j+1)):=by grind[gD,List.drop_eq_getElem_cons,List.take_append_drop]
 grind[MZ,l0,List.Perm.append_left,List.perm_append_comm]
end
def sy(w:PWord):PId:=⟨w.act,w.item,w.at_⟩
def pm(u:TUnit):List PId:=(fc u).map sy
theorem uo(u:TUnit)(ks:List TUnit):pm (iU u ks)=pm u:=rfl
def XK(u:TUnit):Prop:=(fl pm u).Nodup
def NoM(a i:Int)(u:TUnit):Prop:=∀p,p∈fl pm u→¬(p.a=a∧p.i=i)
theorem Ef(hn:XK u)(ha:NoM a i u)(hf:∀v,v∈bW u→ah v=q→∀C,(C++fl pm v).Nodup→(∀p,p∈C++fl pm v→¬(p.a=a∧p.i=i))→(C++fl pm (f v)).Nodup):XK (bG q f u):=by
 cases hq:b7 q u with
 |false=>grind[pK]
 |true=>
  obtain⟨v,C,h1,h2,h3,h4⟩:=DE uo u hq;exact(h4 f).nodup_iff.2 (hf v h1 h2 C (h3.nodup_iff.1 hn) fun p hp=>ha p (h3.mem_iff.2 hp))
theorem Q1{C D E M:List PId}(h:(C++(D++M++E)).Nodup)(ha:∀p,p∈C++(D++M++E)→¬(p.a=a∧p.i=i)){N:List PId}(hN:N.Nodup)(hm:∀p,p∈N→p∈M∨(p.a=a∧p.i=i)):(C++(D++N++E)).Nodup:=by grind
theorem R9{l:List PWord}:fl pm (fy l v)=v.head.map sy++l.map sy++ym pm v.kids:=by rw[ng];unfold pm fc;rw[m0];rfl
theorem VM{l:List PWord}:fl pm (kn l v)=[]++l.map sy++(v.words.map sy++ym pm v.kids):=by rw[ng];unfold pm fc;rw[m0,ia];rfl
theorem Q3{l:List PWord}(hl:(l.map sy).Nodup)(hm:∀w,w∈l→w∈v.words∨(w.act=a∧w.item=i)){C:List PId}(h:(C++fl pm v).Nodup)(ha:∀p,p∈C++fl pm v→¬(p.a=a∧p.i=i)):(C++fl pm (fy l v)).Nodup:=by
 have e:fl pm v=v.head.map sy++v.words.map sy++ym pm v.kids:=by grind[ng,pm,fc]
 rw[e]at h ha;rw[R9];refine Q1 h ha hl fun p hp=>?_
 obtain⟨w,w1,rfl⟩:=fE.1 hp;rcases hm w w1 with q|q
 ·grind
 ·exact .inr q
theorem UR{l:List PWord}(hl:(l.map sy).Nodup)(hm:∀w,w∈l→w.act=a∧w.item=i){C:List PId}(h:(C++fl pm v).Nodup)(ha:∀p,p∈C++fl pm v→¬(p.a=a∧p.i=i)):(C++fl pm (kn l v)).Nodup:=by
 have e:fl pm v=[]++v.head.map sy++(v.words.map sy++ym pm v.kids):=by rw[ng];unfold pm fc;simp_all
 rw[e]at h ha;rw[VM];refine Q1 h ha hl fun p hp=>?_
 obtain⟨w,w1,rfl⟩:=fE.1 hp;exact .inr (hm w w1)
theorem yf:∀{l:List aE}{n:Nat}{w:PWord},w∈bg a i l n→∃j:Nat,w.at_=Int.ofNat j∧n≤j∧j<n+l.length
 |s::r,n,w,h=>by
  rw[bg]at h;rcases ed.1 h with rfl|h
  ·grind
  ·obtain⟨j,j1,j2,j3⟩:=yf h;grind
theorem AQ:∀(l:List aE)(n:Nat),((bg a i l n).map sy).Nodup
 |[],n=>List.nodup_nil
 |s::r,n=>by
  rw[bg,dl];refine tD.2 ⟨fun hc=>?_,AQ r (n+1)⟩;obtain⟨w,w1,w2⟩:=fE.1 hc;obtain⟨j,j1,j2,_⟩:=yf w1;have e:w.at_=Int.ofNat n:=congrArg PId.n w2;grind
theorem La{g:Nat}{ps:List Nat}{fresh:List aE}:∀{n:Nat}{l:List PWord},(l.map sy).Nodup→(∀w,w∈l→w.act=a∧w.item=i→∃j:Nat,w.at_=Int.ofNat j∧n*fresh.length≤j)→((nj a i g ps fresh n l).map sy).Nodup
 |0,l,h,_=>h
 | n+1,l,h,ho=>by
  rw[nj];have hm:∀w,w∈fQ (gD ps n) g (bg a i fresh (n*fresh.length)) l→w∈l∨w∈bg a i fresh (n*fresh.length):=fun w hw=>by grind[fQ]
  refine La ?_ fun w hw ha=>?_
  ·unfold fQ;have hs:(l.take (gD ps n)++l.drop (gD ps n+g)).Sublist l:=by grind[List.take_append_drop]
   have hp:(l.take (gD ps n)++bg a i fresh (n*fresh.length)++l.drop (gD ps n+g)).Perm (bg a i fresh (n*fresh.length)++(l.take (gD ps n)++l.drop (gD ps n+g))):=by grind[List.Perm.append_right,List.perm_append_comm]
   refine(hp.map sy).nodup_iff.2 ?_;rw[m0];refine tC.2 ⟨AQ ..,h.sublist (hs.map sy),fun p hp r hr he=>?_⟩;obtain⟨w,w1,rfl⟩:=fE.1 hp;obtain⟨z,z1,rfl⟩:=fE.1 hr;obtain⟨e1,e2⟩:=mO w1;obtain⟨j,j1,j2,j3⟩:=yf w1;obtain⟨m,m1,m2⟩:=ho z (hs.mem z1) ⟨(congrArg PId.a he).symm.trans e1,(congrArg PId.i he).symm.trans e2⟩;have e:w.at_=z.at_:=congrArg PId.n he;grind
  grind[yf]
theorem Ul{l:List PWord}(h:(l.map sy).Nodup):((oh l).map sy).Nodup:=by grind[oh]
variable{l:List PWord}{old new part:List aE}{n:Int}
theorem EY{g:Nat}{ps:List Nat}(h:(l.map sy).Nodup)(ha:∀w,w∈l→¬(w.act=a∧w.item=i)):((oh (nj a i g ps new ps.length l)).map sy).Nodup:=Ul (La h fun w hw e=>absurd e (ha w hw))
theorem QV(h:(l.map sy).Nodup)(ha:∀w,w∈l→¬(w.act=a∧w.item=i)):((qR a i l old new n).1.map sy).Nodup:=by
 unfold qR;cases ak (Int.ofNat old.length) 0
 ·cases ak (Int.ofNat (lq (rJ (aL l) old) n).length) 0
  ·exact EY h ha
  simp_all
 simp_all
theorem Vj(h:(l.map sy).Nodup)(ha:∀w,w∈l→¬(w.act=a∧w.item=i)):((tz a i l part new n).1.map sy).Nodup:=by
 unfold tz;cases(ak (Int.ofNat new.length) 0||(ak (Int.ofNat part.length) 0&&az (ak n 0)))
 ·cases ak (Int.ofNat part.length) 0
  ·cases ak (Int.ofNat (lq (rJ (aL l) part) n).length) 0
   ·exact EY h ha
   simp_all
  ·exact EY h ha
 simp_all
theorem m7:dz l=true↔l.length≤256∧∀w,w∈l→gG w.text=true:=by
 unfold dz kX;simp only[aO,kO,cK,fE];constructor
 ·intro ⟨h1,_,h2⟩;have:=af (OO h1);grind
 ·intro ⟨h1,h2⟩;have e:az (ao 256 (Int.ofNat l.length))=true:=by rw[j6 (by grind)];rfl
  simp_all
theorem Lq{l:List aE}(h:kX l=true):l.length≤256∧∀s,s∈l→gG s=true:=by
 unfold kX at h;rw[aO,kO]at h;have:=af (OO h.1);grind
theorem El:∀{l:List aE}{n:Nat}{w:PWord},w∈bg a i l n→w.text∈l
 |s::r,n,w,h=>by
  rw[bg]at h;rcases ed.1 h with rfl|h
  ·simp_all
  ·exact eQ _ (El h)
theorem LA{l:List aE}{n:Nat}(h:kX l=true):dz (bg a i l n)=true:=by
 obtain⟨h1,h2⟩:=Lq h;exact m7.2 ⟨by grind[fX],fun w hw=>h2 _ (El hw)⟩
theorem Qj{g:Nat}{ps:List Nat}{fresh:List aE}{w:PWord}:∀{n:Nat}{l:List PWord},w∈nj a i g ps fresh n l→w∈l∨w.text∈fresh
 |0,l,h=>.inl h
 |n+1,l,h=>by
  rw[nj]at h;rcases Qj h with h|h
  all_goals grind[fQ,El]
theorem JY{g:Nat}{ps:List Nat}(h:dz l=true)(hn:kX new=true):dz (oh (nj a i g ps new ps.length l))=true:=by
 refine m7.2 ⟨?_,fun w hw=>?_⟩
 ·unfold oh;cases q:ao 256 (Int.ofNat (nj a i g ps new ps.length l).length)with
  |true=>simp_all
  |false=>have:=af q;grind
 ·rcases Qj (ux hw)with q|q
  ·exact(m7.1 h).2 w q
  ·exact(Lq hn).2 _ q
theorem pZ:dz []=true:=rfl
theorem Uc(h:dz l=true)(hn:kX new=true):dz (qR a i l old new n).1=true:=by
 unfold qR;cases ak (Int.ofNat old.length) 0
 ·cases ak (Int.ofNat (lq (rJ (aL l) old) n).length) 0
  ·exact JY h hn
  ·exact pZ
 ·exact pZ
theorem YV(h:dz l=true)(hn:kX new=true):dz (tz a i l part new n).1=true:=by
 unfold tz;cases(ak (Int.ofNat new.length) 0||(ak (Int.ofNat part.length) 0&&az (ak n 0)))
 ·cases ak (Int.ofNat part.length) 0
  ·cases ak (Int.ofNat (lq (rJ (aL l) part) n).length) 0
   ·exact JY h hn
   ·exact pZ
  ·exact JY h hn
 ·exact pZ
end Go.Ev
namespace Go.Ev
open Go
theorem EB{K:Type}{keq:K→K→Bool}(ht:∀a b,keq a b=true→a=b)(hr:∀a,keq a a=true)(k p:K):∀m:List (K×Bool),Al keq k (eW keq p true m)=(keq k p||Al keq k m)
 |[]=>by
  simp only[eW,Al,mE];grind
 | (j,v)::r=>by
  have ih:=EB ht hr k p r;unfold Al at ih ⊢;cases h1:keq p j with
  |true=>
   have e:=ht _ _ h1;subst e;rw[show eW keq p true ((p,v)::r)=(p,true)::r by grind[eW]];simp only[mE];grind
  |false=>
   rw[show eW keq p true ((j,v)::r)=(j,v)::eW keq p true r by grind[eW]];simp only[mE];grind
theorem Sd(a:Int×aE):ku a a=true:=by unfold ku;rw[ba,rh];rfl
theorem V1(a b:Int×aE)(h:ku a b=true):a=b:=by
 unfold ku at h;grind[iI,Dx]
theorem C3{pk:Int}:∀{r:List TUnit}{m:List ((Int×aE)×Bool)},lx pk r m=true→(∀k,k∈r→fh pk k.kind=true∧Al ku (pA k) m=false)∧(r.map pA).Nodup
 |[],m,_=>⟨fun k hk=>(by grind),List.nodup_nil⟩
 | k::r,m,h=>by
  rw[lx,aO,aO]at h;obtain⟨h1,h2,h3⟩:=h;obtain⟨q1,q2⟩:=C3 h3;have hx:∀x,x∈r→pA x≠pA k∧Al ku (pA x) m=false:=fun x hx=>by
   have z:=(q1 x hx).2;rw[EB V1 Sd,wC]at z;exact⟨fun e=>(by rw[e,show(k.kind,k.label)=pA k from rfl,Sd]at z;simp_all),z.2⟩
  rw[dl];refine⟨fun x hx'=>?_,tD.2 ⟨fun hc=>?_,q2⟩⟩
  ·rcases ed.1 hx' with rfl|hx'
   ·exact⟨zN .. ▸h1,OO h2⟩
   simp_all
  grind
theorem Rj{u:TUnit}(h:jH u=true):Lc u:=by
 unfold jH at h;rw[aO,aO]at h;obtain⟨h1,h2,h3⟩:=h;obtain⟨q1,q2⟩:=C3 h2;refine⟨?_,fun k hk=>(q1 k hk).1,q2⟩;unfold ec;cases e:ak u.kind 0 with
 |true=>
  rw[e,cond_true,aO]at h1;have ek:=iI e;have hl:=af (OO h1.2);simp only[aP]at hl;rw[qK (l:=u.head) (by omega),qK (l:=u.words) (by omega),ek,h3,cond_true,h1.1];rfl
 |false=>
  rw[e,cond_false,aO,aO,aO]at h1;obtain⟨a1,a2,a3,a4⟩:=h1;have hr:¬(u.kind<0∨7<u.kind):=fun q=>by rw[Aa q]at a1;cases a1
  rw[j6 (show 0≤u.kind by omega),j6 (show u.kind≤7 by omega),h3,a3,a4,cond_false,a2];rfl
theorem Xt{u:TUnit}(h:vc jH u=true):Rg u:=fun x hx=>Rj (kO.1 h x hx)
theorem RQ{a i:Int}{l:List PWord}{n:Nat}(h:dz l=true):dz (bg a i (aL l) n)=true:=LA (by unfold dz at h;rw[aO]at h;exact h.2)
theorem PL(a i:Int):∀u:TUnit,Rg u→∀n w,Rg (cQ a i u n w):=TUnit.ind fun u ih h n w=>by
 have hs:=h u (bq u);have key:∀r:List TUnit,(∀k,k∈r→k∈u.kids)→∀n w,(cE a i r n w).map pA=r.map pA∧∀k,k∈cE a i r n w→Rg k:=by
  intro r;induction r with
  |nil=>intro _ n w;rw[qE];simp_all
  |cons k r ihr=>
   intro hm n w;obtain⟨a1,a2⟩:=ihr (fun x hx=>hm x (eQ _ hx)) (n+nU k) (w+(dM k).length);rw[cE];refine⟨by rw[dl,dl,a1,od];rfl,fun x hx=>?_⟩;grind[qP]
 obtain⟨k1,k2⟩:=key u.kids (fun _ h=>h) (n+1) (w+u.head.length+u.words.length);have kl:(cE a i u.kids (n+1) (w+u.head.length+u.words.length)).length=u.kids.length:=by simpa using congrArg List.length k1
 rw[od];refine Cp ⟨?_,fun k hk=>?_,by show((cE ..).map pA).Nodup;grind[cases Lc]⟩ k2
 ·have z:=hs.al;unfold ec at z ⊢;simp only[aO]at z ⊢;obtain⟨z1,z2,z3,z4,z5,z6⟩:=z;refine⟨z1,z2,by show az (ao 64 (Int.ofNat (cE ..).length))=true;simp_all,RQ z4,RQ z5,?_⟩;show(bif ak u.kind 0 then dL u.label []&&(ak (.ofNat (bg a i (aL u.head) w).length) 0&&ak (.ofNat (bg a i (aL u.words) (w+u.head.length)).length) 0)else fS u.label)=true
  grind[fX,fO]
 ·have hm:pA k∈u.kids.map pA:=k1▸yD hk;obtain⟨z,z1,z2⟩:=fE.1 hm;have e:z.kind=k.kind:=congrArg Prod.fst z2;show fh u.kind k.kind=true
  grind[cases Lc]
def PP(a i:Int)(n k:Nat):List PId:=(List.range' n k).map fun j=>⟨a,i,Int.ofNat j⟩
theorem K7(a i:Int)(n k m:Nat):PP a i n k++PP a i (n+k) m=PP a i n (k+m):=by grind[PP,List.range'_append_1]
theorem RZ(a i:Int):∀(l:List aE)(n:Nat),(bg a i l n).map sy=PP a i n l.length
 |[],n=>rfl
 |s::r,n=>by
  rw[bg,dl,RZ a i r (n+1)];unfold PP;rw[cM,yE,dl];rfl
theorem T7(a i:Int):∀(u:TUnit)(n w:Nat),fl pm (cQ a i u n w)=PP a i w (dM u).length:=TUnit.ind fun u ih n w=>by
 have key:∀r:List TUnit,(∀k,k∈r→k∈u.kids)→∀n w,ym pm (cE a i r n w)=PP a i w (fj r).length:=by
  intro r;induction r with
  |nil=>intro _ n w;rw[qE,lg,EI];rfl
  |cons k r ihr=>grind[cE,l0,dU,K7]
 rw[od,ng,vb,eZ];unfold fc pm fc;show((bg a i (aL u.head) w++bg a i (aL u.words) (w+u.head.length)).map sy)++ym pm (cE a i u.kids (n+1) (w+u.head.length+u.words.length))=_
 simp_all[RZ,fO,K7,Nat.add_assoc]
theorem Xg(a i:Int)(n k:Nat):(PP a i n k).Nodup:=by
 unfold PP;exact List.Pairwise.map _ (fun x y hne e=>hne (Int.ofNat.inj (congrArg PId.n e))) List.nodup_range'
theorem UQ{a i:Int}{n k:Nat}{p:PId}(h:p∈PP a i n k):p.a=a∧p.i=i:=by
 obtain⟨j,_,rfl⟩:=fE.1 h;simp_all
variable{u v x:TUnit}{q:PId}{f:TUnit→TUnit}{a i:Int}
theorem MX{α:Type}{g:TUnit→List α}(hg:∀u ks,g (iU u ks)=g u)(hu:OkB u)(hv:v∈bW u){j:Nat}(hj:j<v.kids.length):(fl g u).Perm (fl g (bG (ah v) (dg j) u)++fl g (gD v.kids j)):=by
 obtain⟨v',C,h1,h2,h3,h4⟩:=DE (g:=g) hg u (md hv);obtain rfl:=hu.uni h1 hv h2;refine(h3.trans ((Yg hg hj).append_left C)).trans ?_;rw[←ia];exact(h4 (dg j)).symm.append_right _
theorem VI{α:Type}{g:TUnit→List α}(hg:∀u ks,g (iU u ks)=g u){j:Nat}(h:b7 q u=true):(fl g (bG q (cV j x) u)).Perm (fl g u++fl g x):=by
 obtain⟨v,C,h1,h2,h3,h4⟩:=DE (g:=g) hg u h;refine(h4 (cV j x)).trans (((Yf hg).append_left C).trans ?_);rw[←ia];exact h3.symm.append_right _
theorem Ls{j:Nat}(h:(fl pm u++fl pm x).Nodup):XK (bG q (cV j x) u):=by
 cases hq:b7 q u with
 |false=>rw[pK u hq];exact(tC.1 h).1
 |true=>exact(VI uo hq).nodup_iff.2 h
structure Tm(u:TUnit)(a i:Int)(v:TUnit):Prop where
 kd:v.kind=u.kind
 rg:Rg u→Rg v
 mn:XK u→NoM a i u→XK v
theorem Tm.refl:Tm u a i u:=⟨rfl,id,fun h _=>h⟩
theorem mP(h:∀v,(f v).kind=v.kind)(u:TUnit):(bG q f u).kind=u.kind:=by
 cases hi:fI q u with
 |true=>grind[jN]
 |false=>rw[iQ hi];rfl
theorem Ac(hu:OkB u)(hr:Rg u)(hx:x∈bW u)(hp:gP (ah x) u=true):x.kind≠0:=by
 obtain⟨q,i,h1,_,_,h4,h5⟩:=om u hp;have hk:=hu.uni (eD h1 (bX (fp h4) (bq _))) hx h5;have:=(hr q h1).ne _ (fp h4);grind[Q0]
theorem FT(hu:OkB u)(hx:x∈bW u)(hp:gP (ah x) u=true){l:List PWord}(hv:dz x.words=true→dz l=true)(hn:(x.words.map sy).Nodup→(∀w,w∈x.words→¬(w.act=a∧w.item=i))→(l.map sy).Nodup)(hm:∀w,w∈l→w∈x.words∨(w.act=a∧w.item=i)):Tm u a i (bG (ah x) (fy l) u):=by
 refine⟨mP (f:=fy l) (fun _=>rfl) u,fun hr=>?_,fun h ha=>?_⟩
 ·refine tI u hr (fun v hv' hid=>?_) fun p k hp' hk _=>⟨rfl,.inl rfl⟩
  obtain rfl:=hu.uni hv' hx hid;have ha:=(hr v hx).al;have hw:dz v.words=true:=by simp_all[ec]
  exact JZ (f:=fy l) (vH hr hx) rfl rfl (Ie ha (Ac hu hr hx hp) (hv hw)).1
 ·refine Ef h ha fun v hv' hid C hC hCa=>?_
  obtain rfl:=hu.uni hv' hx hid;have e:fl pm v=v.head.map sy++v.words.map sy++ym pm v.kids:=by grind[ng,pm,fc]
  refine Q3 (hn ?_ fun w hw=>?_) hm hC hCa
  ·grind
  ·exact hCa (sy w) (wt _ (by grind))
theorem TT(hu:OkB u)(hx:x∈bW u)(hp:gP (ah x) u=true){l:List aE}(hl:kX l=true):Tm u a i (bG (ah x) (kn (bg a i l 0)) u):=by
 refine⟨mP (f:=kn _) (fun _=>rfl) u,fun hr=>?_,fun h ha=>?_⟩
 ·refine tI u hr (fun v hv' hid=>?_) fun p k hp' hk _=>⟨rfl,.inl rfl⟩
  obtain rfl:=hu.uni hv' hx hid;exact JZ (f:=kn _) (vH hr hx) rfl rfl (Ie (hr v hx).al (Ac hu hr hx hp) (LA hl)).2
 ·exact Ef h ha fun v _ _ C hC hCa=>UR (AQ ..) (fun w hw=>mO hw) hC hCa
theorem SQ{s:aE}:fl pm (f9 s v)=fl pm v:=by rw[ng,ng v];rfl
theorem Ps(hu:OkB u)(hx:x∈bW u)(hp:gP (ah x) u=true){s:aE}(hs:fS s=true)(ht:lJ (dZ (rQ (ah x) u) u) (f9 s x)≠10):Tm u a i (bG (ah x) (f9 s) u):=by
 refine⟨mP (f:=f9 s) (fun _=>rfl) u,fun hr=>?_,fun h ha=>?_⟩
 ·obtain⟨q,i,h1,h2,_,h4,h5⟩:=om u hp;have hkx:=hu.uni (eD h1 (bX (fp h4) (bq _))) hx h5;have hfq:dZ (rQ (ah x) u) u=q:=by
   obtain⟨f1,f2⟩:=py (md h1);rw[h2];exact hu.uni f1 h1 f2
  rw[hfq]at ht;have hno:∀d,d∈q.kids→pA d≠pA (f9 s x):=fun d hd e=>by
   refine ht ?_;unfold lJ;rw[zN,show(f9 s x).kind=x.kind from rfl,←hkx,(hr q h1).ne _ (fp h4),cond_true,List.any_eq_true.2 ⟨d,hd,hkx▸sT.2 e⟩];rfl
  refine tI u hr (fun v hv' hid=>?_) fun p k hp' hk hid=>?_
  ·obtain rfl:=hu.uni hv' hx hid;exact JZ (f:=f9 s) (vH hr hx) rfl rfl (Te (hr v hx).al (Ac hu hr hx hp) hs)
  ·obtain rfl:=hu.uni (eD hp' (Er hk)) hx hid;obtain rfl:=Ur hu.nd hp' h1 hk (fp h4) h5.symm;exact⟨rfl,.inr hno⟩
 grind[Ef,SQ]
theorem Pt(hu:OkB u)(hv:v∈bW u){j:Nat}(hj:j<v.kids.length):Tm u a i (bG (ah v) (dg j) u):=⟨mP (f:=dg j) (fun _=>rfl) u,fun hr=>tI u hr (fun z hz _=>Xs (vH hr hz)) fun p k _ _ _=>⟨rfl,.inl rfl⟩,fun h _=>(tC.1 ((MX uo hu hv hj).nodup_iff.1 h)).1⟩
theorem Lv(hu:OkB u)(hr:Rg u)(hx:Rg x){j:Nat}(hl:(dZ q u).kids.length<64)(ht:lJ (dZ q u) x=0):Rg (bG q (cV j x) u):=by
 refine tI u hr (fun v hv hid=>?_) fun p k _ _ _=>⟨rfl,.inl rfl⟩
 obtain⟨f1,f2⟩:=py (show b7 q u=true by grind[md]);obtain rfl:=hu.uni f1 hv (f2.trans hid.symm);grind[Xr,vH,T2]
theorem Xa(hu:OkB u){x0:TUnit}{j:Nat}(hx:Rg x0)(hl:(dZ q u).kids.length<64)(ht:lJ (dZ q u) (cQ a i x0 0 0)=0):Tm u a i (bG q (cV j (cQ a i x0 0 0)) u):=⟨mP (f:=cV j _) (fun _=>rfl) u,fun hr=>Lv hu hr (PL a i x0 hx 0 0) hl ht,fun h ha=>Ls (by rw[T7];exact tC.2 ⟨h,Xg ..,fun p hp r hr e=>ha p hp (e▸UQ hr)⟩)⟩
theorem Xy{r:TUnit}(hu:OkB u)(hv:v∈bW u){j k:Nat}(hj:j<v.kids.length)(hr:r=bG (ah v) (dg j) u)(ho:OkB r)(hl:Rg u→(dZ q r).kids.length<64)(ht:lJ (dZ q r) (gD v.kids j)=0):Tm u a i (bG q (cV k (gD v.kids j)) r):=by
 have h1:Tm u a i r:=hr▸Pt hu hv hj;refine⟨(mP (f:=cV k _) (fun _=>rfl) r).trans h1.kd,fun h=>?_,fun h _=>?_⟩
 ·grind[Lv,vH,eD,bX,fp,bq,cases Tm]
 ·exact Ls (by rw[hr];exact(MX uo hu hv hj).nodup_iff.1 h)
theorem Y4{b:Bool}(h:az b=false):b=true:=by simp_all
theorem UM{r:TUnit}(hu:OkB u)(hv:v∈bW u){j:Nat}(hj:j<v.kids.length)(hr:r=bG (ah v) (dg j) u)(ho:OkB r){was:PId}(hw:was=ah v){b:Bool}(h:((az (aT q was)&&az (ao (Int.ofNat (dZ q r).kids.length) 64))||b)=false)(hg:Rg u):(dZ q r).kids.length<64:=by
 rw[wC,Bool.and_eq_false_iff]at h;rcases h.1 with h|h
 ·have e:=n6 (Y4 h);obtain⟨z,z1,z2,z3⟩:=FH (q:=ah v) (f:=dg j) u (md hv);obtain rfl:=hu.uni z1 hv z2;rw[←hr]at z3;obtain⟨f1,f2⟩:=py (show b7 q r=true by rw[e,hw];show b7 (ah (dg j z)) r=true;grind[md]);rw[ho.uni f1 z3 (f2.trans (e.trans hw))];have h1:=Kk (hg z hv).al;show(z.kids.eraseIdx j).length<64
  grind
 ·have z:=ae (Y4 h);grind
theorem aa4{S T:Int→Int→Prop}(h:vg S T u)(hs:¬S a i):NoM a i u:=fun p hp e=>by
 obtain⟨x,hx,h1⟩:=List.mem_flatMap.1 hp;obtain⟨w,w1,rfl⟩:=fE.1 h1;have z:=(h x hx).1 w w1;rw[show w.act=a from e.1,show w.item=i from e.2]at z;simp_all
theorem Eg{S T S' T':Int→Int→Prop}(h:vg S T u)(h1:∀a i,S a i→S' a i)(h2:∀a i,T a i→T' a i):vg S' T' u:=fun x hx=>⟨fun w hw=>h1 _ _ ((h x hx).1 w hw),(h x hx).2.imp id (h2 _ _)⟩
def pd:List PId→List (PId×Bool)→Bool
 |[],_=>true
 |p::r,m=>az (Al aT p m)&&pd r (eW aT p true m)
theorem Lh:∀{l:List PId}{m:List (PId×Bool)},l.Nodup→(∀p,p∈l→Al aT p m=false)→pd l m=true
 |[],m,_,_=>rfl
 |p::r,m,h,h2=>by
  rw[tD]at h;rw[pd,h2 p (eG ..),Lh h.2 fun z hz=>?_]; · rfl
  rw[EB (fun a b=>n6) lw,h2 z (eQ _ hz),Bool.or_false];cases q:aT z p with
  |false=>rfl
  |true=>grind[n6]
theorem zF:∀{l done:List PId},(done++l).Nodup→mp done l=true
 |[],done,_=>rfl
 |p::r,done,h=>by
  have h0:(done.any fun q=>aT q p)=false:=by grind[n6]
  rw[mp,h0,zF (by simp_all)];rfl
end Go.Ev
