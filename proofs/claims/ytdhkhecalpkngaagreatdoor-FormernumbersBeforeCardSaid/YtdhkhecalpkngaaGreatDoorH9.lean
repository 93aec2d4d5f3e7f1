/- Functions walked: what each of them answers, for If an address denotes exactly one unit on the book before an item reference, LastHolder returns that unit, and every unit that LastHolder returns is among the Holders: part 9. Conditions: those that each theorem names. -/
import Derived.Test.YtdhkhecalpkngaaGreatDoorH8
namespace Go.Proofs.YtdhkhecalpkngaaGreatDoor
open Go Go.Ev
theorem XO{day:Int}{p:bZ}{gs:List PGaz}{d:PDeed}(h:d∈lq day p gs):mK d.it.kind=true:=(ni.1 (BG.1 h).2).1
theorem G5{K V:Type}{keq:K->K->Bool}{k:K}{v:V}:∀{l:List (K×V)},j8 keq k l=some v->∃e,e∈l/\keq k e.1=true
  |[],h=>by cases h
  | (j,u)::r,h=>by
    rw[j8]at h
    cases q:keq k j with
    |true=>exact⟨(j,u),e9 ..,q⟩
    | false=>
      rw[q]at h
      obtain⟨e,h1,h2⟩:=G5 (l:=r) h
      exact⟨e,fQ _ h1,h2⟩
theorem H8{out:List PId}{x y:PId}(h:y∈out\/y=x):y∈xM out x:=by
  cases q:gi out x with
  | true=>
    rw[JI q]
    rcases h with h|rfl
    · exact h
    · unfold gi at q
      cases w:j8 bK y (di out)with
      |none=>rw[w]at q;cases q
      | some v=>
        obtain⟨e,e1,e2⟩:=G5 w
        obtain⟨z,z1,rfl⟩:=jf.1 e1
        have:=uG e2
        subst this;exact z1
  | false=>
    rw[EN q]
    rcases h with h|rfl
    · exact FZ _ h
    · exact FQ _ (qX.2 rfl)
theorem pt:∀(W out:List PId)(y:PId),y∈out\/y∈W->y∈af out W
  | [],_,y,h=>by
    rcases h with h|h
    · exact h
    · cases h
  | x::r,out,y,h=>by
    rw[mV]
    refine pt r _ y ?_
    rcases h with h|h
    · exact .inl (H8 (.inl h))
    · rcases fk.1 h with h|h
      · exact .inl (H8 (.inr h))
      · exact .inr h
theorem Tp{u:TUnit}{p:List PStep}(h:ae (ab u p).2 0=true):(ab u p).1∈bh u p:=by
  have h:=iR h
  unfold bh
  cases q:dl u p with
  |nil=>rw[xw q]at h;cases h
  | cons x r=>
    cases r with
    |nil=>rw[xk q];exact e9 ..
    |cons y t=>rw[xj q]at h;cases h
theorem K9{p:List PStep}{s:PId×Bool}{u:TUnit}{out:List PId}(h:s.2=true->s.1∈out)(h2:(nb p s u).2=true):(nb p s u).1∈af out (bh u p):=by
  cases e:ae (ab u p).2 0 with
  |true=>rw[EW e];exact pt _ _ _ (.inr (Tp e))
  |false=>rw[I8 e]at h2 ⊢;exact pt _ _ _ (.inl (h h2))
theorem QJ(p:List PStep):∀(Y:List PDeed)(u:TUnit)(s:PId×Bool)(out:List PId),(s.2=true->s.1∈out)->(zL p Y u s).2=true->(zL p Y u s).1∈qL p Y u out
  |[],_,_,_,h,h2=>h h2
  |d::r,u,s,out,h,h2=>QJ p r (bi u d).1 _ _ (fun q=>K9 h q) h2
theorem Gc(p:List PStep):∀(Y:List PDeed)(u:TUnit)(s:PId×Bool),(∀d,d∈Y->mK d.it.kind=true)->ae (ab (dC u Y) p).2 0=true->zL p Y u (nb p s u)=((ab (dC u Y) p).1,true)
  |[],u,s,_,h=>EW h
  | d::r,u,s,ha,h=>by
    have e:qw u d=(bi u d).1:=by unfold qw;rw[ha d (e9 ..)];rfl
    rw[dC,e]at h ⊢
    exact Gc p r (bi u d).1 _ (fun x hx=>ha x (fQ _ hx)) h
theorem GS(p:List PStep):∀(Y:List PDeed)(u:TUnit)(out:List PId)(x:PId),x∈out->x∈qL p Y u out
  |[],_,_,_,h=>h
  |d::r,u,out,x,h=>GS p r _ _ x (pt _ _ _ (.inl h))
theorem GR(p:List PStep):∀(Y:List PDeed)(m:Nat)(u:TUnit)(out:List PId)(x:PId),x∈qL p (Y.take m) u out->x∈qL p Y u out
  |[],m,_,_,_,h=>by rw[List.take_nil]at h;exact h
  |d::r,0,u,out,x,h=>GS p (d::r) u out x h
  |d::r,m+1,u,out,x,h=>GR p r m _ _ x h
section
variable(p:List PStep)(hp:p.length<2^40/\∀s,s∈p->s.label.length<=2^39)
include hp
theorem Zi{u:TUnit}(hu:OkB u):kP 39 [eU u,.ls (p.map aY)] (.ls ((bh u p).map aJ)):=
  C2 u p (dl u p) (Ll u p (bO hu.n (by omega)) hp.1 hp.2) (tJ p (bO hu.n (by omega)))
omit hp in
theorem yy{u:TUnit}(hu:OkB u):(bh u p).length<=4194304:=by
  unfold bh
  rw[lM]
  exact tJ p (bO hu.n (by omega))
end
theorem Lb(p:List PStep):∀(Y:List PDeed)(u:TUnit)(out:List PId),OkB u->(∀d,d∈Y->ta d.it/\mK d.it.kind=true)->(qL p Y u out).length<=out.length+4194304*Y.length
  |[],_,_,_,_=>ah _
  | d::r,u,out,hu,ho=>by
    obtain⟨q1,q2⟩:=ho d (e9 ..)
    have h1:=(dt ⟨hu,q1,q2⟩).2
    have ih:=Lb p r (bi u d).1 (af out (bh (bi u d).1 p)) h1 fun x hx=>ho x (fQ _ hx)
    have:=(jG (bh (bi u d).1 p) out).2
    have:=yy p h1
    rw[lC,qL];omega
theorem SY{gs:List PGaz}(ok:OkG gs)(day:Int)(f:bZ)(a i:Int):∃m,kP 15 [iV day,.str f,lE a i,.ls (gs.map am)] (eU (dC oR ((lq day f gs).take m)))/\kP 42 [.ls ((lq day f gs).map aK),lE a i,.ls (gs.map am)] (.ls (((lq day f gs).take m).map aK)):=by
  obtain⟨hl,hi,ho⟩:=ok.force day f
  have hup:=Q3 day f gs
  have hr:=U7 gs day f _ ho
  have ha:=ok.all.1
  have hL:=ok.lens.1
  have hdist:∀b c,b∈eR gs->c∈eR gs->b.number=c.number->b=c:=fun b c h1 h2 e=>Oz h1 h2 e
  generalize lq day f gs=X at *
  generalize eR gs=L at *
  have hbk:∀m,kP 27 [.ls ((X.take m).map aK)] (.tuple [eU (dC oR (X.take m)),.ls ((fx oR (X.take m)).map gn)]):=fun m=>RD _ (by rw[tg];omega) fun d h=>hi d (qq h)
  cases h0:aB (cM (fun b=>ae b.number a) L 0) 0 with
  |true=>exact⟨0,rO gs day f a i _ (Tm gs day f _ a i oD (Pn gs L a i (by omega) ha (Qs h0))),Y7 gs L X a i ha (by omega) h0⟩
  | false=>
    obtain⟨k,k1,k2,k3⟩:=GM L 0 h0
    rw[fO]at k1
    have hm:gD L k∈L:=ig k2
    have hpl:=Pm gs L a i (gD L k).day (by omega) ha (fun b hb e=>by rw[hdist b _ hb hm (e.trans k3.symm)]) ⟨_,hm,k3⟩
    obtain⟨m,m1,m2,m3⟩:=RH (SU a i (gD L k).day) hup
    refine⟨m,?_⟩
    have hq1:=fun d=>Vy d 41 a i (gD L k).day (fun o=>aB o 0) VZ
    have hq2:=fun d=>XP a i (gD L k).day d
    have qA:∀j,j<m->aw (aB (rq (gD X j) a i (gD L k).day) 0)=false:=fun j hj=>by rw[m2 j hj];rfl
    have qB:∀j,m<=j->j<X.length->aw (aB (rq (gD X j) a i (gD L k).day) 0)=true:=fun j h1 h2=>by rw[m3 j h1 h2];rfl
    by_cases hX:X=[]
    · subst hX
      have hb:=hbk m
      rw[List.take_nil]at hb ⊢
      exact⟨rO gs day f a i _ (DO gs day f [] [] _ _ _ _ _ _ hr hpl (Vw _ a i _) hb),Y5 gs L a i k ha (by omega) k1 k2⟩
    · rcases eA m X.length with q|q
      · exact⟨rO gs day f a i _ (DO gs day f X (X.take m) _ _ _ _ _ _ hr hpl (Vv X _ a i _ m q hl (Dz X hX hl) (US X _ a i _ _ m hq1 q hl qA qB)) (hbk m)),
          Y6 gs L X a i k m ha (by omega) k1 k2 q hl (Dq X hX hl) (RB X a i _ _ m hq2 q hl qA qB)⟩
      · have e:X.take m=X:=yo q
        have qA:∀j,j<X.length->aw (aB (rq (gD X j) a i (gD L k).day) 0)=false:=fun j hj=>qA j (by omega)
        have hb:=hbk m
        rw[e]at hb ⊢
        exact⟨rO gs day f a i _ (DO gs day f X X _ _ _ _ _ _ hr hpl (Vk X _ a i _ hX hl (Dz X hX hl) (UP X _ a i _ _ hq1 hl qA)) hb),
          Y4 gs L X a i k ha (by omega) k1 k2 hl (Dq X hX hl) (RA X a i _ _ hq2 hl qA)⟩
theorem JC(gs:List PGaz)(day:Int)(f:bZ)(p:List PStep)(a i:Int)(hf:pF gs)(hs:f.length<2^47)(hp:p.length<2^60)(hl:∀s,s∈p->s.label.length<2^47)(haw:kP 7 [] (.bool true)):kP 4 [.ls (gs.map am),iV day,.str f,.ls (p.map aY),lE a i] (.bool true):=by
  have hw:=RV gs f p hf hp
  cases hb:C3 gs f p with
  |false=>rw[hb]at hw;exact Zb gs day f p a i haw hw
  | true=>
    rw[hb]at hw
    obtain⟨h1,hp1,hp2⟩:=Jy hb hs hl
    have ok:=(Wi (p:=[]) hf (by unfold Xy;rw[h1];rfl)).1
    have hp:=And.intro hp1 hp2
    obtain⟨m,hB,hA⟩:=SY ok day f a i
    obtain⟨l1,l2,ho⟩:=ok.force day f
    have l3:(lq day f gs).length<=7200:=bO (List.length_filter_le ..) ok.lens.2
    have hall:∀d,d∈lq day f gs->ta d.it/\mK d.it.kind=true:=fun d hd=>⟨l2 d hd,XO hd⟩
    generalize lq day f gs=X at *
    have hone:∀u,OkB u->kP 14 [eU u,.ls (p.map aY)] (.tuple [aJ (ab u p).1,iV (ab u p).2]):=fun u hu=>uz hu p hp
    have hfa:∀u,OkB u->kP 39 [eU u,.ls (p.map aY)] (.ls ((bh u p).map aJ)):=fun u hu=>Zi p hp hu
    have hY:∀d,d∈X.take m->ta d.it/\mK d.it.kind=true:=fun d hd=>hall d (qq hd)
    have hbk:OkB (dC oR (X.take m)):=HR rJ fun d hd=>(hY d hd).1
    obtain⟨s,es⟩:∃s,s=zL p (X.take m) oR (nb p (bN,false) oR):=⟨_,rfl⟩
    have hL:=UZ gs day f p a i X (X.take m) s ho hA (es▸S6 oR rJ oD p a i (X.take m) (bN,false) (by rw[tg];omega) hY hone)
    obtain⟨H,eH⟩:∃H,H=qL p X oR (af [] (bh oR p)):=⟨_,rfl⟩
    have hH:kP 13 [iV day,.str f,.ls (p.map aY),.ls (gs.map am)] (.ls (H.map aJ)):=by
      cases q:(bh oR p).isEmpty with
      |false=>exact QF gs day f p X H ho (WX oR rJ oD p X H l3 hall hfa (fun u hu=>yy p hu) q eH)
      | true=>
        have e0:af [] (bh oR p)=[]:=by rw[qU.1 q];rfl
        rw[e0]at eH
        by_cases hn:H=[]
        · rw[hn];rw[hn]at eH
          exact XW gs day f p X ho (WJ oR rJ oD p X l3 hall hfa q eH)
        · exact QF gs day f p X H ho (WW oR rJ oD p X H l3 hall hfa (fun u hu=>yy p hu) q eH hn)
    have hlen:H.length<2^40:=by
      have z:=Lb p X oR (af [] (bh oR p)) rJ hall
      have:=(jG (bh oR p) []).2
      have:=yy p rJ
      rw[<-eH]at z
      simp only[lN]at *
      omega
    have hin:s.2=true->H.any (fun x=>bK x s.1)=true:=fun q=>by
      have z:s.1∈H:=by
        rw[eH]
        refine GR p X m _ _ _ ?_
        rw[es]at q ⊢
        exact QJ p _ _ _ _ (fun w=>K9 (fun h=>by cases h) w) q
      exact List.any_eq_true.2 ⟨s.1,z,lz _⟩
    have h1:=hone _ hbk
    cases e:ae (ab (dC oR (X.take m)) p).2 0 with
    | true=>
      have z:=Gc p (X.take m) oR (bN,false) (fun d hd=>(hY d hd).2) e
      rw[<-es]at z
      rw[iR e]at h1
      have z2:s.2=true:=by rw[z]
      have z1:(ab (dC oR (X.take m)) p).1=s.1:=by rw[z]
      rw[z1]at h1
      rw[z2]at hL
      exact aas gs day f p a i _ s.1 H haw hw ⟨hB,h1,hL,hH,hlen⟩ (hin z2)
    | false=>
      cases q:s.2 with
      |true=>rw[q]at hL;exact aat gs day f p a i _ _ _ s.1 H haw hw ⟨hB,h1,hL,hH,hlen⟩ e (hin q)
      |false=>rw[q]at hL;exact aau gs day f p a i _ _ _ s.1 H haw hw ⟨hB,h1,hL,hH,hlen⟩ e
end Go.Proofs.YtdhkhecalpkngaaGreatDoor
