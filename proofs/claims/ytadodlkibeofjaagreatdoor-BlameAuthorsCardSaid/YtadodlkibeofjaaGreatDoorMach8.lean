/- An abstract machine for runs of the program, proved sound against the model: part 8. No conditions. -/
import Derived.Test.YtadodlkibeofjaaGreatDoorMach7
namespace Go.Ev
open Go
def Wn(P:PWord->Prop)(u v:TUnit):Prop:=∀x,x∈aT v->∀w,w∈bJ x->P w\/∃y,y∈aT u/\au y=au x/\w∈bJ y
section
variable{P:PWord->Prop}{u v x q r:TUnit}{p:PId}{f:TUnit->TUnit}{i j:Nat}{a c:Int}
theorem Wn.refl:Wn P u u:=fun x hx w hw=>.inr ⟨x,hx,rfl,hw⟩
theorem DO(hf:∀v,v∈aT u->au v=p->∀x,x∈aT (f v)->∀w,w∈bJ x->P w\/∃y,y∈aT u/\au y=au x/\w∈bJ y):Wn P u (bL p f u):=fun x hx w hw=>by
 cases h:be p u with
 |false=>rw[mH u h]at hx;exact .inr ⟨x,hx,rfl,hw⟩
 |true=>
  obtain⟨v,C,h1,h2,_,h4⟩:=mG u h;rcases(h4 f).2 x hx with hx|⟨y,y1,y2,_,y4,y5⟩
  ·exact hf v h1 h2 x hx w hw
  ·refine .inr ⟨y,y1,y2.symm,?_⟩;unfold bJ at hw ⊢;rwa[<-y4,<-y5]
theorem XU(hX:∀y,y∈aT x->∀w,w∈bJ y->P w\/∃z,z∈aT u/\au z=au y/\w∈bJ z):Wn P u (bL p (dQ j x) u):=DO fun v hv _ y hy w hw=>by
 rcases Ej hy with rfl|h|h
 ·exact .inr ⟨v,hv,rfl,hw⟩
 ·exact hX y h w hw
 ·exact .inr ⟨y,cn hv h,rfl,hw⟩
theorem yR:Wn P u (bL p (dg j) u):=DO fun v hv _ y hy w hw=>by
 rcases Ek hy with rfl|h
 ·exact .inr ⟨v,hv,rfl,hw⟩
 ·exact .inr ⟨y,cn hv h,rfl,hw⟩
theorem I6(hf:∀v,au (f v)=au v/\(f v).kids=v.kids)(hw:∀v,v∈aT u->au v=p->∀w,w∈bJ (f v)->P w\/w∈bJ v):Wn P u (bL p f u):=DO fun v hv hi y hy w hw'=>by
 rw[cq]at hy;rcases dO.1 hy with rfl|hy
 ·rcases hw v hv hi w hw' with h|h
  ·exact .inl h
  ·exact .inr ⟨v,hv,(hf v).1.symm,h⟩
 ·rw[(hf v).2]at hy;obtain⟨k,k1,k2⟩:=jQ hy;exact .inr ⟨y,cn hv (bq k1 k2),rfl,hw'⟩
theorem XY(hx:x∈aT u):Wn P u (bL p (dQ j x) (bL (au q) (dg i) u)):=fun y hy w hw=>by
 cases h:be p (bL (au q) (dg i) u)with
 |false=>rw[mH _ h]at hy;exact yR y hy w hw
 | true=>
  obtain⟨v,C,h1,h2,_,h4⟩:=mG _ h;rcases(h4 (dQ j x)).2 y hy with hy|⟨z,z1,z2,_,z4,z5⟩
  ·rcases Ej hy with rfl|h|h
   ·exact yR v h1 w hw
   ·exact .inr ⟨y,cn hx h,rfl,hw⟩
   ·exact yR y (cn h1 h) w hw
  ·have hw2:w∈bJ z:=by unfold bJ at hw ⊢;rwa[<-z4,<-z5]
   rcases yR z z1 w hw2 with h|⟨t,t1,t2,t3⟩
   ·exact .inl h
   ·exact .inr ⟨t,t1,t2.trans z2.symm,t3⟩
theorem FG(hu:OkB u)(hx:x∈aT u){l:List PWord}(hm:∀w,w∈l->w∈x.words\/P w):Wn P u (bL (au x) (lx l) u):=I6 (fun _=>⟨rfl,rfl⟩) fun v hv hi w hw=>by
 obtain rfl:=hu.uni hv hx hi;rcases fK.1 (show w∈v.head++l from hw)with h|h
 ·exact .inr (yE _ h)
 ·exact(hm w h).elim (fun h=>.inr (tg _ h)) .inl
theorem TC{l:List PWord}(hm:∀w,w∈l->P w):Wn P u (bL p (wW l) u):=I6 (fun _=>⟨rfl,rfl⟩) fun v _ _ w hw=>by
 rcases fK.1 (show w∈l++v.words from hw)with h|h
 ·exact .inl (hm w h)
 ·exact .inr (tg _ h)
theorem PC{s:aH}:Wn P u (bL p (nM s) u):=I6 (fun _=>⟨rfl,rfl⟩) fun _ _ _ _ hw=>.inr hw
end
def Tl(a i:Int)(w:PWord):Prop:=w.act=a/\w.item=i/\w.text.length<=2^39
section
variable{a i:Int}
theorem qG:∀{l:List aH}{n:Nat}{w:PWord},w∈ca a i l n->w.act=a/\w.item=i/\w.text∈l
 |s::r,n,w,h=>by
  rw[ca]at h;rcases dO.1 h with rfl|h
  ·simp_all
  ·obtain⟨h1,h2,h3⟩:=qG h;exact⟨h1,h2,eC _ h3⟩
theorem yx{g:Nat}{ps:List Nat}{fresh:List aH}{w:PWord}:∀{n:Nat}{l:List PWord},w∈r8 a i g ps fresh n l->w∈l\/(w.act=a/\w.item=i/\w.text∈fresh)
 |0,l,h=>.inl h
 |n+1,l,h=>by
  rw[r8]at h;rcases yx h with h|h
  all_goals grind[fO,qG]
theorem Qf{l:List PWord}{old new:List aH}{n:Int}{w:PWord}(h:w∈(zi a i l old new n).1):w∈l\/(w.act=a/\w.item=i/\w.text∈new):=by
 unfold zi at h;cases q1:ay (Int.ofNat old.length) 0<;>rw[q1]at h
 ·cases q2:ay (Int.ofNat (m7 (sT (bC l) old) n).length) 0<;>rw[q2]at h
  ·exact yx (zn h)
  ·grind
 ·grind
theorem U9{l:List PWord}{part new:List aH}{n:Int}{w:PWord}(h:w∈(Ai a i l part new n).1):w∈l\/(w.act=a/\w.item=i/\w.text∈new):=by
 unfold Ai at h;cases q1:(ay (Int.ofNat new.length) 0||(ay (Int.ofNat part.length) 0&&ax (ay n 0)))<;>rw[q1]at h
 ·cases q2:ay (Int.ofNat part.length) 0<;>rw[q2]at h
  ·cases q3:ay (Int.ofNat (m7 (sT (bC l) part) n).length) 0<;>rw[q3]at h
   ·exact yx (zn h)
   ·grind
  ·exact yx (zn h)
 ·grind
mutual
theorem F7:∀(u:TUnit)(n w:Nat)(x:TUnit),x∈aT (cV a i u n w)->∀y,y∈bJ x->y.act=a/\y.item=i/\∃z,z∈aT u/\y.text∈bC (bJ z)
 | ⟨a',i',n',k,l,h,ws,ks⟩,n,w,x,hx,y,hy=>by
  rw[cV,aT]at hx;rcases dO.1 hx with rfl|hx
  ·have hy:y∈ca a i (bC h) w++ca a i (bC ws) (w+h.length):=hy;have hs:∀s,s∈bC h\/s∈bC ws->s∈bC (bJ ⟨a',i',n',k,l,h,ws,ks⟩):=fun s q=>by
    show s∈(h++ws).map _
    rw[oJ,fK];exact q
   rcases fK.1 hy with q|q
   ·obtain⟨e1,e2,e3⟩:=qG q;exact⟨e1,e2,_,ch _,hs _ (.inl e3)⟩
   ·obtain⟨e1,e2,e3⟩:=qG q;exact⟨e1,e2,_,ch _,hs _ (.inr e3)⟩
  ·obtain⟨e1,e2,z,e3,e4⟩:=Co ks _ _ x hx y hy;exact⟨e1,e2,z,by rw[cq];exact eC _ e3,e4⟩
theorem Co:∀(l:List TUnit)(n w:Nat)(x:TUnit),x∈cA (eb a i l n w)->∀y,y∈bJ x->y.act=a/\y.item=i/\∃z,z∈cA l/\y.text∈bC (bJ z)
 |[],n,w,x,hx,y,hy=>by rw[eb,cA]at hx;cases hx
 |k::r,n,w,x,hx,y,hy=>by
  rw[eb,cA]at hx;rcases fK.1 hx with hx|hx
  ·obtain⟨e1,e2,z,e3,e4⟩:=F7 k _ _ x hx y hy;exact⟨e1,e2,z,by rw[bY];exact yE _ e3,e4⟩
  ·obtain⟨e1,e2,z,e3,e4⟩:=Co r _ _ x hx y hy;exact⟨e1,e2,z,by rw[bY];exact tg _ e3,e4⟩
end
theorem Jo{l:List aH}(hl:∀s,s∈l->s.length<=2^39){w:PWord}(h:w.act=a/\w.item=i/\w.text∈l):Tl a i w:=⟨h.1,h.2.1,hl _ h.2.2⟩
theorem N7{X:TUnit}{n m:Nat}(hX:∀z,z∈aT X->∀w,w∈bJ z->w.text.length<=2^39){u:TUnit}:∀y,y∈aT (cV a i X n m)->∀w,w∈bJ y->Tl a i w\/∃z,z∈aT u/\au z=au y/\w∈bJ z:=fun y hy w hw=>by
 obtain⟨e1,e2,z,e3,e4⟩:=F7 X n m y hy w hw;obtain⟨t,t1,t2⟩:=gn.1 e4;exact .inl ⟨e1,e2,t2▸hX z e3 t t1⟩
end
end Go.Ev
