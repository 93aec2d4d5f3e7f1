/- An abstract machine for runs of the program, proved sound against the model: part 7. No conditions. -/
import Derived.Test.YtempcdhknnjebaaGreatDoorMach6
import Derived.Laws.Externs
import Derived.Lib.Join
import Derived.Lib.Repeat
namespace Go.Ev
open Go
section
variable {a i : Int} {l r x : List aO} {s : aO} {m : List PWord} {j n k : Nat}
theorem sJ (h1:l.drop j=x) (h2:x=s::r) (h3:s::r=l):1 = [(⟨s,a,i, .ofNat (n+j)⟩:PWord)].length∧0 < [(⟨s,a,i, .ofNat (n+j)⟩:PWord)].length∧ [(⟨s,a,i, .ofNat (n+j)⟩:PWord)]++cp a i r (n + [(⟨s,a,i, .ofNat (n+j)⟩:PWord)].length)=cp a i l n∧ [(⟨s,a,i, .ofNat (n+j)⟩:PWord)].length+r.length=l.length:=by
 have e:=congrArg List.length (h1.trans h2);have e2:=congrArg List.length h3;simp only [xD,cN] at e e2;have:j=0:=by omega
 subst this;refine ⟨rfl,Nat.one_pos,?_,by grind⟩;rw [← h3,cp];rfl
theorem uT (h1:l.drop j=x) (h2:x=s::r) (h:k=m.length∧0<m.length∧m++cp a i (s::r) (n+m.length)=cp a i l n∧m.length+(s::r).length=l.length) :
  k+1=(m++ [(⟨s,a,i, .ofNat (n+j)⟩:PWord)]).length∧0<(m++ [(⟨s,a,i, .ofNat (n+j)⟩:PWord)]).length∧(m++ [(⟨s,a,i, .ofNat (n+j)⟩:PWord)])++cp a i r (n+(m++ [(⟨s,a,i, .ofNat (n+j)⟩:PWord)]).length)=cp a i l n∧(m++ [(⟨s,a,i, .ofNat (n+j)⟩:PWord)]).length+r.length=l.length:=by
 have e:=congrArg List.length (h1.trans h2);obtain ⟨q1,q2,q3,q4⟩:=h;simp only [xD,cN] at e q4;have:j=m.length:=by omega
 subst this;simp only [dT,cN,gc];refine ⟨by omega,by omega,?_,by omega⟩;rw [← q3,cp,pF];rfl
end
theorem gh (l:List PWord):(bM l).length=l.length:=b8 ..
structure StampI (a i:Int) (ks:List TUnit) (n0 w0:Nat) (k n w:Nat) (m:List TUnit):Prop where
 len:m.length=k
 le:k≤ks.length
 all:m++e9 a i (ks.drop k) n w=e9 a i ks n0 w0
 num:n+eQ (ks.drop k)=n0+eQ ks
 wd:w+(ke (ks.drop k)).length=w0+(ke ks).length
theorem StampI.start (a i:Int) (ks:List TUnit) (n0 w0:Nat):StampI a i ks n0 w0 0 n0 w0 []:=⟨rfl,bE _,rfl,rfl,rfl⟩
theorem StampI.step {a i:Int} {ks:List TUnit} {n0 w0 k n w:Nat} {m:List TUnit} (h:StampI a i ks n0 w0 k n w m) (hk:k<ks.length) :
  StampI a i ks n0 w0 (k+1) (n+nU (gD ks k)) (w+(mT (gD ks k)).length) (m++ [cO a i (gD ks k) n w]):=by
 have e:=xo hk;obtain ⟨h1,h2,h3,h4,h5⟩:=h;rw [e,CG] at h3;rw [e,ba] at h4;rw [e,sg,dT] at h5;exact ⟨by simp_all,hk,by simp_all,by omega,by omega⟩
theorem StampI.done {a i:Int} {ks:List TUnit} {n0 w0 k n w:Nat} {m:List TUnit} (h:StampI a i ks n0 w0 k n w m) (hk : ¬ k<ks.length):m=e9 a i ks n0 w0∧n=n0+eQ ks∧w=w0+(ke ks).length:=by grind [Eu,l8,Cp,cases StampI]
theorem VG {α:Type} [Inhabited α] {m r:List α} {k:Nat} (h:m.length=k):gD (m++r) k=gD r 0:=by grind [gD]
theorem Tq {α:Type} [Inhabited α] {l:List α} {k:Nat} : gD (l.drop k) 0=gD l k:=by simp_all [gD]
theorem RN {α:Type} {m r:List α} {k:Nat} {x y:α} (h:m.length=k):(m++x::r).set k y=(m++ [y])++r:=by simp_all
def gX (a i:Int) (ks:List TUnit) (n0 w0 k n w:Nat) (L:List TUnit):Prop:=∃ m,L=m++ks.drop k∧StampI a i ks n0 w0 k n w m
section
variable {a i : Int} {ks L : List TUnit} {n0 w0 k n w : Nat}
theorem gX.start (a i:Int) (ks:List TUnit) (n0 w0:Nat):gX a i ks n0 w0 0 n0 w0 ks:=⟨[],rfl,StampI.start ..⟩
theorem gX.len (h:gX a i ks n0 w0 k n w L):L.length=ks.length:=by
 obtain ⟨m,rfl,hI⟩:=h;grind [cases StampI]
theorem gX.at_ (h:gX a i ks n0 w0 k n w L):gD L k=gD ks k:=by
 obtain ⟨m,rfl,hI⟩:=h;rw [VG hI.len,Tq]
theorem gX.step (h:gX a i ks n0 w0 k n w L) (hk:k<ks.length):gX a i ks n0 w0 (k+1) (n+nU (gD L k)) (w+(mT (gD L k)).length) (L.set k (cO a i (gD L k) n w)):=by
 rw [h.at_];obtain ⟨m,rfl,hI⟩:=h;exact ⟨m++ [cO a i (gD ks k) n w],by rw [xo hk,RN hI.len],hI.step hk⟩
theorem gX.num (h:gX a i ks n0 w0 k n w L):n+eQ (ks.drop k)=n0+eQ ks∧w+(ke (ks.drop k)).length=w0+(ke ks).length:=by
 obtain ⟨m,rfl,hI⟩:=h;grind [cases StampI]
theorem gX.done (h:gX a i ks n0 w0 k n w L) (hk : ¬ k<ks.length):L=e9 a i ks n0 w0∧n=n0+eQ ks∧w=w0+(ke ks).length:=by
 obtain ⟨m,rfl,hI⟩:=h;rw [AP (by omega),ed];exact hI.done hk
theorem gX.room (h:gX a i ks n0 w0 k n w L) (hk:k<ks.length):n+nU (gD L k)≤n0+eQ ks∧w+(mT (gD L k)).length≤w0+(ke ks).length:=by
 have h1:=h.num;rw [h.at_];grind [xo,ba,sg]
end
end Go.Ev
namespace Go.Ev
open Go
section
variable {α : Type}
structure TotB (lt:α→α→Bool):Prop where
 trans : ∀ x y z,lt y x=false→lt z y=false→lt z x=false
 asym : ∀ x y,lt x y=true→lt y x=false
variable {lt : α → α → Bool}
theorem TotB.down (T:TotB lt) {x y z:α} (h1:lt z y=false) (h2:lt z x=true):lt y x=true:=by
 cases h:lt y x with
 | true=>rfl
 | false=>grind [cases TotB]
theorem TotB.up (T:TotB lt) {x y z:α} (h1:lt x y=true) (h2:lt z y=false):lt x z=true:=by
 cases h:lt x z with
 | true=>rfl
 | false=>grind [cases TotB]
end
section
variable {α : Type} [Inhabited α] {lt : α → α → Bool} {l x y z w : List α} {a b m n i j k s e p d : Nat}
theorem vK (h:l.length≤i):gD l i=default:=by grind [gD]
theorem VE {v:α} (h:i<l.length):gD (l.set i v) k=if k=i then v else gD l k:=by
 unfold gD;grind
theorem qA (hi:i<l.length) (hj:j<l.length):((l.set i (gD l j)).set j (gD l i)).Perm l:=by grind [gD,List.set_set_perm]
theorem xY (hi:i<l.length) (hj:j<l.length) (q:Nat):gD ((l.set i (gD l j)).set j (gD l i)) q=if q=j then gD l i else if q=i then gD l j else gD l q:=by grind [VE]
def dg (lt:α→α→Bool) (l:List α) (a b:Nat):Prop:=∀ i j,a≤i→i<j→j<b→lt (gD l j) (gD l i)=false
structure SSeg (lt:α→α→Bool) (l x:List α) (a b:Nat):Prop where
 perm:x.Perm l
 out : ∀ i,i<a∨b≤i→gD x i=gD l i
 src : ∀ i,a≤i→i<b→∃ j,a≤j∧j<b∧gD x i=gD l j
 srt:dg lt x a b
theorem SSeg.len (h:SSeg lt l x a b):x.length=l.length:=h.perm.length_eq
theorem mj (h:dg lt l a b):SSeg lt l l a b:=⟨.refl _,fun _ _=>rfl,fun i h1 h2=>⟨i,h1,h2,rfl⟩,h⟩
theorem SSeg.cast {p q:Nat} (h:SSeg lt l x p q) (hp:p=a) (hq:q=b):SSeg lt l x a b:=by simp_all
theorem dg.nil (h:b≤a+1):dg lt l a b:=fun i j _ _ _=>by omega
theorem dg.sub (h:dg lt l a b) (h1:a≤i) (h2:j≤b):dg lt l i j:=fun p q e1 e2 e3=>h p q (by omega) e2 (by omega)
theorem dg.le (T:TotB lt) (h:dg lt l a b) (h1:a≤i) (h2:i≤j) (h3:j<b):lt (gD l j) (gD l i)=false:=by
 rcases fV i j with q | q
 ·exact h i j h1 q h3
 grind [cases TotB]
structure InsI (lt:α→α→Bool) (l x:List α) (a i j:Nat):Prop where
 perm:x.Perm l
 out : ∀ q,q<a∨i+1≤q→gD x q=gD l q
 src : ∀ q,a≤q→q<i+1→∃ p,a≤p∧p<i+1∧gD x q=gD l p
 mid : ∀ p q,a≤p→p<q→q≤i→q≠j→lt (gD x q) (gD x p)=false
theorem InsI.start (h:SSeg lt l x a (min i b)) (h1:i<b):InsI lt l x a i i:=by
 rw [show min i b=i by omega] at h;refine ⟨h.perm,fun q hq=>h.out q (by omega),fun q h1 h2=>?_,fun p q h1 h2 h3 h4=>h.srt p q h1 h2 (by omega)⟩;grind [cases SSeg]
theorem InsI.step (T:TotB lt) (h:InsI lt l x a i j) (hi:i<l.length) (h1:a<j) (h2:j≤i) (hk:k+1=j) (hl:lt (gD x j) (gD x k)=true):InsI lt l ((x.set j (gD x k)).set k (gD x j)) a i k:=by
 have hx:x.length=l.length:=h.perm.length_eq;have hj:j<x.length:=by omega
 have hkx:k<x.length:=by omega
 have g:=xY hj hkx;refine ⟨(qA hj hkx).trans h.perm,fun q hq=>?_,fun q q1 q2=>?_,fun p q h3 h4 h5 h6=>?_⟩
 ·rw [g,if_neg (by omega),if_neg (by omega)];exact h.out q hq
 ·rw [g];split
  ·grind [cases InsI]
  ·split
   ·grind [cases InsI]
   ·exact h.src q q1 q2
 ·rw [g,g];rw [if_neg (show ¬ q=k by omega)];by_cases c1:q=j
  ·rw [if_pos c1];by_cases c2:p=k
   ·rw [if_pos c2];exact T.asym _ _ hl
   ·grind [cases InsI]
  ·rw [if_neg c1];by_cases c2:p=k
   ·grind [cases InsI]
   ·rw [if_neg c2];by_cases c3:p=j
    ·grind [cases InsI]
    ·rw [if_neg c3];exact h.mid p q h3 h4 h5 c1
theorem InsI.stop (T:TotB lt) (h:InsI lt l x a i j) (ha:a≤j) (h2:j≤i) (hb:i<b) (hs:s=i+1) (hl:j=a∨∃ k,k+1=j∧lt (gD x j) (gD x k)=false):SSeg lt l x a (min s b):=by
 rw [show min s b=i+1 by omega];refine ⟨h.perm,h.out,h.src,fun p q h3 h4 h5=>?_⟩;grind [cases TotB,cases InsI]
theorem L2 (hab:a≤b):SSeg lt l l a (min (a+1) b):=mj (dg.nil (by omega))
theorem Ph (h:SSeg lt l x a (min i b)) (hi:b≤i):SSeg lt l x a b:=by simp_all
def sw (a b m i:Nat):Nat:=if a≤i∧i<a+m then i - a+b else if b≤i∧i<b+m then i - b+a else i
structure SwP (l x:List α) (a b m:Nat):Prop where
 perm:x.Perm l
 at_ : ∀ i,i<l.length→gD x i=gD l (sw a b m i)
theorem SwP.len (h:SwP l x a b m):x.length=l.length:=h.perm.length_eq
theorem SwP.start:SwP l l a b 0:=⟨.refl _,fun i _=>by simp_all [sw,if_neg]⟩
theorem SwP.step (h:SwP l x a b k) (hk:k<m) (ha:a+m≤b) (hb:b+m≤l.length) (hi:i=a+k) (hj:j=b+k) (hs:s=k+1):SwP l ((x.set i (gD x j)).set j (gD x i)) a b s:=by
 subst hi hj hs;have hx:x.length=l.length:=h.perm.length_eq;have h1:a+k<x.length:=by omega
 have h2:b+k<x.length:=by omega
 refine ⟨(qA h1 h2).trans h.perm,fun q hq=>?_⟩;rw [xY h1 h2];by_cases c1:q=b+k
 ·rw [if_pos c1,h.at_ _ (by omega)];congr 1;unfold sw;grind
 ·rw [if_neg c1];by_cases c2:q=a+k
  ·rw [if_pos c2,h.at_ _ (by omega)];congr 1;unfold sw;grind
  ·rw [if_neg c2,h.at_ _ (by omega)];congr 1;unfold sw;grind
theorem SwP.done (h:SwP l x a b k) (hk:k=m):SwP l x a b m:=hk ▸ h
def ro (a m b i:Nat):Nat:=if a≤i∧i<a+(b - m) then i - a+m else if a+(b - m)≤i∧i<b then i - (b - m) else i
structure RoP (l x:List α) (a m b:Nat):Prop where
 perm:x.Perm l
 at_ : ∀ q,q<l.length→gD x q=gD l (ro a m b q)
theorem RoP.len (h:RoP l x a m b):x.length=l.length:=h.perm.length_eq
theorem RoP.cast {p q r:Nat} (h:RoP l x p q r) (hp:p=a) (hq:q=m) (hr:r=b):RoP l x a m b:=by simp_all
structure RoI (l x:List α) (a m b i j:Nat):Prop where
 perm:x.Perm l
 i0:0<i
 j0:0<j
 im:i≤m
 jn:m+j≤l.length
 at_ : ∀ q,q<l.length→gD x (ro (m - i) m (m+j) q)=gD l (ro a m b q)
theorem RoI.len (h:RoI l x a m b i j):x.length=l.length:=h.perm.length_eq
theorem RoI.start (ha:a<m) (hm:m<b) (hb:b≤l.length) (hi:i=m - a) (hj:j=b - m):RoI l l a m b i j:=by
 subst hi hj;refine ⟨.refl _,by omega,by omega,by omega,by omega,fun q _=>?_⟩;grind
theorem Ux (ham:a≤m) (hmb:m≤b) (hb:b≤n) (hi:i<n):ro a m b i<n:=by grind [ro]
theorem RoI.left {p q r:Nat} (h:RoI l x a m b i j) (hs:SwP x y p q r) (hp:p=m - i) (hq:q=m) (hr:r=j) (hij:j<i) (hk:k=i - j):RoI l y a m b k j:=by
 subst hk;subst hp;have hq:=hq.symm;subst hq;have hr:=hr.symm;subst hr;have hi:=h.im;have hj:=h.jn;have h0:=h.j0;refine ⟨hs.perm.trans h.perm,by omega,h0,by omega,hj,fun q hq=>?_⟩;rw [hs.at_ _ (by rw [h.len];simp_all [Ux]),← h.at_ q hq];congr 1;unfold sw ro;grind
theorem RoI.right {p q r:Nat} (h:RoI l x a m b i j) (hs:SwP x y p q r) (hp:p=m - i) (hq:q=m+j - i) (hr:r=i) (hij:i<j) (hk:k=j - i):RoI l y a m b i k:=by
 subst hk;subst hp;have hq:=hq.symm;subst hq;have hr:=hr.symm;subst hr;have hi:=h.im;have hj:=h.jn;have h0:=h.i0;refine ⟨hs.perm.trans h.perm,h0,by omega,hi,by omega,fun q hq=>?_⟩;rw [hs.at_ _ (by rw [h.len];exact Ux (by omega) (by omega) (by omega) hq),← h.at_ q hq];congr 1;unfold sw ro;by_cases c1:m - i≤q∧q<m - i+(m+(j - i) - m)
 ·grind
 ·rw [if_neg c1];by_cases c2:m - i+(m+(j - i) - m)≤q∧q<m+(j - i)
  ·grind
  ·rw [if_neg c2];grind
theorem RoI.stop {p q r:Nat} (h:RoI l x a m b i j) (hs:SwP x y p q r) (hp:p=m - i) (hq:q=m) (hr:r=i) (hij:i=j):RoP l y a m b:=by
 subst hij;subst hp;have hq:=hq.symm;subst hq;have hr:=hr.symm;subst hr;have hi:=h.im;have hj:=h.jn;refine ⟨hs.perm.trans h.perm,fun q hq=>?_⟩;rw [hs.at_ _ (by rw [h.len];omega),← h.at_ q hq];congr 1;unfold sw ro;grind
theorem RoP.none (h:m≤a∨b≤m) (ham:a≤m) (hmb:m≤b):RoP l l a m b:=⟨.refl _,fun q _=>by
 congr 1;unfold ro;grind⟩
structure FstI (lt:α→α→Bool) (l:List α) (a m b i j:Nat):Prop where
 mi:m≤i
 ij:i≤j
 jb:j≤b
 lo : ∀ q,m≤q→q<i→lt (gD l q) (gD l a)=true
 hi : ∀ q,j≤q→q<b→lt (gD l q) (gD l a)=false
theorem FstI.start (h:m≤b):FstI lt l a m b m b:=⟨by omega,by omega,by omega,fun q _ _=>by omega,fun q _ _=>by omega⟩
theorem FstI.more (T:TotB lt) (h:FstI lt l a m b i j) (hs:dg lt l m b) (hl:lt (gD l k) (gD l a)=true) (h1:i≤k) (h2:k<j) (hk:e=k+1):FstI lt l a m b e j:=by
 subst hk;have:=h.mi;have:=h.jb;refine ⟨by omega,by omega,h.jb,fun q q1 q2=>?_,h.hi⟩;exact T.down (hs.le T q1 (by omega) (by omega)) hl
theorem FstI.less (T:TotB lt) (h:FstI lt l a m b i j) (hs:dg lt l m b) (hl:lt (gD l k) (gD l a)=false) (h1:i≤k) (h2:k<j):FstI lt l a m b i k:=by
 have:=h.mi;have:=h.jb;refine ⟨h.mi,by omega,by omega,h.lo,fun q q1 q2=>?_⟩;exact T.trans _ _ _ hl (hs.le T (by omega) q1 q2)
structure UpI (l x:List α) (a k:Nat):Prop where
 perm:x.Perm l
 at_ : ∀ q,q<l.length→gD x q=gD l (if a≤q∧q<k then q+1 else if q=k then a else q)
theorem UpI.len (h:UpI l x a k):x.length=l.length:=h.perm.length_eq
theorem UpI.start:UpI l l a a:=⟨.refl _,fun q _=>by grind⟩
theorem UpI.step (h:UpI l x a k) (hk:a≤k) (hn:k+1<l.length) (he:e=k+1):UpI l ((x.set k (gD x e)).set e (gD x k)) a e:=by
 subst he;have hx:=h.len;have h1:k<x.length:=by omega
 have h2:k+1<x.length:=by omega
 refine ⟨(qA h1 h2).trans h.perm,fun q hq=>?_⟩;rw [xY h1 h2];by_cases c1:q=k+1
 ·rw [if_pos c1,h.at_ _ (by omega),if_neg (by omega),if_pos rfl,if_neg (by omega),if_pos c1]
 ·rw [if_neg c1];by_cases c2:q=k
  ·rw [if_pos c2,h.at_ _ (by omega),if_neg (by omega),if_neg (by omega),if_pos (by omega),c2]
  ·rw [if_neg c2,h.at_ _ hq];grind
theorem UpI.stop (T:TotB lt) (h:UpI l x a k) (hf:FstI lt l a m b i j) (hs:dg lt l m b) (hma:m=a+1) (hij:j≤i) (hk:k+1=i) (hb:b≤l.length):SSeg lt l x a b:=by
 have q1:=hf.mi;have q2:=hf.ij;have q3:=hf.jb;refine ⟨h.perm,fun q hq=>?_,fun q h1 h2=>?_,fun p q h1 h2 h3=>?_⟩
 ·rcases fV q l.length with c | c
  ·rw [h.at_ q c,if_neg (by omega),if_neg (by omega)]
  ·rw [vK (by rw [h.len];omega),vK c]
 ·rw [h.at_ q (by omega)];grind
 ·rw [h.at_ p (by omega),h.at_ q (by omega)];by_cases c1:p<k
  ·rw [if_pos (show a≤p∧p<k by omega)];by_cases c2:q<k
   ·rw [if_pos (show a≤q∧q<k by omega)];exact hs _ _ (by omega) (by omega) (by omega)
   ·rw [if_neg (show ¬ (a≤q∧q<k) by omega)];by_cases c3:q=k
    ·grind [cases TotB,cases FstI]
    ·grind [cases TotB,cases FstI]
  ·rw [if_neg (show ¬ (a≤p∧p<k) by omega),if_neg (show ¬ (a≤q∧q<k) by omega),if_neg (show ¬ q=k by omega)];by_cases c3:p=k
   ·rw [if_pos c3];exact hf.hi _ (by omega) (by omega)
   ·rw [if_neg c3];exact hs _ _ (by omega) (by omega) (by omega)
structure LstI (lt:α→α→Bool) (l:List α) (a m i j:Nat):Prop where
 ai:a≤i
 ij:i≤j
 jm:j≤m
 lo : ∀ q,a≤q→q<i→lt (gD l m) (gD l q)=false
 hi : ∀ q,j≤q→q<m→lt (gD l m) (gD l q)=true
theorem LstI.start (h:a≤m):LstI lt l a m a m:=⟨by omega,by omega,by omega,fun q _ _=>by omega,fun q _ _=>by omega⟩
theorem LstI.more (T:TotB lt) (h:LstI lt l a m i j) (hs:dg lt l a m) (hl:lt (gD l m) (gD l k)=false) (h1:i≤k) (h2:k<j) (hk:e=k+1):LstI lt l a m e j:=by
 subst hk;have:=h.ai;have:=h.jm;refine ⟨by omega,by omega,h.jm,fun q q1 q2=>?_,h.hi⟩;exact T.trans _ _ _ (hs.le T q1 (by omega) (by omega)) hl
theorem LstI.less (T:TotB lt) (h:LstI lt l a m i j) (hs:dg lt l a m) (hl:lt (gD l m) (gD l k)=true) (h1:i≤k) (h2:k<j):LstI lt l a m i k:=by
 have:=h.ai;have:=h.jm;refine ⟨h.ai,by omega,by omega,h.lo,fun q q1 q2=>?_⟩;exact T.up hl (hs.le T (by omega) q1 q2)
structure DnI (l x:List α) (m k:Nat):Prop where
 perm:x.Perm l
 at_ : ∀ q,q<l.length→gD x q=gD l (if k<q∧q≤m then q - 1 else if q=k then m else q)
theorem DnI.len (h:DnI l x m k):x.length=l.length:=h.perm.length_eq
theorem DnI.start:DnI l l m m:=⟨.refl _,fun q _=>by grind⟩
theorem DnI.step (h:DnI l x m k) (hk:k≤m) (hn:m<l.length) (he:e+1=k):DnI l ((x.set k (gD x e)).set e (gD x k)) m e:=by
 subst he;have hx:=h.len;have h1:e+1<x.length:=by omega
 have h2:e<x.length:=by omega
 refine ⟨(qA h1 h2).trans h.perm,fun q hq=>?_⟩;rw [xY h1 h2];by_cases c1:q=e
 ·rw [if_pos c1,h.at_ _ (by omega),if_neg (by omega),if_pos rfl,if_neg (by omega),if_pos c1]
 ·rw [if_neg c1];by_cases c2:q=e+1
  ·rw [if_pos c2,h.at_ _ (by omega),if_neg (by omega),if_neg (by omega),if_pos (by omega)];simp_all
  ·rw [if_neg c2,h.at_ _ hq];grind
theorem DnI.stop (T:TotB lt) (h:DnI l x m k) (hf:LstI lt l a m i j) (hs:dg lt l a m) (hmb:b=m+1) (hij:j≤i) (hk:k=i) (hb:b≤l.length):SSeg lt l x a b:=by
 have q1:=hf.ai;have q2:=hf.ij;have q3:=hf.jm;refine ⟨h.perm,fun q hq=>?_,fun q h1 h2=>?_,fun p q h1 h2 h3=>?_⟩
 ·rcases fV q l.length with c | c
  ·rw [h.at_ q c,if_neg (by omega),if_neg (by omega)]
  ·rw [vK (by rw [h.len];omega),vK c]
 ·rw [h.at_ q (by omega)];grind
 ·rw [h.at_ p (by omega),h.at_ q (by omega)];by_cases c1:q≤k
  ·rw [if_neg (show ¬ (k<q∧q≤m) by omega),if_neg (show ¬ (k<p∧p≤m) by omega),if_neg (show ¬ p=k by omega)];by_cases c3:q=k
   ·rw [if_pos c3];exact hf.lo _ h1 (by omega)
   ·rw [if_neg c3];exact hs _ _ h1 h2 (by omega)
  ·rw [if_pos (show k<q∧q≤m by omega)];by_cases c2:k<p
   ·rw [if_pos (show k<p∧p≤m by omega)];exact hs _ _ (by omega) (by omega) (by omega)
   ·rw [if_neg (show ¬ (k<p∧p≤m) by omega)];by_cases c3:p=k
    ·grind [cases TotB,cases LstI]
    ·rw [if_neg c3];exact hs _ _ h1 (by omega) (by omega)
structure CutI (lt:α→α→Bool) (l:List α) (lo hi p i j:Nat):Prop where
 li:lo≤i
 ij:i≤j
 jh:j≤hi
 low : ∀ c,lo≤c→c<i→lt (gD l (p - c)) (gD l c)=false
 high : ∀ c,j≤c→c<hi→lt (gD l (p - c)) (gD l c)=true
variable {lo hi : Nat}
theorem CutI.start (h:lo≤hi):CutI lt l lo hi p lo hi:=⟨by omega,by omega,by omega,fun q _ _=>by omega,fun q _ _=>by omega⟩
theorem CutI.more (T:TotB lt) (h:CutI lt l lo hi p i j) (hA:dg lt l a m) (hB:dg lt l m b) (hl:lt (gD l s) (gD l k)=false) (b1:a≤lo) (b2:hi≤m) (b3:m+hi≤p+1) (b4:p<b+lo) (h1:i≤k) (h2:k<j) (hk:e=k+1) (hs:s=p - k):CutI lt l lo hi p e j:=by
 subst hk hs;have:=h.li;have:=h.jh;refine ⟨by omega,by omega,h.jh,fun c c1 c2=>?_,h.high⟩;exact T.trans _ _ _ (hA.le T (i:=c) (j:=k) (by omega) (by omega) (by omega)) (T.trans _ _ _ hl (hB.le T (i:=p - k) (j:=p - c) (by omega) (by omega) (by omega)))
theorem CutI.less (T:TotB lt) (h:CutI lt l lo hi p i j) (hA:dg lt l a m) (hB:dg lt l m b) (hl:lt (gD l s) (gD l k)=true) (b1:a≤lo) (b2:hi≤m) (b3:m+hi≤p+1) (b4:p<b+lo) (h1:i≤k) (h2:k<j) (hs:s=p - k):CutI lt l lo hi p i k:=by
 subst hs;have:=h.li;have:=h.jh;refine ⟨h.li,by omega,by omega,h.low,fun c c1 c2=>?_⟩;exact T.down (hB.le T (i:=p - c) (j:=p - k) (by omega) (by omega) (by omega)) (T.up hl (hA.le T (i:=k) (j:=c) (by omega) (by omega) (by omega)))
theorem MH (T:TotB lt) (h:CutI lt l lo hi p s s) (hA:dg lt l a m) (hB:dg lt l m b) (hr:RoP l y s m e) (hab:b≤l.length)
  (d1:d+m=p+1) (e1:e+s=p+1) (f1:a≤s) (f2:s≤m) (f3:m≤e) (f4:e≤b) (f5:lo<s∨s=a∨e=b) (f6:s<hi∨s=m∨e=m) :
  ∀ i j,a≤i→i<d→d≤j→j<b→lt (gD y j) (gD y i)=false:=by
 intro i j h1 h2 h3 h4;rw [hr.at_ i (by omega),hr.at_ j (by omega)];unfold ro;by_cases c1:i<s
 ·rw [if_neg (show ¬ (s≤i∧i<s+(e - m)) by omega),if_neg (show ¬ (s+(e - m)≤i∧i<e) by omega)];rw [if_neg (show ¬ (s≤j∧j<s+(e - m)) by omega)];by_cases c2:j<e
  ·rw [if_pos (show s+(e - m)≤j∧j<e by omega)];exact hA.le T h1 (by omega) (by omega)
  ·rw [if_neg (show ¬ (s+(e - m)≤j∧j<e) by omega)];have hc:=h.low (s - 1) (by omega) (by omega);rw [show p - (s - 1)=e by omega] at hc;exact T.trans _ _ _ (hA.le T (i:=i) (j:=s - 1) h1 (by omega) (by omega)) (T.trans _ _ _ hc (hB.le T (i:=e) (j:=j) (by omega) (by omega) h4))
 ·rw [if_pos (show s≤i∧i<s+(e - m) by omega),if_neg (show ¬ (s≤j∧j<s+(e - m)) by omega)];by_cases c2:j<e
  ·rw [if_pos (show s+(e - m)≤j∧j<e by omega)];have hc:=h.high s (by omega) (by omega);rw [show p - s=e - 1 by omega] at hc;refine T.asym _ _ (T.up (T.down (hB.le T (i:=i - s+m) (j:=e - 1) (by omega) (by omega) (by omega)) hc) (hA.le T (i:=s) (j:=j - (e - m)) (by omega) (by omega) (by omega)))
  ·rw [if_neg (show ¬ (s+(e - m)≤j∧j<e) by omega)];exact hB.le T (by omega) (by omega) h4
theorem RoP.left (hr:RoP l y s m e) (hA:dg lt l a m) (f2:s≤m) (f3:m≤e) (f4:e≤l.length):dg lt y a s:=fun i j h1 h2 h3=>by
 rw [hr.at_ i (by omega),hr.at_ j (by omega)];unfold ro;rw [if_neg (by omega),if_neg (by omega),if_neg (by omega),if_neg (by omega)];exact hA i j h1 h2 (by omega)
theorem RoP.mid1 (hr:RoP l y s m e) (hB:dg lt l m b) (f3:m≤e) (f4:e≤b) (f2:s≤m) (hb:b≤l.length) (hd:d=s+(e - m)):dg lt y s d:=fun i j h1 h2 h3=>by
 rw [hr.at_ i (by omega),hr.at_ j (by omega)];unfold ro;rw [if_pos (by omega),if_pos (by omega)];exact hB _ _ (by omega) (by omega) (by omega)
theorem RoP.mid2 (hr:RoP l y s m e) (hA:dg lt l a m) (f1:a≤s) (f2:s≤m) (f3:m≤e) (f4:e≤l.length) (hd:d=s+(e - m)):dg lt y d e:=fun i j h1 h2 h3=>by
 rw [hr.at_ i (by omega),hr.at_ j (by omega)];unfold ro;rw [if_neg (by omega),if_pos (by omega),if_neg (by omega),if_pos (by omega)];exact hA _ _ (by omega) (by omega) (by omega)
theorem RoP.right (hr:RoP l y s m e) (hB:dg lt l m b) (f2:s≤m) (f3:m≤e) (hb:b≤l.length):dg lt y e b:=fun i j h1 h2 h3=>by
 rw [hr.at_ i (by omega),hr.at_ j (by omega)];unfold ro;rw [if_neg (by omega),if_neg (by omega),if_neg (by omega),if_neg (by omega)];exact hB i j (by omega) h2 h3
theorem RoP.lower (hr:RoP l y s m e) (hA:dg lt l a m) (hB:dg lt l m b) (hd:d+m=s+e) (h:s≤a∨d≤s) (f1:a≤s) (f2:s≤m) (f3:m≤e) (f4:e≤b) (hb:b≤l.length):dg lt y a d:=by
 rcases h with h | h
 ·have:=hr.mid1 hB f3 f4 f2 hb (d:=d) (by omega);grind
 ·have:=hr.left hA f2 f3 (by omega);grind
theorem RoP.upper (hr:RoP l y s m e) (hA:dg lt l a m) (hB:dg lt l m b) (hd:d+m=s+e) (h:b≤e∨e≤d) (f1:a≤s) (f2:s≤m) (f3:m≤e) (f4:e≤b) (hb:b≤l.length):dg lt y d b:=by
 rcases h with h | h
 ·have:=hr.mid2 hA f1 f2 f3 (by omega) (d:=d) (by omega);grind
 ·have:=hr.right hB f2 f3 hb;grind
theorem VB (hr:RoP l y s m e) (hz:SSeg lt y z a d) (hw:SSeg lt z w d b) (had:a≤d) (hdb:d≤b) (hb:b≤l.length) (f1:a≤s) (f2:s≤m) (f3:m≤e) (f4:e≤b)
  (hx : ∀ i j,a≤i→i<d→d≤j→j<b→lt (gD y j) (gD y i)=false):SSeg lt l w a b:=by
 have hro : ∀ q,a≤q→q<b→a≤ro s m e q∧ro s m e q<b:=fun q h1 h2=>by grind [ro]
 have hy : ∀ q,q<a∨b≤q→gD y q=gD l q:=fun q hq=>by
  rcases fV q l.length with c | c
  ·rw [hr.at_ q c];congr 1;unfold ro;grind
  ·rw [vK (by rw [hr.len];omega),vK c]
 refine ⟨hw.perm.trans (hz.perm.trans hr.perm),fun q hq=>?_,fun q h1 h2=>?_,fun i j h1 h2 h3=>?_⟩
 ·grind [cases SSeg]
 ·rcases fV q d with c | c
  ·obtain ⟨j,j1,j2,j3⟩:=hz.src q h1 c;have:=hro j j1 (by omega);exact ⟨_,this.1,this.2,by rw [hw.out q (.inl c),j3,hr.at_ j (by omega)]⟩
  ·obtain ⟨j,j1,j2,j3⟩:=hw.src q c h2;have:=hro j (by omega) j2;exact ⟨_,this.1,this.2,by rw [j3,hz.out j (.inr j1),hr.at_ j (by omega)]⟩
 ·rcases fV j d with c | c
  ·rw [hw.out i (.inl (by omega)),hw.out j (.inl c)];exact hz.srt i j h1 h2 c
  ·rcases fV i d with c2 | c2
   ·obtain ⟨i',i1,i2,i3⟩:=hz.src i h1 c2;obtain ⟨j',j1,j2,j3⟩:=hw.src j c h3;rw [hw.out i (.inl c2),i3,j3,hz.out j' (.inr j1)];simp_all
   ·exact hw.srt i j c2 h2 h3
theorem uS (T:TotB lt) (h:CutI lt l lo hi p i s) (hA:dg lt l a m) (hB:dg lt l m b) (hr:RoP l y i m e) (hz:SSeg lt y z a d) (hw:SSeg lt z w d b) (his:s≤i) (hd:d+m=p+1) (he:e+i=p+1) (had:a≤d) (hdb:d≤b) (hb:b≤l.length) (f1:a≤i) (f2:i≤m) (f3:m≤e) (f4:e≤b) (f5:lo<i∨i=a∨e=b) (f6:i<hi∨i=m∨e=m):SSeg lt l w a b:=by
 have:i=s:=Nat.le_antisymm h.ij his;grind [VB,MH]
theorem SSeg.keep (h:SSeg lt l x a b) (hs:dg lt l i j) (hd:j≤a∨b≤i):dg lt x i j:=fun p q h1 h2 h3=>by rw [h.out p (by omega),h.out q (by omega)];exact hs p q h1 h2 h3
def Ny (lt:α→α→Bool) (x:List α) (s n:Nat):Prop:=∀ c,dg lt x (c * s) (min ((c+1) * s) n)
theorem rW {t c d:Nat} (h:a=d * t):(c+1) * t≤a∨c=d∨a+t≤c * t:=by
 subst h;rcases Nat.lt_trichotomy c d with q | q | q
 ·exact .inl (ef _ q)
 ·omega
 ·refine .inr (.inr ?_);have:=ef t q;grind
structure BlkA (lt:α→α→Bool) (l x:List α) (s a:Nat):Prop where
 perm:x.Perm l
 dv : ∃ c,a=c * s
 ok : ∀ c,dg lt x (c * s) (min ((c+1) * s) a)
theorem BlkA.len (h:BlkA lt l x s a):x.length=l.length:=h.perm.length_eq
theorem BlkA.start:BlkA lt l l s 0:=⟨.refl _,⟨0,by omega⟩,fun c=>dg.nil (by omega)⟩
theorem BlkA.step (h:BlkA lt l x s a) (hy:SSeg lt x y a b) (hb:b=a+s):BlkA lt l y s b:=by
 obtain ⟨d,hd⟩:=h.dv;subst hb;refine ⟨hy.perm.trans h.perm,⟨d+1,by grind⟩,fun c=>?_⟩;rcases rW (c:=c) hd with q | q | q
 ·have:=h.ok c;rw [show min ((c+1) * s) a=(c+1) * s by omega] at this;rw [show min ((c+1) * s) (a+s)=(c+1) * s by omega];exact hy.keep this (.inl q)
 all_goals grind [dg.nil,cases SSeg]
theorem BlkA.last (h:BlkA lt l x s a) (hy:SSeg lt x y a n) (hn:n<a+s) (ha:a≤n):y.Perm l∧Ny lt y s n:=by
 obtain ⟨d,hd⟩:=h.dv;refine ⟨hy.perm.trans h.perm,fun c=>?_⟩;rcases rW (c:=c) hd with q | q | q
 ·have:=h.ok c;rw [show min ((c+1) * s) a=(c+1) * s by omega] at this;rw [show min ((c+1) * s) n=(c+1) * s by omega];exact hy.keep this (.inl q)
 all_goals grind [dg.nil,cases SSeg]
structure BlkB (lt:α→α→Bool) (l x:List α) (s a n:Nat):Prop where
 perm:x.Perm l
 dv : ∃ c,a=c * (2 * s)
 ok : ∀ c,dg lt x (c * (2 * s)) (min ((c+1) * (2 * s)) a)
 rest : ∀ c,a≤c * s→dg lt x (c * s) (min ((c+1) * s) n)
theorem BlkB.len (h:BlkB lt l x s a n):x.length=l.length:=h.perm.length_eq
theorem BlkB.start (h:x.Perm l∧Ny lt x s n):BlkB lt l x s 0 n:=⟨h.1,⟨0,by omega⟩,fun c=>dg.nil (by omega),fun c _=>h.2 c⟩
theorem BlkB.pre1 (h:BlkB lt l x s a n) (hm:m=a+s) (hn:m≤n):dg lt x a m:=by
 obtain ⟨d,hd⟩:=h.dv;have e:a=(d * 2) * s:=by grind
 have:=h.rest (d * 2) (by omega);grind
theorem BlkB.pre2 (h:BlkB lt l x s a n) (hm:m=a+s) (hb:b≤m+s) (hn:b≤n):dg lt x m b:=by
 obtain ⟨d,hd⟩:=h.dv;have e:a=(d * 2) * s:=by grind
 have e2:m=(d * 2+1) * s:=by grind
 have:=h.rest (d * 2+1) (by omega);rw [← e2,pE,← e2] at this;exact this.sub (af _) (by omega)
theorem BlkB.step (h:BlkB lt l x s a n) (hy:SSeg lt x y a b) (hb:b=a+2 * s):BlkB lt l y s b n:=by
 obtain ⟨d,hd⟩:=h.dv;subst hb;refine ⟨hy.perm.trans h.perm,⟨d+1,by grind⟩,fun c=>?_,fun c hc=>hy.keep (h.rest c (by omega)) (.inr hc)⟩;rcases rW (c:=c) hd with q | q | q
 ·have:=h.ok c;rw [show min ((c+1) * (2 * s)) a=(c+1) * (2 * s) by omega] at this;rw [show min ((c+1) * (2 * s)) (a+2 * s)=(c+1) * (2 * s) by omega];exact hy.keep this (.inl q)
 all_goals grind [dg.nil,cases SSeg]
theorem BlkB.last (h:BlkB lt l x s a n) (hy:SSeg lt x y a n) (hn:n<a+2 * s) (ht:d=2 * s) (ha:a≤n):y.Perm l∧Ny lt y d n:=by
 subst ht;obtain ⟨d,hd⟩:=h.dv;refine ⟨hy.perm.trans h.perm,fun c=>?_⟩;rcases rW (c:=c) hd with q | q | q
 ·have:=h.ok c;rw [show min ((c+1) * (2 * s)) a=(c+1) * (2 * s) by omega] at this;rw [show min ((c+1) * (2 * s)) n=(c+1) * (2 * s) by omega];exact hy.keep this (.inl q)
 all_goals grind [dg.nil,cases SSeg]
theorem BlkB.one (h:BlkB lt l x s a n) (hn:n≤a+s):SSeg lt x x a n:=by
 obtain ⟨d,hd⟩:=h.dv;have e:a=(d * 2) * s:=by grind
 have:=h.rest (d * 2) (by omega);simp_all [pE,mj]
theorem Ny.all (h:Ny lt x s n) (hn:n≤s):dg lt x 0 n:=by
 have:=h 0;simp_all
theorem dg.pair : ∀ {x:List α},dg lt x 0 x.length→x.Pairwise fun u v=>lt v u=false
 | [],_=> .nil
 | u::r,h=>kx.2 ⟨fun v hv=>by
   obtain ⟨i,hi,rfl⟩:=Ez hv;have:=h 0 (i+1) (by omega) (by omega) (by simp_all);have e:gD (u::r) (i+1)=r[i]:=by grind [gD]
   rw [e] at this;exact this,dg.pair fun i j _ h2 h3=>h (i+1) (j+1) (by omega) (by omega) (by simp_all)⟩
end
section
variable {α : Type} {lt : α → α → Bool}
theorem Bo : ∀ {x y:List α},x.Pairwise (fun u v=>lt v u=false)→y.Pairwise (fun u v=>lt v u=false)→x.Perm y→(∀ u v,u∈x→v∈x→lt u v=false→lt v u=false→u=v)→x=y
 | [],y,_,_,hp,_=>hp.nil_eq
 | u::r, [],_,_,hp,_=>by simp_all
 | u::r,v::t,hx,hy,hp,H=>by
  obtain ⟨x1,x2⟩:=kx.1 hx;obtain ⟨y1,y2⟩:=kx.1 hy;have hv:v∈u::r:=hp.mem_iff.2 (fG ..);have hu:u∈v::t:=hp.mem_iff.1 (fG ..);have e:u=v:=by grind
  subst e;rw [Bo x2 y2 ((List.perm_cons u).1 hp) fun a b ha hb=>H a b (fy _ ha) (fy _ hb)]
def Dk (lt:α→α→Bool) (a:α):List α→List α
 | []=> [a]
 | b::r=>match lt b a with | true=>b::Dk lt a r | false=>a::b::r
def OZ (lt:α→α→Bool) (l:List α):List α:=l.foldl (fun o a=>Dk lt a o) []
theorem vX (a:α) : ∀ (l:List α),(Dk lt a l).Perm (a::l)
 | []=> .refl _
 | b::r=>by
  unfold Dk;cases lt b a with
  | true=>exact ((vX a r).cons b).trans (.swap a b r)
  | false=>simp_all
theorem BS (T:TotB lt) (a:α) : ∀ {l:List α},l.Pairwise (fun u v=>lt v u=false)→(Dk lt a l).Pairwise (fun u v=>lt v u=false)
 | [],_=>List.pairwise_singleton ..
 | b::r,h=>by
  obtain ⟨h1,h2⟩:=kx.1 h;unfold Dk;cases q:lt b a with
  | true=>
   refine kx.2 ⟨fun v hv=>?_,BS T a h2⟩;grind [vX,cases TotB]
  | false=>
   refine kx.2 ⟨fun v hv=>?_,h⟩;grind [cases TotB]
theorem sL (T:TotB lt) : ∀ (l o:List α),o.Pairwise (fun u v=>lt v u=false)→((l.foldl (fun o a=>Dk lt a o) o).Perm (o++l)∧(l.foldl (fun o a=>Dk lt a o) o).Pairwise fun u v=>lt v u=false)
 | [],o,h=>⟨by simp_all,h⟩
 | a::r,o,h=>by
  obtain ⟨h1,h2⟩:=sL T r (Dk lt a o) (BS T a h);refine ⟨h1.trans ?_,h2⟩;exact ((vX a o).append_right r).trans (List.perm_middle.symm)
theorem yx (T:TotB lt) (l:List α):(OZ lt l).Perm l:=(sL T l [] .nil).1
theorem OQ (T:TotB lt) {l x:List α} (hp:x.Perm l) (hs:x.Pairwise fun u v=>lt v u=false) (H : ∀ u v,u∈l→v∈l→lt u v=false→lt v u=false→u=v):x=OZ lt l:=Bo hs (sL T l [] .nil).2 (hp.trans (yx T l).symm) fun u v hu hv=>H u v (hp.mem_iff.1 hu) (hp.mem_iff.1 hv)
end
end Go.Ev
namespace Go.Ev
open Go
theorem VRel.unren {ρ:Nat→Nat} {n:Nat} {pl pl2:Pl} {M:di} {v:AV} {x:Value} (h:VRel pl2 M v x) (hp : ∀ id p,id<n→pl2 id=some p→pl (ρ id)=some p) (ht:v.top≤n):VRel pl M (Ev.ren ρ v) x:=by
 have gt : ∀ {xs:List AV} {i:Nat} {z:AV},(xs.map (Ev.ren ρ))[i]? = some z→∃ y,xs[i]? = some y∧z=Ev.ren ρ y:=by grind
 have tp : ∀ {xs:List AV} {i j:Nat} {z y:AV},aq xs≤n→xs[i]? = some z→z.cells[j]? = some y→y.top≤n:=by
  intro xs i j x y h1 h2 h3;exact kF (dn.1 h1 x (bi h2)) (bi h3)
 have sc : ∀ {xs:List AV} {sz:Nat},(∀ x,x∈xs→x.cells.length=sz∧Sc x)→∀ x,x∈xs.map (Ev.ren ρ)→x.cells.length=sz∧Sc x:=by
  intro xs sz h x hx;obtain ⟨y,hy,rfl⟩:=jr.1 hx;obtain ⟨h1,h2⟩:=h y hy;rw [fC];refine ⟨by simp_all,fun u hu=>?_⟩;rw [fC] at hu;obtain ⟨z,hz,rfl⟩:=jr.1 hu;rw [nP];exact h2 z hz
 have cel : ∀ {xs:List AV} {c:Array Value} {o sz:Nat},aq xs≤n→(∀ i x j y,xs[i]? = some x→x.cells[j]? = some y→y.top≤n→VRel pl M (Ev.ren ρ y) (c.getD (o+i * sz+j) undef))→
   ∀ i x j y,(xs.map (Ev.ren ρ))[i]? = some x→x.cells[j]? = some y→VRel pl M y (c.getD (o+i * sz+j) undef):=by
  intro xs c o sz ht h i x j y h1 h2;obtain ⟨x0,e1,rfl⟩:=gt h1;rw [fC] at h2;grind
 induction h with
 | bool b=>exact .bool b
 | int k n=>exact .int k n
 | str s=>exact .str s
 | nilp=>exact .nilp
 | ptr h1 h2 h3=>simp only [AV.top] at ht;exact .ptr (hp _ _ (by omega) h1) h2 h3
 | pptr hm hs hi hc ih=>
  simp only [AV.top] at ht;simp only [Ev.ren,eP];exact .pptr ⟨hm.1,hm.2.1,by simp_all,hm.2.2.2⟩ (sc hs) (by simp_all) (cel ht fun i x j y h1 h2 h3=>ih i x j y h1 h2 h3)
 | nils=>exact .nils
 | slice h1 h2 h3 h4 h5=>simp only [AV.top] at ht;exact .slice (hp _ _ (by omega) h1) h2 h3 h4 h5
 | sl0n _ ih=>exact .sl0n (ih (bE _))
 | sl0s _ ih=>exact .sl0s (ih ht)
 | ps hl ht' hm hs hc ih=>
  simp only [AV.top] at ht;simp only [Ev.ren,eP];have:=VRel.ps (pl:=pl) (xs:=_) (by simpa using hl) (by simpa using ht') (by simp_all) (sc hs) (cel ht fun i x j y h1 h2 h3=>ih i x j y h1 h2 h3);simp_all
 | lsn=>exact .lsn
 | lsp h ht0 ih=>
  have:=ih (by grind [AV.top]);simp only [Ev.ren,eL ρ _ ht0] at this;exact .lsp this ht0
 | nilm=>exact .nilm
 | map h1 h2=>simp only [AV.top] at ht;exact .map (hp _ _ (by omega) h1) h2
 | func h1 h2 _ _ ih1 ih2=>
  simp only [AV.top,qU] at ht;simp only [Ev.ren,eP];refine .func (by simp_all) (by simp_all) (fun j y hj=>?_) (fun j y hj=>?_)
  ·obtain ⟨z,e,rfl⟩:=gt hj;exact ih1 j z e (dn.1 ht.1 z (bi e))
  ·obtain ⟨z,e,rfl⟩:=gt hj;exact ih2 j z e (dn.1 ht.2 z (bi e))
 | nilf=>exact .nilf
 | iface _ ih=>simp only [AV.top] at ht;exact .iface (ih ht)
 | nili=>exact .nili
 | agg h1 h2 _ ih=>
  simp only [AV.top] at ht;simp only [Ev.ren,eP];refine .agg (by simp_all) (fun y hy=>?_) (fun j y hj=>?_)
  ·grind [nP]
  ·obtain ⟨z,e,rfl⟩:=gt hj;exact ih j z e (dn.1 ht z (bi e))
 | tuple h1 _ ih=>
  simp only [AV.top] at ht;simp only [Ev.ren,eP];refine .tuple (by simp_all) (fun j y hj=>?_);obtain ⟨z,e,rfl⟩:=gt hj;exact ih j z e (dn.1 ht z (bi e))
def ep0:AObj→Bool
 | .row _ _ e _=>Nat.beq e 0
 | .map _ _=>true
 | _=>false
theorem be.ep0 {pl:Pl} {M:di} {p:Place} {o:AObj} {x:Option Obj} (h:be pl M p o x) (he:Ev.ep0 o=true):p.ep=0:=by
 match o,x with
 | .row sz op ep xs,some (.cells c t fr)=>rw [h.1];exact pz he
 | .map es clock,some (.map entries clock')=>exact h.1
theorem Th {ρ:Nat→Nat} {o:AObj} : ep0 (jS ρ o)=ep0 o:=by cases o <;> rfl
theorem be.unren {ρ:Nat→Nat} {n:Nat} {pl pl2:Pl} {M:di} {o:AObj} {p:Place} {x:Option Obj} (h:be pl2 M p o x) (he:Ev.ep0 o=true) (hp : ∀ id p,id<n→pl2 id=some p→pl (ρ id)=some p) (ht:o.top≤n):be pl M p (jS ρ o) x:=by
 match o,x with
 | .row sz op ep xs,some (.cells c t fr)=>
  obtain ⟨h1,h2,h3,h4,h5,h6,h7,h8⟩:=h;simp only [AObj.top] at ht;have gt : ∀ {xs:List AV} {i:Nat} {z:AV},(xs.map (Ev.ren ρ))[i]? = some z→∃ y,xs[i]? = some y∧z=Ev.ren ρ y:=by grind
  simp only [jS,eP];refine ⟨h1,h2,by simp_all,h4,h5,h6,by simp_all,⟨by simpa using h8.fit,fun y hy=>?_,fun i z j y k1 k2=>?_⟩⟩
  ·obtain ⟨z,hz,rfl⟩:=jr.1 hy;obtain ⟨q1,q2⟩:=h8.elem z hz;rw [fC];refine ⟨by simp_all,fun u hu=>?_⟩;rw [fC] at hu;obtain ⟨z,hz,rfl⟩:=jr.1 hu;rw [nP];exact q2 z hz
  ·obtain ⟨z0,e1,rfl⟩:=gt k1;rw [fC] at k2;obtain ⟨y0,e2,rfl⟩:=gt k2;exact (h8.cell i z0 j y0 e1 e2).unren hp (kF (dn.1 ht z0 (bi e1)) (bi e2))
 | .map es clock,some (.map entries clock')=>
  obtain ⟨h1,h2,h3,h4⟩:=h;simp only [AObj.top] at ht;simp only [jS,qX];refine ⟨h1,h2,by simp_all,fun i e hi=>?_⟩;rw [pD] at hi;cases hx:es[i]? with
  | none=>grind
  | some e0=>
   rw [hx] at hi;cases hi
   obtain ⟨e',k1,k2,k3,k4⟩:=h4 i e0 hx;have:=pQ.1 ht e0 (bi hx);exact ⟨e',k1,k2.unren hp this.1,k3.unren hp this.2,k4⟩
theorem aC.frame {P:Program} {G:ei} (hG:iF G) {f:FuncId} {args:List AV} {v:AV} (ρ:Nat→Nat) {L L':List AObj} (hl:L'.length=L.length)
  (hL : ∀ o,o∈L→ep0 o=true∧o.top≤L.length) (hL' : ∀ o,o∈L'→ep0 o=true∧o.top≤L.length) (hm : ∀ i o,L'[i]? = some o→(aa L').get i=some o) (ht:aq args≤L.length) (hv:v.top≤L.length)
  (hi : ∀ i j,i<L.length→j<L.length→ρ i=ρ j→i=j)
  (h0:aC P G f args (aa L) (fun v1 h1=>v1=v∧h1=aa L')) {h h':AHeap} (hg : ∀ i o,L[i]? = some o→h.get (ρ i)=some (jS ρ o))
  (hg' : ∀ k o,h'.get k=some o→(∃ i o',L'[i]? = some o'∧k=ρ i∧o=jS ρ o')∨((∀ i,i<L.length→k≠ρ i)∧h.get k=some o)) (hn:h'.n=h.n) :
  aC P G f (lr ρ args) h (fun v1 h1=>v1=Ev.ren ρ v∧h1=h'):=by
 intro pl M w vs hG1 hr hvs;obtain ⟨n,en⟩ : ∃ n,n=L.length:=⟨_,rfl⟩
 rw [← en] at hL hL' ht hi hg' hv;have hat : ∀ i,i<n→∃ o,L[i]? = some o∧o∈L:=fun i h=>⟨L[i],kR (by omega),Ct _⟩
 have hat' : ∀ i,i<n→∃ o,L'[i]? = some o∧o∈L':=fun i h=>⟨L'[i]'(by omega),kR (by omega),Ct _⟩
 have hpl1 : ∀ k q,jB ρ n pl k=some q→k<n∧pl (ρ k)=some q:=fun k q hk=>by grind [jB]
 have hnH:(aa L).n=n:=en.symm;have hnH':(aa L').n=n:=hl.trans en.symm;have hr1:cD (jB ρ n pl) M (aa L) w:=by
  refine ⟨fun k q hk=>?_,fun k q o hk hgo=>?_,fun k q hk=>?_,fun k k' q q' hk hk' e=>?_,hr.imm,fun k q hk=>?_⟩
  ·simp_all
  ·obtain ⟨hk1,hk2⟩:=hpl1 k q hk;have:=nW hgo;exact (hr.obj (ρ k) q _ hk2 (hg k o this)).ren (hL o (bi this)).2
  ·exact hr.blk _ q (hpl1 k q hk).2
  ·obtain ⟨a1,a2⟩:=hpl1 k q hk;obtain ⟨b1,b2⟩:=hpl1 k' q' hk';exact hi k k' a1 b1 (hr.inj _ _ q q' a2 b2 e)
  ·exact hr.sep _ q (hpl1 k q hk).2
 have hvs1:VRels (jB ρ n pl) M args vs:=⟨by rw [← hvs.len,eP,b8],fun j y hj=>(hvs.at_ j (Ev.ren ρ y) (by grind [eP])).ren rfl (dn.1 ht y (bi hj))⟩
 have hG1':pU G (jB ρ n pl) M:=hG1.none hG;have fin : ∀ cv w',gN (jB ρ n pl) M (aa L) w v (aa L') cv w'→gN pl M h w (Ev.ren ρ v) h' cv w':=by
  intro cv w' ⟨pl2,M2,k1,k2,k3,k4⟩;have kept : ∀ b,b<w.heap.size→(∀ i q,i<n→pl (ρ i)=some q→q.blk≠b)→w'.heap[b]? = w.heap[b]?:=fun b hb hne=>k3.kept b hb fun k q hk _=>hne k q (hpl1 k q hk).1 (hpl1 k q hk).2
  have same : ∀ i,i<n→pl2 i=pl (ρ i):=by
   intro i hin;cases hp:pl (ρ i) with
   | none=>exact k3.new i (by omega) (by simp_all [jB])
   | some p=>
    obtain ⟨p2,e1,e2,e3⟩:=k3.ext i p (sT hin hp);obtain ⟨o,h1,h2⟩:=hat i hin;obtain ⟨o',h1',h2'⟩:=hat' i hin;have q1:p.ep=0:=(hr.obj (ρ i) p _ hp (hg i o h1)).ep0 (by grind [Th]);have q2:p2.ep=0:=(k2.obj i p2 o' e1 (hm i o' h1')).ep0 (hL' o' h2').1;simp_all
  have hun : ∀ id p,id<n→pl2 id=some p→pl (ρ id)=some p:=fun id p h1 h2=>by simp_all
  refine ⟨pl,M2,k1.unren hun hv,⟨fun k q hk=>by rw [hn];exact hr.dom k q hk,fun k q o hk hgo=>?_,fun k q hk=>Ek (hr.blk k q hk) k3.size,hr.inj,k2.imm,fun k q hk=>?_⟩,⟨m7.refl _,fun _ _ h=>h,k3.mem,k3.size,fun b hb hk=>kept b hb fun i q hin hp e=>?_,fun k q hk=> .inl ⟨q,hk,rfl⟩,fun k q hk hno=>?_,fun _ _ h _=>h,k3.memNew,k3.os,k3.tape,k3.out,k3.drawn⟩,vi hn.symm⟩
  ·rcases hg' k o hgo with ⟨i,o',h1,rfl,rfl⟩ | ⟨hne,hgo⟩
   ·have hin:i<n:=by grind
    have hm':=bi h1;exact (k2.obj i q o' (by simp_all) (hm i o' h1)).unren (hL' o' hm').1 hun (hL' o' hm').2
   ·rw [kept _ (hr.blk k q hk) fun i q' hin hp e=>hne i hin (hr.inj _ _ q q' hk hp e.symm)];exact (hr.obj k q o hk hgo).mono (m7.refl _) k3.mem
  ·cases hM:M2 q.blk with
   | none=>rfl
   | some c2=>
    rcases k3.memNew _ c2 hM with k5 | k5
    ·rw [hr.sep k q hk] at k5;grind
    ·have:=hr.blk k q hk;omega
  ·grind
  ·cases hq:h'.get k with
   | none=>rfl
   | some o=>grind
 rcases h0 (jB ρ n pl) M w vs hG1' hr1 hvs1 with ⟨h1,h2⟩ | ⟨cv,w',v1,h1,q1,⟨q2,q3⟩,q4⟩
 ·exact .inl ⟨h1,Calls.mono h2 fun e w' ⟨cv,v1,h1,k1,⟨k2,k3⟩,k4⟩=>⟨cv,Ev.ren ρ v,h',k1,⟨rfl,rfl⟩,by simp_all⟩⟩
 ·exact .inr ⟨cv,w',Ev.ren ρ v,h',q1,⟨rfl,rfl⟩,by simp_all⟩
end Go.Ev
namespace Go.Ev
open Go
section
variable {P : Program} {G : ei} {call : b6} {m : Nat} {c : Code} {d : D} {s s' : St} {ops : Array Oper}
theorem Dv (hm:P.follows .mixedOrders=true) (hG:iF G) (hc:cV P G call) (d:D) (e:(WP P G call m c).run d s (fun e _ s=>e = .normal∧s=s')=(AExit.normal = .normal∧s'=s')):ah P G (some m) c s (fun e s=>e = .normal∧s=s'):=Ur hm hG hc c d s _ _ (e ▸ ⟨rfl,rfl⟩) fun _ _ _ _ h=>h
theorem xy (hG:iF G) (hc:cV P G call) {id:Nat} {Ψ:St→Prop} (d:D) {W:Prop} (p:W) (e:Wi P G call m ops ops.toList d s (fun _ s=>Ψ s)=W):ah P G (some m) (.region id ops false) s (fun e s=>e = .normal∧Ψ s):=ah.region (gZ hG hc _ d s _ (e ▸ p) fun _ _ _ h=>⟨rfl,h⟩)
end
section
variable {P : Program} {G : ei} {ops : Array Oper} {o : Oper} {l : List Oper} {s : St} {b : Option Nat}
theorem rq {Y:Type} {I:Y→Prop} {r:Y→AV} {H:Y→AHeap} {Φ:St→Prop} (hg:ec s.tmps (ez ops o)=some true)
  (hO : ∀ (pl:Pl) (M:di) (a:Act) (w:World),pU G pl M→cD pl M s.heap w→FrRel pl M s.tmps a→∃ y pl' M' cv w',I y∧(execOp a.eval o).run P w = .ok (.value cv) w'∧VRel pl' M' (r y) cv∧cD pl' M' (H y) w'∧cT s.heap pl M w (H y) pl' M' w'∧s.heap.n≤(H y).n)
  (h : ∀ y,I y→∃ A',iI s.tmps o.dst (r y)=some A'∧cJ P G b ops l ⟨A',H y⟩ Φ):cJ P G b ops (o::l) s Φ:=by
 intro i N h0' pl0 M0 w0 a w Q hb hl' hs hQ;have ho:ops[i]? = some o:=by simpa using hl' 0
 obtain ⟨pl,M,g1,g2,g3,g4,g5⟩:=hs.ex;simp only [cN,A8,wpOps,ho];rw [fU g3 hg];simp only [if_true];left;obtain ⟨y,pl',M',cv,w',i1,i2,i3,i4,i5,i6⟩:=hO pl M a w g1 g2 g3;obtain ⟨A',e1,e2⟩:=h y i1;obtain ⟨p1,p2⟩:=nX (g3.mono i5.ext i5.mem) i3 (by rw [hs.n];exact hs.small) e1;have nxt:=e2 (i+1) N h0' pl0 M0 w0 (a.put o.dst cv) w' Q hb (fun j=>by have:=hl' (j+1);grind)
  ⟨⟨pl',M',g1.mono i5.ext i5.mem,i4,p1,g4.trans i5 g5,bI g5 i6⟩,by rw [← hs.n];omega,hs.small⟩ hQ
 unfold Oper.wp;rw [i2];exact nxt
theorem uq {t tx e:TypeId} {i:TypeInfo} {sz bt:Nat} (hsz:i.size=sz) (hbt:i.bytes=bt) {z z0:AV} {sO xO:Operand} {dst:Option Tmp} {ty:TypeId} {pos:String} {after:Array Edge} {guard:Option (Nat × Bool)} {xs:List AV}
  (ht:P.underlying t=some (.slice e)) (hk : ∃ e',P.underlying tx=some (.slice e')) (hi:P.info? e=some i) (hz:iS P e=some z0) (hzl:Le z z0)
  (hs:(cw G sO).run s.tmps=some (.ps [] true)) (hx:(cw G xO).run s.tmps=some (.ls xs)) (hne:xs≠ []) (hfit:dm sz xs=true) (hzf:dm sz [z]=true) (hsm:small xs.length bt=true) (hs0:0<sz)
  (pl:Pl) (M:di) (a:Act) (w:World) (g1:pU G pl M) (g2:cD pl M s.heap w) (g3:FrRel pl M s.tmps a) :
  ∃ (k:Nat) (pl':Pl) (M':di) (cv:Value) (w':World),True∧(execOp a.eval ⟨dst, .call ⟨.builtin .append,#[sO,xO],#[t,tx]⟩,ty,pos,after,guard⟩).run P w = .ok (.value cv) w'∧
   VRel pl' M' (.slice s.heap.n 0 0 xs.length (some (xs.length+k))) cv∧cD pl' M' (s.heap.push (.row sz false 0 (xs++List.replicate k z))) w'∧cT s.heap pl M w (s.heap.push (.row sz false 0 (xs++List.replicate k z))) pl' M' w'∧s.heap.n≤(s.heap.push (.row sz false 0 (xs++List.replicate k z))).n:=by
 subst hsz;subst hbt;have hsr:=aT g1 g3 hs;have hxr:=aT g1 g3 hx;obtain ⟨news,hsrc⟩:=yz (P:=P) g2 hxr (show kz s.heap (.ls xs)=some xs from rfl) hne hfit;obtain ⟨i2,zv,hz1,hz2,hz3⟩:=my hz;rw [hi] at hz1;cases hz1
 obtain ⟨b1,b2⟩:=jd hsm;have hpos:0<xs.length:=pC.2 hne;generalize hq:a.eval sO=cs at hsr;generalize hq2:a.eval xO=cx at hxr hsrc;cases hsr with
 | ps hl htt hm hs2 hc=>
  rename_i ad cap sz c;have hcap:cap=0:=htt rfl;subst hcap;have hzr:=hzl _ _ _ (dH (pl:=pl) (M:=M) hz3);have hzt:=mX hzf z (by simp);have hzsz:zv.cells.size=i.size:=by rw [← hzr.cells.len];omega
  have hrun:=run_append_grow_src (P:=P) w t tx ty e i zv ht hi hz2 (some ad) 0 0 [] (by simp [Builtin.firstCells,loadCells,loadCellsFrom]) cx xs.length news (hsrc.src (.inl hk)) (by omega) (by omega) (growslice_fits (by omega) (by grind));have hge:=grownCap_ge w (0+xs.length) 0 e;obtain ⟨C,hC⟩ : ∃ C,C=grownCap w (0+xs.length) 0 e:=⟨_,rfl⟩
  rw [← hC] at hrun hge;have hin:=eN hzr hzt.2 (C - (0+xs.length)) hzt.1 hs0;have hzl:(Builtin.zeroCells zv.cells (C - (0+xs.length))).toList.toArray=(Array.range ((C - (0+xs.length)) * i.size)).map (zv.cells[· % zv.cells.size]!):=by grind [Builtin.zeroCells]
  have hnl:(Builtin.zeroCells zv.cells (C - (0+xs.length))).toList.length=(List.replicate (C - (0+xs.length)) z).length * i.size:=by grind [Builtin.zeroCells]
  have hin2:=j8 (news:=(Builtin.zeroCells zv.cells (C - (0+xs.length))).toList) hsrc.mem (by grind) hsrc.newsLen hnl #[];have hce:(news++(Builtin.zeroCells zv.cells (C - (0+xs.length))).toList).toArray++#[]=([]++news).toArray++Builtin.zeroCells zv.cells (C - (0+xs.length)):=by grind
  rw [hce] at hin2;have hcs:(([]++news).toArray++Builtin.zeroCells zv.cells (C - (0+xs.length))).size=(xs++List.replicate (C - (0+xs.length)) z).length * i.size:=by simp only [xF,Ew,BZ,hsrc.newsLen,size_zeroCells,hzsz,dT,pB,js]
  obtain ⟨cells,hcells⟩ : ∃ cells,cells=([]++news).toArray++Builtin.zeroCells zv.cells (C - (0+xs.length)):=⟨_,rfl⟩
  rw [← hcells] at hrun hin2 hcs;have hxl:(xs++List.replicate (C - (0+xs.length)) z).length=C:=by grind
  let p:Place:=⟨w.heap.size,0,i.size,C,C * i.size⟩
  have hwd:(w.drew.alloc (.cells cells e)).heap=w.heap.push (.cells cells e):=rfl;obtain ⟨r1,r2⟩:=cD.alloc (o:= .row i.size false 0 (xs++List.replicate (C - (0+xs.length)) z)) (p:=p) g2 hwd ⟨rfl,rfl,rfl,nL _⟩ rfl
   ⟨rfl,rfl,hxl.symm,by grind,rfl,hs0,fun _=>hcs,hin2.mono (fun id q hq=>⟨q,by rw [cL (by have:=g2.dom id q hq;omega)];omega,af _,fun _=>rfl⟩) (fun _ _ h=>h)⟩
  refine ⟨C - (0+xs.length),upd pl s.heap.n p,M, .slice (some ⟨w.heap.size,0,none⟩) (0+xs.length) C,w.drew.alloc (.cells cells e),trivial,?_,?_,r1,r2,nL _⟩
  ·simp only [execOp,resolve,invoke,builtin,Sem.run_bind,Sem.run_pure,Result.andThen_ok,List.map_toArray,ee,vg,hq,hq2];show (Sem.run P (Builtin.append_ #[t,tx] ty #[Value.slice (some ad) 0 0,cx]) w).andThen _=_
   rw [hrun];rfl
  ·rw [gJ] at hge ⊢;refine .slice (dF _ _ _) (af _) hge (fun k hk=>by grind) (fun _=>⟨.inr (by grind),by grind,by grind,(fun hk=>by grind),(fun k hk=>by grind)⟩)
end
end Go.Ev
namespace Go.Ev
open Go
section
variable {s id ep off len c l h m a b d sz bt i n k : Nat} {hp H : AHeap} {xs ys zs new : List AV} {lo hi mx cap : Option Nat} {op : Bool} {x z : AV} {vl vh vm : Option AV}
theorem g9 (hg:pR s hp id ep=some xs) (h1:i7 0 vl=some l) (h2:i7 len vh=some h) (q1:l≤h) (q2:h≤c) (q3:c≠l) (e1:off+l=a) (e2:h - l=b) (e3:c - l=d) :
  bq H (dJ s hp (some (.slice id ep off len (some c))) vl vh none)=some (.val (.slice id ep a b (some d)) H):=by
 have p1:Nat.ble l h=true:=su q1;have p2:Nat.ble h c=true:=su q2;have p3:Nat.beq c l=false:=by grind [am]
 simp only [dJ,fH,hg,h1,h2,room,pd,p1,p2,p3,xG,e1,e2,e3,bq]
theorem CN (hg:pR s hp id ep=some xs) (h1:i7 0 vl=some l) (h2:fc x=some h) (h3:fc z=some m) (q1:l≤h) (q2:h≤m) (q3:m≤c) (q4:m≠l) (e1:off+l=a) (e2:h - l=b) (e3:m - l=d) :
  bq H (dJ s hp (some (.slice id ep off len (some c))) vl (some x) (some z))=some (.val (.slice id ep a b (some d)) H):=by
 have p1:Nat.ble l h=true:=su q1;have p2:Nat.ble h m=true:=su q2;have p3:Nat.beq m l=false:=by grind [am]
 simp_all [su,dJ,fH,room,pd,bq]
theorem Ja (hg:pR s hp id ep=some xs) (h1:i7 0 vl=some l) (h2:i7 len vh=some h) (q1:l=h) (q3:c=l) :
  bq H (dJ s hp (some (.slice id ep off len (some c))) vl vh none)=some (.val (.slice id ep 0 0 (some 0)) H):=by
 subst q1;subst q3;have p1:Nat.ble c c=true:=su (af _);have p3:Nat.beq c c=true:=pA _;simp only [dJ,fH,hg,h1,h2,room,pd,p1,p3,xG,bq]
theorem CM (hg:pR s hp id ep=some xs) (h1:i7 0 vl=some l) (h2:i7 len vh=some h) (q1:l≤h) (q2:h+off≤xs.length) (e1:off+l=a) (e2:h - l=b) :
  bq H (dJ s hp (some (.slice id ep off len none)) vl vh none)=some (.val (.slice id ep a b none) H):=by
 grind [Nat.ble_eq_true_of_le,dJ,fH,room,pd,bq]
theorem yq (hg:H.get id=some (.row sz op ep xs)) (e:(xs.drop off).take len=zs):kz H (.slice id ep off len cap)=some zs:=by grind [Nat.beq_refl,kz,kW]
theorem Jz {xs ys:List AV} {n:Nat} (h:xs.length=n):((xs++ys).drop 0).take n=xs:=by simp_all
theorem vE {xs:List AV} {t:Bool} {n:Nat} (h:aq xs=0):Nat.ble (AV.ps xs t).top n=true:=by simp_all [AV.top]
theorem KT (hg:H.get id=some (.row sz op ep xs)) (hx:kz H x=some new) (hf:dm sz new=true) (hne:new≠ []) (hc:len+new.length≤c) (hl:off+len+new.length≤xs.length) (hs:small (len+new.length) bt=true) (e1:len+new.length=n) (e2:bp xs (off+len) new=ys) :
  fY (dj sz bt H (some (.slice id ep off len (some c))) (some x))=some (.val (.slice id ep off n (some c)) (H.put id (.row sz op ep ys))):=by
 subst e1;cases new with
 | nil=>simp_all
 | cons y r=>simp_all [su,dj,gY,gH,fY]
theorem RQ (hx:kz H x=some []):fY (dj sz bt H (some (.slice id ep off len cap)) (some x))=some (.val (.slice id ep off len cap) H):=by grind [dj,gY,gH,fY]
theorem T4 (hg:H.get id=some (.row sz op ep xs)) (hx:kz H x=some new) (hf:dm sz new=true) (hne:new≠ []) (hc:c<len+new.length) (hs:small (len+new.length) bt=true) (e1:(xs.drop off).take len++new=ys) (e2:ys.length=n) :
  fY (dj sz bt H (some (.slice id ep off len (some c))) (some x))=some (.val (.slice H.n 0 0 n none) (H.push (.row sz true 0 ys))):=by
 cases new with
 | nil=>simp_all
 | cons y r=>
  have p1:Nat.beq ep ep=true:=pA ep;have p2:Nat.beq sz sz=true:=pA sz;have p3:Nat.ble (len+(y::r).length) c=false:=by grind [bW]
  simp_all [dj,gY,gH,iY,fY]
theorem Sh (hg:H.get id=some (.row sz op ep xs)) (hk:0<k) (hc:c<len+k) (hf:dm sz [z]=true) (hs:small (len+k) bt=true) (hs2:small k bt=true) (e1:(xs.drop off).take len++List.replicate k z=ys) (e2:ys.length=n) :
  fY (BM sz bt z H (some (.slice id ep off len (some c))) (some (.int .i64 (.ofNat k))))=some (.val (.slice H.n 0 0 n none) (H.push (.row sz true 0 ys))):=by
 have p1:Nat.beq ep ep=true:=pA ep;have p2:Nat.beq sz sz=true:=pA sz;grind [Nat.ble_eq_true_of_le,Nat.blt,BM,JM,iY,fY]
theorem KH (hg:H.get id=some (.row sz op ep xs)) (hx:kz H x=some zs) (hf:dm sz (zs.take len)=true) (e1:min zs.length len=k) (e2:bp xs off (zs.take len)=ys) :
  fY (uZ sz H (some (.slice id ep off len cap)) (some x))=some (.val (.int .i64 (.ofNat k)) (H.put id (.row sz op ep ys))):=by
 grind [Nat.beq_refl,uZ,KI,fY]
theorem DC (hg:H.get id=some (.row sz op ep xs)) (hf:dm sz [z]=true) (e2:bp xs off (List.replicate len z)=ys) :
  fY (vv sz z H (some (.slice id ep off len cap)))=some (.val fS (H.put id (.row sz op ep ys))):=by
 grind [Nat.beq_refl,vv,fY]
theorem qR {sz:Nat} : ∀ {xs:List AV} {n:Nat},dm sz xs=true→dm sz (xs.take n)=true
 | [],n,h=>by simp_all
 | x::r,0,_=>rfl
 | x::r,n+1,h=>by
  simp only [List.take_succ_cons,dm,bK] at h ⊢;exact ⟨h.1,qR h.2⟩
theorem qS {sz:Nat} : ∀ {xs:List AV} {n:Nat},dm sz xs=true→dm sz (xs.drop n)=true
 | [],n,h=>by simp_all
 | x::r,0,h=>h
 | x::r,n+1,h=>by
  simp only [List.drop_succ_cons,dm,bK] at h ⊢;exact qS h.2
end
theorem AB {P : Program} {G : ei} {f : FuncId} {fn : Func} {tS tR e : TypeId} {n : Nat} (hf : P.funcs[f]? = some fn) (hname : (fn.name == "runtime.NumGoroutine") = false) (hb : fn.body.isNone = true) (hn : Extern.findNext fn = none) (he : Extern.find fn = some (Extern.SlicesOverlaps.overlaps #[tS, tS] #[tR]))
  (ht:P.underlying tS=some (.slice e)) (hi:cM P e=some n) {xs ys:List AV} {t:Bool} {id off len c sz:Nat} {op:Bool} {h:AHeap} (hne:xs≠ []) (hgo:h.get id=some (.row sz op 0 ys)) :
  aC P G f [.ps xs t, .slice id 0 off len (some c)] h (fun v h'=>v = .bool false∧h'=h):=by
 intro pl M w vs hG hr hv;right;refine ⟨.bool false,w, .bool false,h,?_,⟨rfl,rfl⟩,pl,M, .bool false,hr,cT.refl _ _ _ _,af _⟩;have v0:=hv.at_ 0 _ rfl;have v1:=hv.at_ 1 _ rfl;have hvs:vs = #[vs.getD 0 undef,vs.getD 1 undef]:=by
  have hl:vs.size=2:=hv.len.symm;apply Array.ext
  ·omega
  ·intro i h1 h2
   match i,h2 with
   | 0,_=>simp_all
   | 1,_=>simp_all
 rw [run_callFunc_extern hf hname hb hn he,hvs];generalize vs.getD 0 undef=x0 at v0;generalize vs.getD 1 undef=x1 at v1;cases v0 with
 | ps hl htt hm hs hc=>
  rename_i a cap0 sz0 c0;obtain ⟨m1,m2,m3,m4⟩:=hm hne;have hpos:0<xs.length:=pC.2 hne;cases v1 with
  | slice hp hep hl1 hk ha=>
   rename_i cap1 b p;have hcap:=hk c rfl;subst hcap;obtain ⟨tA,frA,hA⟩:=hr.imm _ _ m2;have ho:=hr.obj id p _ hp hgo;obtain ⟨cB,tB,hB,hpe⟩ : ∃ cB tB,w.heap[p.blk]? = some (.cells cB tB (0,0))∧p.ep=0:=by
    cases hb2:w.heap[p.blk]? with
    | none=>rw [hb2] at ho;exact ho.elim
    | some ob=>
     rw [hb2] at ho;cases ob with
     | cells cB tB fr=>obtain ⟨h1,_,_,_,h5,_⟩:=ho;grind
     | _=>exact ho.elim
   have hsep:=hr.sep id p hp;have hsz:=cA hi w;have hc0:c0.size≠0:=by
    have:0<xs.length * sz0:=Nat.mul_pos hpos m4;omega
   obtain ⟨q1,-⟩:=ha hpe.symm
   suffices hh:(Extern.SlicesOverlaps.overlaps #[tS,tS] #[tR] #[.slice (some a) xs.length cap0, .slice (some b) len cap1]).run P w = .ok (.bool false) w by rw [hh];rfl
   generalize xs.length=la;change Sem.run P (α:=Value) (do
    let some t := (#[tS, tS] : Array TypeId)[0]? | stuck "slices.overlaps: no parameter types"
    let .slice elem ← underlying t | stuck "slices.overlaps: slice type expected"
    let size ← sizeOf elem
    match (some a:Option Addr),(some b:Option Addr) with
    | some a,some b=>
     if la=0∨len=0∨size=0 then pure (Value.bool false)
     else if a.block != b.block && (← frozen a) && (← frozen b) then unsupported .addressObserved
     else do
      if a.block != b.block then do
       noView a;noView b
       if ← mayBeOne a b then return Value.bool ((← choose (.extern "sameAddr.stringBytes" 2)) == 1)
      pure (Value.bool (a.block == b.block && a.off<b.off+len * size && b.off<a.off+la * size))
    | _,_=>pure (Value.bool false)) w=_
   by_cases h0:la=0∨len=0∨n=0
   ·simp [run_underlying ht,hsz,h0]
   ·have hbk:b=⟨p.blk,off * p.sz,none⟩:=by grind
    subst hbk;have hnb:a.block≠p.blk:=fun e=>by grind
    have hnb1:(a.block != p.blk)=true:=by grind
    have hnb2:(a.block == p.blk)=false:=by grind
    have f1 : ∀ o,w.frozen? ⟨p.blk,o,none⟩=false:=fun o=>by grind [World.frozen?]
    have s1:w.shape? a.block=some (tA,c0.size):=by grind [World.shape?]
    have s2:w.shape? p.blk=some (tB,cB.size):=by grind [World.shape?]
    cases hsx:c0.size with
    | zero=>omega
    | succ kA=>
     rw [hsx] at s1;cases hfa:w.frozen? a <;> cases hfb:w.frozen? { block:=a.block,off:=kA+1 } <;>
     simp [run_underlying ht,hsz,h0,hnb1,hnb2,frozen,noView,viewAt,mayBeOne,stringish,shape,Sem.run,s1,s2,f1,hfa,hfb]
def SX (rs:List Nat):AHeap→List AObj→Nat→AHeap
 | h, [],_=>h
 | h,o::r,i=>SX rs (h.put (fm rs i) (jS (fm rs) o)) r (i+1)
def Wa (rs:List Nat) (h:AHeap):List AObj→Nat→Prop
 | [],_=>True
 | o::r,i=>h.get (fm rs i)=some (jS (fm rs) o)∧Wa rs h r (i+1)
def PI (h:AHeap):List AObj→Nat→Prop
 | [],_=>True
 | o::r,i=>h.get i=some o∧PI h r (i+1)
def CB (n:Nat):List AObj→Prop
 | []=>True
 | o::r=>(ep0 o=true∧o.top≤n)∧CB n r
theorem Ob (rs:List Nat) : ∀ (l:List AObj) (h:AHeap) (i:Nat),(SX rs h l i).n=h.n
 | [],_,_=>rfl
 | _::r,h,i=>Ob rs r _ (i+1)
theorem KP {rs:List Nat} {h:AHeap} : ∀ {l:List AObj} {i j:Nat} {o:AObj},Wa rs h l i→l[j]? = some o→h.get (fm rs (i+j))=some (jS (fm rs) o)
 | x::r,i,0,o,a,e=>by simp at e;subst e;exact a.1
 | x::r,i,j+1,o,a,e=>by
  have:=KP (i:=i+1) (j:=j) a.2 (by simpa using e);grind
theorem FT {h:AHeap} : ∀ {l:List AObj} {i j:Nat} {o:AObj},PI h l i→l[j]? = some o→h.get (i+j)=some o
 | x::r,i,0,o,a,e=>by simp at e;subst e;exact a.1
 | x::r,i,j+1,o,a,e=>by
  have:=FT (i:=i+1) (j:=j) a.2 (by simpa using e);grind
theorem um {n:Nat} : ∀ {l:List AObj},CB n l→∀ o,o∈l→ep0 o=true∧o.top≤n
 | x::r,a,o,e=>by
  rcases fz.1 e with rfl | e
  ·exact a.1
  ·exact um a.2 o e
theorem E6 {rs:List Nat} : ∀ {l:List AObj} {h:AHeap} {i k:Nat} {o:AObj},(∀ j,j<l.length→fm rs (i+j)<1000000)→(SX rs h l i).get k=some o→
  (∃ j o',l[j]? = some o'∧k=fm rs (i+j)∧o=jS (fm rs) o')∨((∀ j,j<l.length→k≠fm rs (i+j))∧h.get k=some o)
 | [],h,i,k,o,_,e=> .inr ⟨fun j hj=>absurd hj (px _),e⟩
 | x::r,h,i,k,o,hb,e=>by
  rcases E6 (l:=r) (i:=i+1) (fun j hj=>by have:=hb (j+1) (by simp_all);grind) e with ⟨j,o',h1,h2,h3⟩ | ⟨h1,h2⟩
  ·exact .inl ⟨j+1,o',by simp_all,by grind,h3⟩
  ·rcases AHeap.get_put (by have:=hb 0 (Nat.zero_lt_succ _);omega) h2 with ⟨h3,h4⟩ | ⟨h3,h4⟩
   ·exact .inl ⟨0,x,rfl,h3,h4⟩
   grind
theorem FI {q:Nat→Bool} : ∀ {rs:List Nat} {i:Nat},rs.all q=true→i<rs.length→q (fm rs i)=true
 | x::r,0,h,_=>by simp only [List.all_cons,bK] at h;exact h.1
 | x::r,i+1,h,hi=>by
  simp only [List.all_cons,bK] at h;exact FI (rs:=r) (i:=i) h.2 (by simp_all)
theorem pY {P:Program} {G:ei} (hG:iF G) {f:FuncId} {args args':List AV} {v v':AV} {L L' os os':List AObj} (rs:List Nat)
  (h0:aC P G f args (aa L) (fun v1 h1=>v1=v∧h1=aa L')) (ea:lr (fm rs) args=args') (ev:Ev.ren (fm rs) v=v')
  (c:(yp rs && (Nat.beq rs.length L.length && (Nat.beq L'.length L.length && rs.all fun x=>Nat.blt x 1000000)))=true)
  (hL:CB L.length L) (hL':CB L.length L') (ht:aq args≤L.length) (hv:v.top≤L.length)
  (a1:Wa rs (aa os) L 0) (a2:PI (aa L') L' 0) (a3:aa os'=SX rs (aa os) L' 0):aC P G f args' (aa os) (fun v1 h1=>v1=v'∧h1=aa os'):=by
 simp only [bK,am,decide_eq_true_eq] at c;obtain ⟨c1,c2,c3,c4⟩:=c;subst ea;subst ev;rw [a3];refine aC.frame hG (fm rs) c3 (um hL) (um hL') (fun i o hi=>by have:=FT a2 hi;simp_all) ht hv (fun i j hi hj=>qE c1 i j (by omega) (by omega)) h0
  (fun i o hi=>by have:=KP a1 hi;simp_all) (fun k o hk=>?_) (Ob rs L' _ 0)
 rcases E6 (fun j hj=>by have:=FI c4 (show 0+j<rs.length by omega);simp_all) hk with ⟨j,o',h1,h2,h3⟩ | ⟨h1,h2⟩
 all_goals grind
theorem uE {ρ:Nat→Nat} {sz ep:Nat} {b:Bool} {xs:List AV} (h:aq xs=0):jS ρ (.row sz b ep xs) = .row sz b ep xs:=by grind [jS,eL]
theorem fJ {P:Program} {G:ei} (hG:iF G) {f:FuncId} {args args':List AV} {v v':AV} {sz:Nat} {b b':Bool} {xs xs':List AV} {os os':List AObj} (id:Nat) (hx:aq xs=0) (hx':aq xs'=0)
  (h0:aC P G f args (aa [.row sz b 0 xs]) (fun v1 h1=>v1=v∧h1=aa [.row sz b' 0 xs'])) (ea:lr (fm [id]) args=args') (ev:Ev.ren (fm [id]) v=v') (c:Nat.blt id 1000000=true)
  (ht:Nat.ble (aq args) 1=true) (hv:Nat.ble v.top 1=true) (a1:(aa os).get id=some (.row sz b 0 xs)) (a3:aa os'=(aa os).put id (.row sz b' 0 xs')):aC P G f args' (aa os) (fun v1 h1=>v1=v'∧h1=aa os'):=
 pY hG [id] h0 ea ev (by simp only [yp,jZ,List.all_cons,List.all_nil,c];rfl) ⟨⟨rfl,by grind [AObj.top]⟩,trivial⟩ ⟨⟨rfl,by grind [AObj.top]⟩,trivial⟩ (ub ht) (ub hv)
  ⟨by rw [uE hx];exact a1,trivial⟩ ⟨rfl,trivial⟩ (by rw [a3];show _=AHeap.put _ _ (jS _ _);rw [uE hx'];rfl)
end Go.Ev
namespace Go.Ev
open Go
def mA (u:TUnit) (ks:List TUnit):TUnit:=⟨u.act,u.item,u.n,u.kind,u.label,u.head,u.words,ks⟩
def lO (w:List PWord) (u:TUnit):TUnit:=⟨u.act,u.item,u.n,u.kind,u.label,u.head,w,u.kids⟩
def zj (w:List PWord) (u:TUnit):TUnit:=⟨u.act,u.item,u.n,u.kind,u.label,w,u.words,u.kids⟩
def qN (s:aO) (u:TUnit):TUnit:=⟨u.act,u.item,u.n,u.kind,s,u.head,u.words,u.kids⟩
def wV (i:Nat) (x:TUnit) (l:List TUnit):List TUnit:=l.take i++(x::l.drop i)
def iX (i:Nat) (u:TUnit):TUnit:=mA u (u.kids.eraseIdx i)
def dN (i:Nat) (x:TUnit) (u:TUnit):TUnit:=mA u (wV i x u.kids)
mutual
def dW (p:PId) (f:TUnit→TUnit):TUnit→TUnit
 | ⟨a,i,n,k,l,h,w,ks⟩=>bif fT p ⟨a,i,n,k,l,h,w,ks⟩ then f ⟨a,i,n,k,l,h,w,ks⟩ else ⟨a,i,n,k,l,h,w,ej p f ks⟩
def ej (p:PId) (f:TUnit→TUnit):List TUnit→List TUnit
 | []=> []
 | k::r=>bif cX p k then dW p f k::r else k::ej p f r
end
section
variable {p : PId} {f : TUnit → TUnit} {u w : TUnit} {l r : List TUnit} {i : Nat}
theorem Ee (p:PId) (f:TUnit→TUnit) (u:TUnit):dW p f u=bif fT p u then f u else mA u (ej p f u.kids):=by cases u;rw [dW];rfl
theorem rE:ej p f [] = []:=by rw [ej]
theorem jt (k:TUnit) (r:List TUnit):ej p f (k::r)=bif cX p k then dW p f k::r else k::ej p f r:=by rw [ej]
theorem ud (h:fT p u=true):dW p f u=f u:=by rw [Ee,h];rfl
theorem od (h:fT p u=false):dW p f u=mA u (ej p f u.kids):=by rw [Ee,h];rfl
def jX (p:PId) (f:TUnit→TUnit) (l:List TUnit) (i:Nat) (r:List TUnit):Prop:=ej p f l=l.take i++ej p f r
theorem jX.start:jX p f l 0 l:=rfl
theorem jX.skip (h:jX p f l i (w::r)) (hd:l.drop i=w::r) (hw:cX p w=false):jX p f l (i+1) r:=by
 unfold jX at *;have hi:i<l.length:=by grind [List.drop_eq_nil_of_le]
 have e:l[i]=w:=by
  have:=congrArg (·[0]?) hd;grind
 grind [jt]
theorem jX.hit (h:jX p f l i (w::r)) (hd:l.drop i=w::r) (hw:cX p w=true):ej p f l=l.set i (dW p f w):=by
 unfold jX at h;have hi:i<l.length:=by grind [List.drop_eq_nil_of_le]
 rw [h,jt,hw,List.set_eq_take_append_cons_drop,if_pos hi];have:l.drop (i+1)=r:=by rw [← A5,hd];rfl
 simp_all
theorem jX.done (h:jX p f l i []) (hd:l.drop i = []):ej p f l=l:=by simp_all [jX,rE,xE]
theorem Hj : ∀ (u:TUnit),cX p u=false→dW p f u=u:=TUnit.ind fun u ih h=>by
 have hw:=zw h;rw [gV] at hw;cases hi:fT p u with
 | true=>grind
 | false=>
  rw [hi] at hw;simp only [cond_false] at hw;have key : ∀ (r:List TUnit),(∀ k,k∈r→k∈u.kids)→cY p r = []→ej p f r=r:=by
   intro r;induction r with
   | nil=>grind [rE]
   | cons k r ihr=>
    intro hm hr;cases hk:cX p k with
    | true=>grind [nN,kN]
    | false=>simp_all [iG,jt]
  have hk:cY p u.kids = []:=by grind
  rw [od hi,key u.kids (fun _ h=>h) hk];cases u;rfl
end
end Go.Ev
namespace Go.Ev
open Go
noncomputable def bz (n:Nat):AV:= .int .i64 (.ofNat n)
theorem V3 (n:Nat):(bz n).top=0:=rfl
section
variable {l part : List aO} {i : Nat} {acc : List Nat}
def m6 (l part:List aO) (i:Nat) (acc:List Nat):Prop:=acc.length≤i∧i≤l.length+part.length∧∃ f,tY l part=acc++uO part f l i∧l.length<i+f
theorem m6.start (hp:0<part.length):m6 l part 0 []:=by
 refine ⟨af _,bE _,l.length+1,?_,by omega⟩;unfold tY;grind
theorem JD {f:Nat} (hi:i+part.length≤l.length):uO part (f+1) l i=bif b7 dR ((l.take (i+part.length)).drop i) part then i::uO part f l (i+part.length) else uO part f l (i+1):=by
 have e:(l.take (i+part.length)).drop i=(l.drop i).take part.length:=by grind
 rw [uO,su hi,e];rfl
theorem m6.skip (h:m6 l part i acc) (hi:i+part.length≤l.length) (hp:0<part.length) (hm:b7 dR ((l.take (i+part.length)).drop i) part=false):m6 l part (i+1) acc:=by
 obtain ⟨h1,h2,f,h3,h4⟩:=h;cases f with
 | zero=>omega
 | succ f=>rw [JD hi,hm] at h3;exact ⟨by omega,by omega,f,h3,by omega⟩
theorem m6.hit (h:m6 l part i acc) (hi:i+part.length≤l.length) (hp:0<part.length) (hm:b7 dR ((l.take (i+part.length)).drop i) part=true):m6 l part (i+part.length) (acc++ [i]):=by
 obtain ⟨h1,h2,f,h3,h4⟩:=h;cases f with
 | zero=>omega
 | succ f=>
  rw [JD hi,hm] at h3;exact ⟨by grind,by omega,f,by simp_all,by omega⟩
theorem m6.done (h:m6 l part i acc) (hi:l.length<i+part.length):tY l part=acc:=by
 obtain ⟨h1,h2,f,h3,h4⟩:=h;cases f with
 | zero=>grind [uO]
 | succ f=>grind [uO,bW]
theorem m6.len (h:m6 l part i acc):acc.length≤l.length+part.length:=bI h.1 h.2.1
end
def qp (g:Nat):List Nat→Nat→Nat→Prop
 | [],_,_=>True
 | p::r,lo,n=>lo≤p∧p+g≤n∧qp g r (p+g) n
theorem sQ (part:List aO) (hp:0<part.length) : ∀ (f:Nat) (l:List aO) (i:Nat),qp part.length (uO part f l i) i l.length
 | 0,l,i=>by rw [uO];trivial
 | f+1,l,i=>by
  rw [uO];have key : ∀ (m:List Nat) (a b n:Nat),a≤b→qp part.length m b n→qp part.length m a n:=by
   intro m;cases m with
   | nil=>intro _ _ _ _ _;trivial
   | cons p r=>intro a b n h ⟨h1,h2,h3⟩;exact ⟨bI h h1,h2,h3⟩
  cases hb:Nat.ble (i+part.length) l.length with
  | false=>trivial
  | true=>
   rw [bW] at hb;have hb:=of_decide_eq_true hb;simp only [cond_true];cases b7 dR ((l.drop i).take part.length) part with
   | true=>exact ⟨af _,hb,sQ part hp f l _⟩
   | false=>exact key _ _ _ _ (nL i) (sQ part hp f l (i+1))
theorem BC (l part:List aO):qp part.length (tY l part) 0 l.length:=by
 unfold tY;cases part with
 | nil=>trivial
 | cons x r=>exact sQ (x::r) (xB _) _ l 0
def ov (g:Nat) (l:List Nat) (n:Nat):Prop:=∀ i,i<l.length→gD l i+g≤n∧∀ j,j<i→gD l j+g≤gD l i
theorem Ax {g n:Nat} : ∀ {l:List Nat} {lo:Nat},qp g l lo n→ov g l n
 | [],_,_=>fun i hi=>absurd hi (px _)
 | p::r,lo,⟨h1,h2,h3⟩=>by
  have low : ∀ (m:List Nat) (a:Nat),qp g m a n→∀ i,i<m.length→a≤gD m i:=by
   intro m;induction m with
   | nil=>simp_all
   | cons q m ih=>
    intro a ⟨k1,k2,k3⟩ i hi;cases i with
    | zero=>exact k1
    | succ i=>have:=ih _ k3 i (by simp_all);grind [gD]
  intro i hi;cases i with
  | zero=>exact ⟨h2,fun j hj=>absurd hj (px _)⟩
  | succ i=>
   have hi':i<r.length:=by simp_all
   obtain ⟨k1,k2⟩:=Ax h3 i hi';refine ⟨k1,fun j hj=>?_⟩;cases j with
   | zero=>exact low r _ h3 i hi'
   | succ j=>exact k2 j (by omega)
def fL (at_ g:Nat) (m l:List PWord):List PWord:=l.take at_++m++l.drop (at_+g)
def s5 (a b:Int) (g:Nat) (ps:List Nat) (fresh:List aO):Nat→List PWord→List PWord
 | 0,l=>l
 | i+1,l=>s5 a b g ps fresh i (fL (gD ps i) g (cp a b fresh (i * fresh.length)) l)
theorem Li {at_ g:Nat} {m l:List PWord} (h:at_+g≤l.length):(fL at_ g m l).length+g=l.length+m.length:=by grind [fL]
structure PutI (a b:Int) (g:Nat) (ps:List Nat) (fresh:List aO) (w:List PWord) (i:Nat) (l:List PWord):Prop where
 le:i≤ps.length
 all:s5 a b g ps fresh ps.length w=s5 a b g ps fresh i l
 room : ∀ j,j<i→gD ps j+g≤l.length
 small:l.length≤w.length+(ps.length - i) * fresh.length
theorem PutI.start {a b:Int} {g:Nat} {ps:List Nat} {fresh:List aO} {w:List PWord} (h:ov g ps w.length):PutI a b g ps fresh w ps.length w:=⟨af _,rfl,fun j hj=>(h j hj).1,by omega⟩
theorem PutI.step {a b:Int} {g:Nat} {ps:List Nat} {fresh:List aO} {w l:List PWord} {i:Nat} (hg:ov g ps w.length) (h:PutI a b g ps fresh w (i+1) l):PutI a b g ps fresh w i (fL (gD ps i) g (cp a b fresh (i * fresh.length)) l):=by
 have hr:=h.room i (Nat.lt_succ_self i);have hl:=Li (m:=cp a b fresh (i * fresh.length)) hr;rw [fE] at hl;have hle:=h.le;refine ⟨by omega,h.all,fun j hj=>?_,?_⟩
 ·have:=(hg i (by omega)).2 j hj;grind
 ·have hs:=h.small;have e:(ps.length - i) * fresh.length=(ps.length - (i+1)) * fresh.length+fresh.length:=by rw [show ps.length - i=(ps.length - (i+1))+1 by omega,pE]
  omega
theorem PutI.done {a b:Int} {g:Nat} {ps:List Nat} {fresh:List aO} {w l:List PWord} (h:PutI a b g ps fresh w 0 l):s5 a b g ps fresh ps.length w=l:=h.all
theorem PutI.len {a b:Int} {g:Nat} {ps:List Nat} {fresh:List aO} {w l:List PWord} {i:Nat} (h:PutI a b g ps fresh w i l) (h1:w.length≤2 ^ 18) (h2:ps.length≤2 ^ 9) (h3:fresh.length≤2 ^ 9):l.length≤2 ^ 19:=by
 have:=h.small;have:(ps.length - i) * fresh.length≤2 ^ 9 * 2 ^ 9:=Nat.mul_le_mul (by omega) h3;omega
section
variable {sz b id n n' k l h m : Nat} {H : AHeap} {xs ys zs : List AV} {t : Bool} {x z : AV} {vl : Option AV}
theorem Hp (hh:o3 sz xs=true) (h1:i7 0 vl=some l) (h2:fc x=some h) (h3:fc z=some h) (q1:l≤h) (q2:h≤xs.length) (e:(xs.take h).drop l=ys):bq H (dJ sz H (some (.ps xs t)) vl (some x) (some z))=some (.val (.ps ys true) H):=by simp_all [su,dJ,fH,tL,bq]
theorem OX (hh:o3 sz xs=true) (h1:fc x=some l) (q1:l≤xs.length) (e:xs.drop l=ys):bq H (dJ sz H (some (.ps xs false)) (some x) none none)=some (.val (.ps ys false) H):=by
 have p2:Nat.ble l xs.length=true:=su q1;have p3:Nat.ble xs.length xs.length=true:=su (af _);simp only [dJ,fH,hh,i7,h1,tL,p2,p3,xG,List.take_length,e,Bool.false_and,bq]
theorem XL (hf:dm sz xs=true) (hf2:dm sz ys=true) (hne:ys≠ []) (hs:small (xs.length+ys.length) b=true) (e:xs++ys=zs) (e2:zs.length=n):fY (dj sz b H (some (.ps xs true)) (some (.ls ys)))=some (.val (.slice H.n 0 0 n none) (H.push (.row sz true 0 zs))):=by
 cases ys with
 | nil=>simp_all
 | cons y r=>simp_all [dj,gY,kz,kW,gH,iY,fY]
theorem Q9 (e:ys = []):fY (dj sz b H (some (.ps xs true)) (some (.ls ys)))=some (.val (.ps xs true) H):=by subst e;rfl
def sG:List AV→Nat
 | []=>0
 | _::_=>1
theorem T3 (hg:H.get id=some (.row sz true 0 xs)) (hp:H.put id (.row sz true 0 xs)=H) (hf:dm sz ys=true) (hl:xs.length=n) (hs:small (n+ys.length) b=true) (e:xs++ys=zs) (e2:zs.length=n') :
  fY (dj sz b H (some (.slice id 0 0 n none)) (some (.ps ys t)))=some (.val (.slice id (sG ys) 0 n' none) (H.put id (.row sz true (sG ys) zs))):=by
 cases ys with
 | nil=>
  rw [ed] at e;subst e;simp only [sG,hp,← e2,hl];rfl
 | cons y r=>
  have p1:Nat.beq 0 0=true:=rfl;have p2:Nat.beq sz sz=true:=pA sz;have p4:xs.take n=xs:=xE (by omega);have p5:n+(y::r).length=n':=by grind
  have p3:Nat.ble n' xs.length=false:=by grind [bW]
  rw [p5] at hs;simp only [dj,gY,kz,kW,gH,hf,hg,p1,p2,hs,xG,p3,p4,e,p5,sG,fY,gJ]
theorem Q8 (hf:dm sz xs=true) (hf2:dm sz ys=true) (hne:ys≠ []) (hs:small (xs.length+ys.length) b=true) (e:xs++ys=zs) (e2:zs.length=n):fY (dj sz b H (some (.ps xs true)) (some (.ps ys t)))=some (.val (.slice H.n 0 0 n none) (H.push (.row sz true 0 zs))):=by
 cases ys with
 | nil=>simp_all
 | cons y r=>simp_all [dj,gY,kz,kW,gH,iY,fY]
end
end Go.Ev
namespace Go.Ev
open Go
def nl (l:List Nat) (n:Int):List Nat:=bif ab n 0 then l else bif ar (Int.ofNat l.length) n then [] else (l.take n.toNat).drop (n.toNat - 1)
theorem TY {l:List Nat} {a b i:Nat} (h:i<((l.take b).drop a).length):gD ((l.take b).drop a) i=gD l (a+i):=by grind [gD]
theorem L7 {g n a b:Nat} {l:List Nat} (h:ov g l n):ov g ((l.take b).drop a) n:=by
 intro i hi;have hl:((l.take b).drop a).length≤l.length - a:=by grind
 obtain ⟨h1,h2⟩:=h (a+i) (by omega);grind [TY]
theorem F2 {g n:Nat} {l:List Nat} {k:Int} (h:ov g l n):ov g (nl l k) n:=by
 unfold nl;cases ab k 0 with
 | true=>grind
 | false=>
  cases ar (Int.ofNat l.length) k with
  | true=>exact fun i hi=>absurd hi (px _)
  | false=>exact L7 h
theorem FV (l:List Nat) (k:Int):(nl l k).length≤l.length:=by
 unfold nl;grind
theorem Cm {g n:Nat} (hg:0<g) : ∀ {l:List Nat} {lo:Nat},qp g l lo n→lo≤n→l.length+lo≤n
 | [],lo,_,h=>by simp_all
 | p::r,lo,⟨h1,h2,h3⟩,_=>by have:=Cm hg h3 h2;grind
theorem JC (l part:List aO):(tY l part).length≤l.length:=by
 cases part with
 | nil=>exact bE _
 | cons x r=>have:=Cm (xB _) (BC l (x::r)) (bE _);omega
theorem FK (l part:List aO):ov part.length (tY l part) l.length:=Ax (BC l part)
def wT (c i:Nat) (l:List Nat):List Nat:=(l.take i).map (· + c)++l.drop i
theorem Rz (c i:Nat) (l:List Nat):(wT c i l).length=l.length:=by grind [wT]
theorem T9 {c i:Nat} {l:List Nat} (h:i<l.length):gD (wT c i l) i=gD l i:=by
 unfold wT gD List.getD;grind
theorem NU {c i:Nat} {l:List Nat} (h:i<l.length):(wT c i l).set i (gD l i+c)=wT c (i+1) l:=by
 unfold wT;have h1:((l.take i).map (· + c)).length=i:=by grind
 rw [List.set_append_right _ _ (by omega),h1,Nat.sub_self,Nl h,List.set_cons_zero,Nm h,pu];grind [gD]
theorem NY {c n:Nat} {l m:List Nat} (h:l.length=n):(wT c n (l++m)).take n=l.map (· + c):=by grind [wT]
theorem Iq {c i:Nat} {l:List Nat} (h:i<l.length):gD (l.map (· + c)) i=gD l i+c:=by grind [gD]
theorem PN {c n:Nat} {l:List Nat} (h:ov c l n):ov 0 (l.map (· + c)) n:=by
 intro i hi;rw [b8] at hi;obtain ⟨h1,h2⟩:=h i hi;grind [Iq]
def uG (l:List PWord):List PWord:=bif ar 256 (Int.ofNat l.length) then [] else l
def yi (l:List PWord):Int:=bif ar 256 (Int.ofNat l.length) then 6 else 0
def wM (a b:Int) (g:Nat) (ps:List Nat) (fresh:List aO) (w:List PWord):List PWord × Int:=(uG (s5 a b g ps fresh ps.length w),yi (s5 a b g ps fresh ps.length w))
def E1 (a b:Int) (w:List PWord) (old new:List aO) (n:Int):List PWord × Int:=bif ab (Int.ofNat old.length) 0 then ([],1) else bif ab (Int.ofNat (nl (tY (bM w) old) n).length) 0 then ([],4) else wM a b old.length (nl (tY (bM w) old) n) new w
def Dj (a b:Int) (w:List PWord) (part new:List aO) (n:Int):List PWord × Int:=
 bif ab (Int.ofNat new.length) 0 || (ab (Int.ofNat part.length) 0 && ax (ab n 0)) then ([],1)
 else bif ab (Int.ofNat part.length) 0 then wM a b 0 [0] new w
 else bif ab (Int.ofNat (nl (tY (bM w) part) n).length) 0 then ([],4) else wM a b 0 ((nl (tY (bM w) part) n).map (· + part.length)) new w
end Go.Ev
namespace Go.Ev
open Go
def ko (x k:TUnit):Bool:=ab k.kind x.kind && dR k.label x.label
def CC (p x:TUnit):Int:=bif jW p.kind x.kind then (bif p.kids.any (ko x) then 10 else 0) else 9
def Qn (u:TUnit) (p:PId) (x:TUnit):Bool:=ar 8 (Int.ofNat ((pm p u).length+1+mN x))
abbrev po:=TUnit × Int
def L3 (u:TUnit) (te:Int) (full cf:Bool) (u2:TUnit):po:=bif ab te 0 then (bif full then (u,6) else bif cf then (u,5) else (u2,0)) else (u,te)
def Ec (u:TUnit) (e:Int) (u2:TUnit):po:=bif ab e 0 then (u2,0) else (u,e)
def R9 (u:TUnit) (te:Int) (u2:TUnit):po:=bif ab te 10 then (u,10) else (u2,0)
def O9 (u:TUnit) (te:Int) (full:Bool) (u2:TUnit):po:=bif ab te 0 then (bif full then (u,6) else (u2,0)) else (u,te)
def Gn (e1 e2:Int) (sp:PSpot) (e3:Int):PSpot × Int:=bif ab e1 0 then (bif ab e2 0 then (bif ab e3 0 then (sp,0) else (dA,e3)) else (dA,e2)) else (dA,e1)
noncomputable def eC (r:po):AV:= .tuple [eU r.1, .int .i64 r.2]
end Go.Ev
namespace Go.Ev
open Go
theorem uH {p:PId} {u:TUnit} (h:cX p u=true):eH p u∈bc u∧bY (eH p u)=p:=by grind [NG,Rl,CJ]
theorem qP (l m:List TUnit):iU (l++m)=iU l++iU m:=by
 induction l with
 | nil=>rw [qO];rfl
 | cons k r ih=>grind [f9]
theorem qj (u:TUnit) (l:List TUnit):dY (mA u l)=bY u::iU l:=by rw [nK];rfl
theorem lD (u:TUnit):nU u=(dY u).length:=(th u).symm
theorem vN (u:TUnit) (l:List TUnit):bc (mA u l)=mA u l::dh l:=by rw [dz];rfl
theorem rD {q:PId} : ∀ (u:TUnit),cX q u=true→∃ v C,v∈bc u∧bY v=q∧(dY u).Perm (C++dY v)∧∀ f,(dY (dW q f u)).Perm (C++dY (f v))∧
  ∀ x,x∈bc (dW q f u)→x∈bc (f v)∨∃ y,y∈bc u∧bY x=bY y∧x.kids.length=y.kids.length∧x.head=y.head∧x.words=y.words:=TUnit.ind fun u ih h=>by
 cases hi:fT q u with
 | true=>
  refine ⟨u, [],dK u,(gz q u).1 hi,List.Perm.refl _,fun f=>?_⟩;grind [ud]
 | false=>
  have key : ∀ (r:List TUnit),(∀ k,k∈r→k∈u.kids)→cY q r≠ []→∃ v C,v∈dh r∧bY v=q∧(iU r).Perm (C++dY v)∧∀ f,(iU (ej q f r)).Perm (C++dY (f v))∧(ej q f r).length=r.length∧
    ∀ x,x∈dh (ej q f r)→x∈bc (f v)∨∃ y,y∈dh r∧bY x=bY y∧x.kids.length=y.kids.length∧x.head=y.head∧x.words=y.words:=by
   intro r;induction r with
   | nil=>grind [kh]
   | cons k r ihr=>
    intro hm hw;cases hk:cX q k with
    | true=>
     obtain ⟨v,C,h1,h2,h3,h4⟩:=ih k (hm k (fG ..)) hk;refine ⟨v,C++iU r,by grind [bB],h2,?_,fun f=>?_⟩
     ·grind [f9]
     ·have e:ej q f (k::r)=dW q f k::r:=by rw [jt,hk];rfl
      rw [e];refine ⟨?_,rfl,fun x hx=>?_⟩
      ·grind [f9]
      ·rw [bB] at hx;rcases kj.1 hx with hx | hx
       ·grind [bB]
       ·exact .inr ⟨x,by grind [bB],rfl,rfl,rfl,rfl⟩
    | false=>
     rw [iG hk] at hw;obtain ⟨v,C,h1,h2,h3,h4⟩:=ihr (fun x hx=>hm x (fy _ hx)) hw;refine ⟨v,dY k++C,by grind [bB],h2,by grind [f9],fun f=>?_⟩;have e:ej q f (k::r)=k::ej q f r:=by rw [jt,hk];rfl
     rw [e];refine ⟨by grind [f9],by simp_all,fun x hx=>?_⟩;rw [bB] at hx;rcases kj.1 hx with hx | hx
     ·exact .inr ⟨x,by grind [bB],rfl,rfl,rfl,rfl⟩
     grind [bB]
  have hw:cY q u.kids≠ []:=by
   intro e;have:=kN h;rw [gV,hi,e] at this;simp_all
  obtain ⟨v,C,h1,h2,h3,h4⟩:=key u.kids (fun _ h=>h) hw;refine ⟨v,bY u::C,by grind [dz],h2,by grind [nK],fun f=>?_⟩;rw [od hi];refine ⟨by grind [qj],fun x hx=>?_⟩;rw [vN] at hx;rcases fz.1 hx with rfl | hx
  ·exact .inr ⟨u,dK u,rfl,(h4 f).2.1,rfl,rfl⟩
  grind [dz]
theorem uL {p:PId} : ∀ (u:TUnit),jk p u=true→∃ q i,q∈bc u∧tW p u=bY q∧qW p u=Int.ofNat i∧i<q.kids.length∧bY (gD q.kids i)=p:=TUnit.ind fun u ih h=>by
 have hh:cX p u=true:=by
  cases e:cX p u with
  | true=>rfl
  | false=>grind [PD]
 cases hi:fT p u with
 | true=>
  unfold jk at h;rw [sC hi] at h;cases h
 | false=>
  have key : ∀ (r:List TUnit),cY p r≠ []→∃ j k,j<r.length∧gD r j=k∧cX p k=true∧cY p r=au p k∧∀ n,cS (cX p) r n=Int.ofNat (n+j):=by
   intro r;induction r with
   | nil=>grind [kh]
   | cons k r ihr=>
    intro hw;cases hk:cX p k with
    | true=>
     refine ⟨0,k,xB _,rfl,hk,nN hk,fun n=>?_⟩;unfold cS;simp_all
    | false=>
     rw [iG hk] at hw;obtain ⟨j,k2,h1,h2,h3,h4,h5⟩:=ihr hw;refine ⟨j+1,k2,by simp_all,h2,h3,by grind [iG],fun n=>?_⟩;have e:cS (cX p) (k::r) n=cS (cX p) r (n+1):=by
      show (bif cX p k then _ else _)=_
      simp_all
     grind
  have hw:cY p u.kids≠ []:=by
   intro e;have:=kN hh;rw [gV,hi,e] at this;simp_all
  obtain ⟨j,k,h1,h2,h3,h4,h5⟩:=key u.kids hw;obtain ⟨y,t,e⟩:=vW h3;have hway:au p u=u::au p k:=by rw [gV,hi,h4,e];rfl
  have hkm:k∈u.kids:=h2 ▸ iQ h1;rw [HI h,HL h];cases hk:jk p k with
  | true=>
   obtain ⟨q,i,q1,q2,q3,q4,q5⟩:=ih k hkm hk;rw [HI hk] at q2;rw [HL hk] at q3;have e2:Ha p u=Ha p k:=by
    unfold Ha;rw [hway];have:2≤(au p k).length:=by
     unfold jk at hk;cases hl:ar (Int.ofNat (au p k).length) 2 with
     | true=>grind
     | false=>have:=aF hl;grind
    show gD (u::au p k) ((au p k).length+1 - 2)=_
    rw [show (au p k).length+1 - 2=((au p k).length - 2)+1 by omega];rfl
   grind [bf]
  | false=>
   have hl:(au p k).length=1:=by
    unfold jk at hk;cases hl:ar (Int.ofNat (au p k).length) 2 with
    | false=>grind
    | true=>have:=ap hl;grind
   have hik:fT p k=true:=by
    cases hik:fT p k with
    | true=>rfl
    | false=>
     rw [gV,hik] at hl e;grind
   have e2:Ha p u=u:=by
    unfold Ha;rw [hway];show gD (u::au p k) ((au p k).length+1 - 2)=_
    rw [hl];rfl
   rw [e2,h5 0,gJ];exact ⟨u,j,dK u,rfl,rfl,h1,by grind [gz]⟩
theorem TX {p:PId} {u:TUnit} (h:cX p u=true) (hi:fT p u=false):jk p u=true:=by
 have hw:au p u≠ []:=kN h;have e:au p u=match cY p u.kids with | []=> [] | y::t=>u::y::t:=by rw [gV,hi];rfl
 unfold jk;rw [e] at hw ⊢;cases ew:cY p u.kids with
 | nil=>simp_all
 | cons y t=>
  show ax (ar (Int.ofNat (u::y::t).length) 2)=true
  rw [lL (by grind)];rfl
theorem S8 {v:TUnit} {i:Nat} (h:i<v.kids.length):(dY v).Perm (dY (iX i v)++dY (gD v.kids i)):=by
 unfold iX;rw [nK v,qj,Nh,qP];have e:v.kids=v.kids.take i++(gD v.kids i::v.kids.drop (i+1)):=by grind [gD,List.drop_eq_getElem_cons,List.take_append_drop]
 grind [qP,f9]
theorem S7 {v x:TUnit} {i:Nat} : (dY (dN i x v)).Perm (dY v++dY x):=by
 unfold dN wV;rw [nK v,qj,qP,f9,xL];grind [List.take_append_drop,qP]
end Go.Ev
namespace Go.Ev
open Go
section
variable {P : Program} {G : ei} {call : b6} {m : Nat} {c : Code} {d : D} {s s' : St} {ops : Array Oper} {h h' : AHeap} {o : AObj} {f : FuncId} {args : List AV} {v u : AV} {pl pl' : Pl} {M M' : di} {w w' : World}
theorem cD.psh (g2:cD pl M h w):cD pl M (h.push o) w:=
 ⟨fun id p hp=>Nat.lt_succ_of_lt (g2.dom id p hp),(fun id p o' hp hg=>by
  rcases dZ hg with ⟨rfl,_⟩ | ⟨_,h2⟩
  ·exact absurd (g2.dom _ p hp) (vo _)
  ·exact g2.obj id p o' hp h2),g2.blk,g2.inj,g2.imm,g2.sep⟩
theorem cT.psh (g2:cD pl M h w) (g4:cT h pl M w h' pl' M' w') (g2':cD pl' M' h' w'):cT h pl M w (h'.push o) pl' M' w':=
 ⟨g4.ext,g4.new,g4.mem,g4.size,g4.kept,g4.blks,(fun id p hp hg=>by
  have:=g4.live id p hp hg;cases hh:(h'.push o).get id with
  | none=>rfl
  | some o'=>
   rcases dZ hh with ⟨rfl,_⟩ | ⟨_,h2⟩
   ·obtain ⟨p',e1,_⟩:=g4.ext _ p hp;exact absurd (g2'.dom _ p' e1) (vo _)
   simp_all),g4.stay,g4.memNew,g4.os,g4.tape,g4.out,g4.drawn⟩
theorem aC.psh (h0:aC P G f args h (fun v1 h1=>v1=v∧h1=h')) (hl:Le u v):aC P G f args h (fun v1 h1=>v1=u∧h1=h'.push o):=by
 intro pl M w vs hg hr hv;have key : ∀ {cv w'},gN pl M h w v h' cv w'→gN pl M h w u (h'.push o) cv w':=fun ⟨pl',M',k1,k2,k3,k4⟩=>⟨pl',M',hl _ _ _ k1,cD.psh k2,cT.psh hr k3 k2,Nat.le_succ_of_le k4⟩
 rcases h0 pl M w vs hg hr hv with ⟨h1,h2⟩ | ⟨cv,w',v',h'',h1,⟨rfl,rfl⟩,h3⟩
 ·exact .inl ⟨h1,Calls.mono h2 fun e w' ⟨cv,v',h'',k1,⟨k2,k2'⟩,k3⟩=>⟨cv,u,h'.push o,k1,⟨rfl,rfl⟩,by simp_all⟩⟩
 ·exact .inr ⟨cv,w',u,_,h1,⟨rfl,rfl⟩,key h3⟩
theorem I0 {Ψ Ψ':AV→AHeap→Prop} (o:AObj) (h0:aC P G f args h Ψ) (hΨ : ∀ v h',Ψ v h'→∃ u,Le u v∧Ψ' u (h'.push o)):aC P G f args h Ψ':=by
 intro pl M w vs hg hr hv;have key : ∀ {v u h' cv w'},Le u v→gN pl M h w v h' cv w'→gN pl M h w u (h'.push o) cv w':=fun hl ⟨pl',M',k1,k2,k3,k4⟩=>⟨pl',M',hl _ _ _ k1,cD.psh k2,cT.psh hr k3 k2,Nat.le_succ_of_le k4⟩
 rcases h0 pl M w vs hg hr hv with ⟨h1,h2⟩ | ⟨cv,w',v',h'',h1,h2,h3⟩
 ·refine .inl ⟨h1,Calls.mono h2 fun e w' ⟨cv,v',h'',k1,k2,k3⟩=>?_⟩;grind
 ·obtain ⟨u,q1,q2⟩:=hΨ _ _ h2;exact .inr ⟨cv,w',u,_,h1,q2,key q1 h3⟩
theorem Ow (pl:Pl) (M:di) (p:Place) (x:Option Obj):be pl M p .dead x:=by cases x <;> trivial
theorem aC.dead {i:Nat} {Ψ Ψ':AV→AHeap→Prop} (h0:aC P G f args h Ψ) (hi:h.n≤i) (hm:i<1000000) (hΨ : ∀ v h',Ψ v h'→Ψ' v (h'.put i .dead)):aC P G f args h Ψ':=by
 intro pl M w vs hg hr hv;have key : ∀ {v h' cv w'},gN pl M h w v h' cv w'→gN pl M h w v (h'.put i .dead) cv w':=fun ⟨pl',M',k1,k2,k3,k4⟩=>⟨pl',M',k1,⟨k2.dom,(fun id p o hp hg=>by
  rcases AHeap.get_put hm hg with ⟨_,rfl⟩ | ⟨_,h2⟩
  ·grind [Ow]
  ·exact k2.obj id p o hp h2),k2.blk,k2.inj,k2.imm,k2.sep⟩,⟨k3.ext,k3.new,k3.mem,k3.size,k3.kept,k3.blks,(fun id p hp hg=>by
   have hl:=hr.dom id p hp;have hn:=k3.live id p hp hg;cases hh:AHeap.get (AHeap.put _ i .dead) id with
   | none=>rfl
   | some o'=>grind [AHeap.get_put]),k3.stay,k3.memNew,k3.os,k3.tape,k3.out,k3.drawn⟩,k4⟩
 rcases h0 pl M w vs hg hr hv with ⟨h1,h2⟩ | ⟨cv,w',v',h'',h1,h2,h3⟩
 ·exact .inl ⟨h1,Calls.mono h2 fun e w' ⟨cv,v',h'',k1,k2,k3⟩=>⟨cv,v',h''.put i .dead,k1,hΨ _ _ k2,key k3⟩⟩
 ·exact .inr ⟨cv,w',v',_,h1,hΨ _ _ h2,key h3⟩
end
section
variable {P : Program} {G : ei} {ops : Array Oper} {o : Oper} {l : List Oper} {s : St} {b : Option Nat}
theorem wA {t tx e:TypeId} {i:TypeInfo} {sz bt:Nat} (hsz:i.size=sz) (hbt:i.bytes=bt) {z z0:AV} {sO xO:Operand} {dst:Option Tmp} {ty:TypeId} {pos:String} {after:Array Edge} {guard:Option (Nat × Bool)} {xs:List AV}
  (ht:P.underlying t=some (.slice e)) (hk : ∃ e',P.underlying tx=some (.slice e')) (hi:P.info? e=some i) (hz:iS P e=some z0) (hzl:Le z z0)
  (hs:(cw G sO).run s.tmps=some (.ps [] true)) (hx:(cw G xO).run s.tmps=some (.ls xs)) (hne:xs≠ []) (hfit:dm sz xs=true) (hzf:dm sz [z]=true) (hsm:small xs.length bt=true) (hs0:0<sz)
  (pl:Pl) (M:di) (a:Act) (w:World) (g1:pU G pl M) (g2:cD pl M s.heap w) (g3:FrRel pl M s.tmps a) :
  ∃ (k:Nat) (pl':Pl) (M':di) (cv:Value) (w':World),k=0∧(execOp a.eval ⟨dst, .call ⟨.builtin .append,#[sO,xO],#[t,tx]⟩,ty,pos,after,guard⟩).run P w = .ok (.value cv) w'∧
   VRel pl' M' (.slice s.heap.n 0 0 xs.length none) cv∧cD pl' M' (s.heap.push (.row sz true 0 xs)) w'∧cT s.heap pl M w (s.heap.push (.row sz true 0 xs)) pl' M' w'∧s.heap.n≤(s.heap.push (.row sz true 0 xs)).n:=by
 subst hsz;subst hbt;have hsr:=aT g1 g3 hs;have hxr:=aT g1 g3 hx;obtain ⟨news,hsrc⟩:=yz (P:=P) g2 hxr (show kz s.heap (.ls xs)=some xs from rfl) hne hfit;obtain ⟨i2,zv,hz1,hz2,hz3⟩:=my hz;rw [hi] at hz1;cases hz1
 obtain ⟨b1,b2⟩:=jd hsm;have hpos:0<xs.length:=pC.2 hne;generalize hq:a.eval sO=cs at hsr;generalize hq2:a.eval xO=cx at hxr hsrc;cases hsr with
 | ps hl htt hm hs2 hc=>
  rename_i ad cap sz c;have hcap:cap=0:=htt rfl;subst hcap;have hzr:=hzl _ _ _ (dH (pl:=pl) (M:=M) hz3);have hzt:=mX hzf z (by simp);have hzsz:zv.cells.size=i.size:=by rw [← hzr.cells.len];omega
  have hrun:=run_append_grow_src (P:=P) w t tx ty e i zv ht hi hz2 (some ad) 0 0 [] (by simp [Builtin.firstCells,loadCells,loadCellsFrom]) cx xs.length news (hsrc.src (.inl hk)) (by omega) (by omega) (growslice_fits (by omega) (by grind));have hge:=grownCap_ge w (0+xs.length) 0 e;obtain ⟨C,hC⟩ : ∃ C,C=grownCap w (0+xs.length) 0 e:=⟨_,rfl⟩
  rw [← hC] at hrun hge;have hin:=eN hzr hzt.2 (C - (0+xs.length)) hzt.1 hs0;have hzl:(Builtin.zeroCells zv.cells (C - (0+xs.length))).toList.toArray=(Array.range ((C - (0+xs.length)) * i.size)).map (zv.cells[· % zv.cells.size]!):=by grind [Builtin.zeroCells]
  have hnl:(Builtin.zeroCells zv.cells (C - (0+xs.length))).toList.length=(List.replicate (C - (0+xs.length)) z).length * i.size:=by grind [Builtin.zeroCells]
  have hin2:=j8 (news:=(Builtin.zeroCells zv.cells (C - (0+xs.length))).toList) hsrc.mem (by grind) hsrc.newsLen hnl #[];have hce:(news++(Builtin.zeroCells zv.cells (C - (0+xs.length))).toList).toArray++#[]=([]++news).toArray++Builtin.zeroCells zv.cells (C - (0+xs.length)):=by grind
  rw [hce] at hin2;have hcs:(([]++news).toArray++Builtin.zeroCells zv.cells (C - (0+xs.length))).size=(xs++List.replicate (C - (0+xs.length)) z).length * i.size:=by simp only [xF,Ew,BZ,hsrc.newsLen,size_zeroCells,hzsz,dT,pB,js]
  obtain ⟨cells,hcells⟩ : ∃ cells,cells=([]++news).toArray++Builtin.zeroCells zv.cells (C - (0+xs.length)):=⟨_,rfl⟩
  rw [← hcells] at hrun hin2 hcs;have hxC:xs.length≤C:=by omega
  have hszc:cells.size=C * i.size:=by grind
  have hin3:InMem pl M cells 0 i.size xs:=⟨by rw [gJ,hszc];exact ef _ hxC,fun x hx=>hin2.elem x (List.mem_append_left _ hx),fun i x j y h1 h2=>hin2.cell i x j y (by grind) h2⟩
  let p:Place:=⟨w.heap.size,0,i.size,xs.length,C * i.size⟩
  have hwd:(w.drew.alloc (.cells cells e)).heap=w.heap.push (.cells cells e):=rfl;obtain ⟨r1,r2⟩:=cD.alloc (o:= .row i.size true 0 xs) (p:=p) g2 hwd ⟨rfl,rfl,rfl,nL _⟩ rfl
   ⟨rfl,rfl,rfl,hszc.symm,rfl,hs0,fun h=>(by grind),hin3.mono (fun id q hq=>⟨q,by rw [cL (by have:=g2.dom id q hq;omega)];omega,af _,fun _=>rfl⟩) (fun _ _ h=>h)⟩
  refine ⟨0,upd pl s.heap.n p,M, .slice (some ⟨w.heap.size,0,none⟩) (0+xs.length) C,w.drew.alloc (.cells cells e),rfl,?_,?_,r1,r2,nL _⟩
  ·simp only [execOp,resolve,invoke,builtin,Sem.run_bind,Sem.run_pure,Result.andThen_ok,List.map_toArray,ee,vg,hq,hq2];show (Sem.run P (Builtin.append_ #[t,tx] ty #[Value.slice (some ad) 0 0,cx]) w).andThen _=_
   rw [hrun];rfl
  ·rw [gJ] at hge ⊢;refine .slice (dF _ _ _) (af _) hge (fun k hk=>by grind) (fun _=>⟨.inr (by grind),by grind,by grind,(fun _=>by grind),(fun k hk=>by grind)⟩)
end
end Go.Ev
namespace Go.Ev
open Go
theorem iP {s u:List UInt8} {H:AHeap} (h:s.length+u.length≤2 ^ 62):bq H (T8 (.str s) (.str u))=some (.val (.str (s++u)) H):=by grind [Nat.ble_eq_true_of_le,T8,bq]
def MC (s:aO):aO:=bif ab (.ofNat (gD s 0).toNat) 124 then [92] else bif ab (.ofNat (gD s 0).toNat) 92 then [92] else []
def AM (s:aO) (w:PWord):aO:=s++ [32]++MC w.text++w.text
def lH (s:aO) (l:List PWord):aO:=l.foldl AM s
theorem oq (s:aO) (w:PWord) (r:List PWord):lH s (w::r)=lH (AM s w) r:=rfl
theorem D6 {x:aO} {w:PWord} (h1:ab (.ofNat (gD w.text 0).toNat) 124=true):AM x w=x++ [32]++ [92]++w.text:=by grind [AM,MC]
theorem D0 {x:aO} {w:PWord} (h1:ab (.ofNat (gD w.text 0).toNat) 124=false) (h2:ab (.ofNat (gD w.text 0).toNat) 92=true):AM x w=x++ [32]++ [92]++w.text:=by grind [AM,MC]
theorem DT {x:aO} {w:PWord} (h1:ab (.ofNat (gD w.text 0).toNat) 124=false) (h2:ab (.ofNat (gD w.text 0).toNat) 92=false):AM x w=x++ [32]++w.text:=by grind [AM,MC]
theorem VK (d:Nat):ar (.ofNat d) 0=false:=rfl
def sM (u:TUnit):TUnit:=⟨0,0,0,u.kind,u.label,u.head,u.words, []⟩
def DK (u:TUnit) (d:Nat):Bool:=ax (ar (.ofNat d) 0) && (ax (ar 8 (.ofNat d)) && ki (cE (sM u)))
def fN (u:TUnit) (d:Nat):aO:=
 bif ax (DK u d) then [] else
  let a:=Lib.repeatL [32,32] d++c8 u.kind
  let b:=bif ax (ab u.kind 0) then a++([32]++u.label) else a
  let c:=bif ar 0 (.ofNat u.head.length) then lH (b++ [58]) u.head else b
  bif ar 0 (.ofNat u.words.length) then lH (c++ [32,124]) u.words else c
mutual
def eZ:Nat→TUnit→List aO
 | d,⟨a,i,n,k,l,h,w,ks⟩=>fN ⟨a,i,n,k,l,h,w,ks⟩ d::dQ (d+1) ks
def dQ:Nat→List TUnit→List aO
 | _, []=> []
 | d,k::r=>eZ d k++dQ d r
end
theorem BN (d:Nat) (u:TUnit):eZ d u=fN u d::dQ (d+1) u.kids:=by cases u;rw [eZ];rfl
theorem wQ (d:Nat):dQ d [] = []:=by rw [dQ]
theorem l9 (d:Nat) (k:TUnit) (r:List TUnit):dQ d (k::r)=eZ d k++dQ d r:=by rw [dQ]
def wO (u:TUnit):aO × Int:=
 bif ax (ki (cE u)) then ([],1) else
  bif ar 16384 (.ofNat (Lib.join (eZ 0 u) [10]++ [10]).length) then ([],6) else (Lib.join (eZ 0 u) [10]++ [10],0)
theorem QY (s:aO):(MC s).length≤1:=by grind [MC]
theorem Rx (s:aO) (w:PWord):(AM s w).length≤s.length+(w.text.length+2):=by grind [QY,AM]
theorem uy {l:List PWord} (h : ∀ w,w∈l→w.text.length≤24) (s:aO):(lH s l).length≤s.length+26 * l.length:=by
 induction l generalizing s with
 | nil=>exact af _
 | cons w r ih=>grind [Rx,oq]
theorem zJ (k:Int):(c8 k).length≤16:=by
 unfold c8;split <;> decide
theorem gL {a b:Int} (h:ax (ar a b)=true):b≤a:=aF (by cases q:ar a b <;> rw [q] at h <;> first | rfl | grind)
theorem H7 {s:aO} (h:j7 s=true):s.length≤7:=by
 unfold j7 at h;simp only [bK] at h;have h1:=gL h.2.1;have h2:=gL h.2.2.2.1;grind
theorem K9 {s:aO} (h:rv s=true):1≤s.length∧s.length≤24:=by
 unfold rv at h;simp only [bK] at h;have h1:=gL h.1;have h2:=gL h.2.1;grind
theorem Hz {l:List PWord} (h:oa l=true):l.length≤256∧∀ w,w∈l→1≤w.text.length∧w.text.length≤24:=by
 unfold oa qQ at h;simp only [bK,nH] at h;have h1:=gL h.1;simp only [aI] at h1;exact ⟨by omega,fun w hw=>K9 (h.2.2 _ (jr.2 ⟨w,hw,rfl⟩))⟩
theorem NW {u:TUnit} (h:lG u=true):u.label.length≤7∧(u.head.length≤256∧∀ w,w∈u.head→1≤w.text.length∧w.text.length≤24)∧(u.words.length≤256∧∀ w,w∈u.words→1≤w.text.length∧w.text.length≤24):=by
 unfold lG at h;simp only [bK] at h;have h:=h.1;cases hk:ab u.kind 0 with
 | true=>
  rw [hk] at h;simp only [cond_true,bK] at h;have h1:u.label = []:=Gv h.1;have h2:=gL h.2;grind
 | false=>grind [H7,Hz]
theorem OV {q:TUnit→Bool} {u:TUnit} (h:vd q u=true):q u=true:=by grind [xt]
theorem JL {u:TUnit} {d:Nat} (h:DK u d=true):d≤8∧u.label.length≤7∧(u.head.length≤256∧∀ w,w∈u.head→1≤w.text.length∧w.text.length≤24)∧(u.words.length≤256∧∀ w,w∈u.words→1≤w.text.length∧w.text.length≤24):=by
 unfold DK ki at h;simp only [bK] at h;have h1:=gL h.2.1;simp only [aI] at h1;have h2:=NW (OV h.2.2.1);rw [mW] at h2;obtain ⟨e1,⟨e2,e3⟩,e4,e5⟩:=h2;refine ⟨by omega,e1,⟨by grind [sM,TUnit.head],fun w hw=>?_⟩,⟨by grind [sM,TUnit.words],fun w hw=>?_⟩⟩
 ·exact e3 (gr w) (jr.2 ⟨w,hw,rfl⟩)
 ·exact e5 (gr w) (jr.2 ⟨w,hw,rfl⟩)
theorem DH {b:Bool} {x y:aO} {n:Nat} (h1:x.length≤n) (h2:y.length≤n):(bif b then x else y).length≤n:=by grind
theorem PJ (u:TUnit) (d:Nat):(fN u d).length≤2 ^ 14:=by
 unfold fN;cases h:DK u d with
 | false=>simp_all
 | true=>
  obtain ⟨h1,h2,⟨h3,h4⟩,h5,h6⟩:=JL h;have k:=zJ u.kind;have r:=Lib.repeatL_length [32,32] d;simp only [cN,gc] at r;have ha:(Lib.repeatL [32,32] d++c8 u.kind).length≤32:=by grind
  have hh : ∀ w,w∈u.head→w.text.length≤24:=fun w hw=>(h4 w hw).2
  have hw : ∀ w,w∈u.words→w.text.length≤24:=fun w hw=>(h6 w hw).2
  simp only [ax,cond_false];have hb : ∀ x:aO,x.length≤32→(bif ax (ab u.kind 0) then x++([32]++u.label) else x).length≤40:=fun x hx=>DH (by grind) (by omega)
  have hc : ∀ x:aO,x.length≤40→(bif ar 0 (.ofNat u.head.length) then lH (x++ [58]) u.head else x).length≤6700:=fun x hx=>DH (by grind [uy]) (by omega)
  have hd : ∀ x:aO,x.length≤6700→(bif ar 0 (.ofNat u.words.length) then lH (x++ [32,124]) u.words else x).length≤2 ^ 14:=fun x hx=>DH (by have:=uy hw (x++ [32,124]);grind) (by omega)
  grind
mutual
theorem kr (d:Nat) : ∀ u:TUnit,(eZ d u).length=nU u
 | ⟨a,i,n,k,l,h,w,ks⟩=>by rw [eZ,cN,wX (d+1) ks,nU];omega
theorem wX (d:Nat) : ∀ l:List TUnit,(dQ d l).length=eQ l
 | []=>by rw [dQ,eQ];rfl
 | k::r=>by rw [dQ,eQ,dT,kr d k,wX d r]
end
mutual
theorem zZ (d:Nat) : ∀ (u:TUnit) (s:aO),s∈eZ d u→s.length≤2 ^ 14
 | ⟨a,i,n,k,l,h,w,ks⟩,s,hs=>by
  rw [eZ] at hs;rcases fz.1 hs with rfl | hs
  ·exact PJ _ _
  ·exact wZ (d+1) ks s hs
theorem wZ (d:Nat) : ∀ (l:List TUnit) (s:aO),s∈dQ d l→s.length≤2 ^ 14
 | [],s,hs=>by rw [dQ] at hs;cases hs
 | k::r,s,hs=>by
  rw [dQ] at hs;rcases kj.1 hs with hs | hs
  ·exact zZ d k s hs
  ·exact wZ d r s hs
end
theorem tc {sep:aO} {B:Nat} : ∀ {l:List aO},(∀ s,s∈l→s.length≤B)→(Lib.joinTail sep l).length≤l.length * (sep.length+B)
 | [],_=>bE _
 | x::r,h=>by
  have h1:=h x fG;have h2:=tc (sep:=sep) (l:=r) fun s hs=>h s (fy _ hs)
  grind [Lib.joinTail,Nat.succ_mul]
theorem Pj {sep:aO} {B:Nat} {l:List aO} (h : ∀ s,s∈l→s.length≤B):(Lib.join l sep).length≤l.length * (sep.length+B):=by
 cases l with
 | nil=>exact bE _
 | cons x r=>
  have h1:=h x fG;have h2:=tc (sep:=sep) (l:=r) fun s hs=>h s (fy _ hs)
  grind [Lib.join_cons,Nat.succ_mul]
theorem vG : ∀ (l:List TUnit),(∀ k,k∈l→nU (cE k)=nU k∧∀ x,x∈bc (cE k)→∃ y,y∈bc k∧x=cE y)→eQ (l.map cE)=eQ l∧∀ x,x∈dh (l.map cE)→∃ y,y∈dh l∧x=cE y
 | [],_=>⟨rfl,fun x hx=>by grind [fD]⟩
 | k::r,h=>by
  obtain ⟨a1,a2⟩:=h k fG;obtain ⟨b1,b2⟩:=vG r fun k hk=>h k (fy _ hk)
  grind [eQ,bB]
theorem LU : ∀ u:TUnit,nU (cE u)=nU u∧∀ x,x∈bc (cE u)→∃ y,y∈bc u∧x=cE y:=by
 refine TUnit.ind fun u ih=>?_
 obtain ⟨h1,h2⟩:=vG u.kids ih;refine ⟨?_,fun x hx=>?_⟩
 ·rw [i9 (cE u),i9 u,mW];exact congrArg (1 + ·) h1
 ·rw [dz,mW] at hx;rcases fz.1 hx with rfl | hx
  ·grind [dz,List.mem_cons_self,mW]
  ·obtain ⟨y,h3,h4⟩:=h2 x hx;grind [dz]
end Go.Ev
namespace Go.Ev
open Go
structure OkB (u:TUnit):Prop where
 nd:(dY u).Nodup
 n:nU u≤1024
 w : ∀ x,x∈bc u→x.head.length≤300∧x.words.length≤300
theorem OkB.uni {u v x:TUnit} (h:OkB u) (hv:v∈bc u) (hx:x∈bc u) (e:bY v=bY x):v=x:=BF h.nd hv hx e
theorem sy {u x:TUnit} (hx:x∈bc u):cX (bY x) u=true:=KJ u ⟨x,hx,rfl⟩
theorem mV : ∀ {l:List TUnit} {x:TUnit},x∈dh l→∃ k,k∈l∧x∈bc k
 | [],x,h=>by grind [fD]
 | k::r,x,h=>by
  rw [bB] at h;rcases kj.1 h with h | h
  ·simp_all
  ·obtain ⟨k',h1,h2⟩:=mV h;grind
theorem Ba {u:TUnit} : ∀ (p:List PStep) (l:List TUnit),(∀ x,x∈l→x∈bc u)→∀ x,x∈gq p l→x∈bc u
 | [],l,h,x,hx=>h x hx
 | s::r,l,h,x,hx=>by
  refine Ba r _ (fun y hy=>?_) x hx;grind [iL,bf,dK]
theorem L8 {u:TUnit} {p:List PStep} {x:TUnit} (h:x∈dO u p):x∈bc u:=by
 unfold dO at h;grind [dK,Ba]
theorem qc {u:TUnit} {p:List PStep} (h:(aA u p).2=0):cX (aA u p).1 u=true:=by
 unfold aA at h ⊢;split at h
 ·omega
 ·rename_i x e;exact sy (L8 (by rw [e];simp_all))
 omega
def EW (u:TUnit) (sp:PSpot):Prop:=∃ n:Nat,sp.at_=Int.ofNat n∧n≤2 ^ 20∧∀ v,v∈bc u→fT sp.id v=true→n≤v.kids.length
theorem Oo {u:TUnit} (hu:OkB u) {p:PId} (h:jk p u=true) {n:Nat} (hn:n≤1):EW u ⟨tW p u,qW p u+Int.ofNat n⟩:=by
 obtain ⟨q,i,h1,h2,h3,h4,h5⟩:=uL u h;have hk:=bw q;have:=dG h1;have:=hu.n;refine ⟨i+n,by simp_all,by omega,fun v hv hi=>?_⟩;have hi:fT (tW p u) v=true:=hi;rw [gz,h2] at hi;rw [hu.uni hv h1 hi];omega
theorem Ff {u:TUnit} (hu:OkB u) {p:PId} (hp:cX p u=true) {w:Int} (he:(dw w u p).2=0):EW u (dw w u p).1:=by
 unfold dw at he ⊢;cases h0:ab w 0 with
 | true=>exact ⟨0,rfl,bE _,fun v _ _=>bE _⟩
 | false=>
  rw [h0] at he;simp only [cond_false] at he ⊢;cases h1:ab w 1 with
  | true=>
   obtain ⟨a,b⟩:=uH hp;have hk:=bw (eH p u);have:=dG a;have:=hu.n;refine ⟨_,rfl,by omega,fun v hv hi=>?_⟩;rw [gz] at hi;rw [hu.uni hv a (hi.trans b.symm)];omega
  | false=>
   rw [h1] at he;simp only [cond_false] at he ⊢;have key : ∀ n:Nat,n≤1→(nw u p (Int.ofNat n)).2=0→EW u (nw u p (Int.ofNat n)).1:=fun n hn he=>by grind [nw,Oo]
   cases h2:ab w 2 with
   | true=>grind
   | false=>rw [h2] at he;exact key 0 (bE _) he
theorem OkB.with {u:TUnit} (hu:OkB u) {q:PId} {f:TUnit→TUnit}
  (hf : ∀ v C,v∈bc u→bY v=q→(dY u).Perm (C++dY v)→(C++dY (f v)).Nodup∧(C++dY (f v)).length≤1024∧∀ x,x∈bc (f v)→x.head.length≤300∧x.words.length≤300):OkB (dW q f u):=by
 cases hq:cX q u with
 | false=>grind [Hj]
 | true=>
  obtain ⟨v,C,h1,h2,h3,h4⟩:=rD u hq;obtain ⟨h5,h6⟩:=h4 f;obtain ⟨a,b,c⟩:=hf v C h1 h2 h3;refine ⟨h5.nodup_iff.2 a,by rw [lD,h5.length_eq];omega,fun x hx=>?_⟩;grind [cases OkB]
theorem OkB.keep {u:TUnit} (hu:OkB u) {q:PId} {f:TUnit→TUnit} (h1 : ∀ v,bY (f v)=bY v∧(f v).kids=v.kids) (h2 : ∀ v,v∈bc u→(f v).head.length≤300∧(f v).words.length≤300):OkB (dW q f u):=by
 refine hu.with fun v C hv hq hp=>?_
 have e:dY (f v)=dY v:=by grind [nK]
 rw [e];refine ⟨hp.nodup_iff.1 hu.nd,by rw [← hp.length_eq,← lD];exact hu.n,fun x hx=>?_⟩;rw [dz] at hx;rcases fz.1 hx with rfl | hx
 ·simp_all
 ·rw [(h1 v).2] at hx;obtain ⟨k,k1,k2⟩:=mV hx;grind [iL,bf,cases OkB]
theorem SV {v x y:TUnit} {i:Nat} (h:y∈bc (dN i x v)):y=dN i x v∨y∈bc x∨y∈bc v:=by
 rw [dz] at h;rcases fz.1 h with rfl | h
 ·simp_all
 ·obtain ⟨k,k1,k2⟩:=mV h;have k1:k∈v.kids.take i++(x::v.kids.drop i):=k1;rcases kj.1 k1 with q | q
  ·grind [bf]
  ·grind [bf]
theorem OkB.ins {u x:TUnit} (hu:OkB u) {q:PId} {i:Nat} (hx:(dY x).Nodup) (hd : ∀ p,p∈dY x→p ∉ dY u) (hn:nU u+nU x≤1024) (hw : ∀ y,y∈bc x→y.head.length≤300∧y.words.length≤300):OkB (dW q (dN i x) u):=by
 refine hu.with fun v C hv hq hp=>?_
 have h1:(C++dY (dN i x v)).Perm (dY u++dY x):=((List.Perm.append_left C S7).trans (by grind))
 refine ⟨h1.nodup_iff.2 (List.nodup_append.2 ⟨hu.nd,hx,fun a ha b hb e=>hd b hb (e ▸ ha)⟩),by rw [h1.length_eq,dT,← lD,← lD];omega,fun y hy=>?_⟩;rcases SV hy with rfl | h | h
 ·exact hu.w v hv
 all_goals grind [iL,cases OkB]
theorem Jr {v y:TUnit} {i:Nat} (h:y∈bc (iX i v)):y=iX i v∨y∈bc v:=by
 rw [dz] at h;rcases fz.1 h with rfl | h
 ·simp_all
 ·obtain ⟨k,k1,k2⟩:=mV h;exact .inr (bf (List.mem_of_mem_eraseIdx (show k∈v.kids.eraseIdx i from k1)) k2)
theorem OkB.del {u v:TUnit} (hu:OkB u) {i:Nat} (hv:v∈bc u) (hi:i<v.kids.length):OkB (dW (bY v) (iX i) u)∧(dY u).Perm (dY (dW (bY v) (iX i) u)++dY (gD v.kids i)):=by
 obtain ⟨v',C,h1,h2,h3,h4⟩:=rD u (sy hv);obtain rfl:=hu.uni h1 hv h2;obtain ⟨h5,h6⟩:=h4 (iX i);have h7:(dY u).Perm (dY (dW (bY v') (iX i) u)++dY (gD v'.kids i)):=h3.trans ((List.Perm.append_left C (S8 hi)).trans (by grind));have hnd:=h7.nodup_iff.1 hu.nd;refine ⟨⟨(List.nodup_append.1 hnd).1,?_,fun x hx=>?_⟩,h7⟩
 ·have:=h7.length_eq;grind [lD,cases OkB]
 ·rcases h6 x hx with h | ⟨y,y1,y2,y3,y4,y5⟩
  ·rcases Jr h with rfl | h
   ·exact hu.w v' hv
   grind [iL,cases OkB]
  grind [cases OkB]
theorem NA {q:PId} {f:TUnit→TUnit} : ∀ u:TUnit,cX q u=true→∃ v,v∈bc u∧bY v=q∧f v∈bc (dW q f u):=by
 refine TUnit.ind fun u ih h=>?_
 cases hi:fT q u with
 | true=>grind [dK,gz,ud]
 | false=>
  rw [od hi];have key : ∀ r:List TUnit,(∀ k,k∈r→k∈u.kids)→(∃ k,k∈r∧cX q k=true)→∃ v,v∈dh r∧bY v=q∧f v∈dh (ej q f r):=by
   intro r;induction r with
   | nil=>grind
   | cons k r ihr=>
    intro hs ⟨y,hy,hyq⟩;rw [jt,bB];cases hk:cX q k with
    | true=>grind [bB]
    | false=>
     rcases fz.1 hy with rfl | hy
     ·grind
     ·obtain ⟨v,a,b,c⟩:=ihr (fun k hk=>hs k (fy _ hk)) ⟨y,hy,hyq⟩;grind [bB]
  have hx:=uH h;have hne:eH q u≠u:=fun e=>by grind [gz]
  have hm:eH q u∈dh u.kids:=by grind [dz]
  obtain ⟨k,k1,k2⟩:=mV hm;obtain ⟨v,a,b,c⟩:=key u.kids (fun _ h=>h) ⟨k,k1,KJ k ⟨_,k2,hx.2⟩⟩;grind [dz,vN]
theorem PF {u q:TUnit} (hu:OkB u) {i:Nat} (hq:q∈bc u) (hi:i<q.kids.length) {p t:PId} {w:Int} {anc bs:Bool} (ht:cX t u=true) {ok:Bool}
  (he:(nr p t (bY q) (Int.ofNat i) ok anc bs (dw w u t).1 (dw w u t).2).2=0) :
  EW (dW (bY q) (iX i) u) (nr p t (bY q) (Int.ofNat i) ok anc bs (dw w u t).1 (dw w u t).2).1:=by
 obtain ⟨hr,_⟩:=hu.del hq hi;obtain ⟨v',C,h1,h2,h3,h4⟩:=rD u (sy hq);obtain rfl:=hu.uni h1 hq h2;obtain ⟨_,h6⟩:=h4 (iX i);have hlen:(iX i v').kids.length=v'.kids.length - 1:=List.length_eraseIdx_of_lt hi;have own : ∀ v,v∈bc (dW (bY v') (iX i) u)→bY v=bY v'→v.kids.length=v'.kids.length - 1:=fun v hv e=>by
  obtain ⟨z,z1,z2,z3⟩:=NA (q:=bY v') (f:=iX i) u (sy hq);obtain rfl:=hu.uni z1 hq z2;rw [hr.uni hv z3 (e.trans rfl)];omega
 have oth : ∀ v,v∈bc (dW (bY v') (iX i) u)→bY v≠bY v'→∃ y,y∈bc u∧bY v=bY y∧v.kids.length=y.kids.length:=fun v hv hne=>by
  rcases h6 v hv with h | ⟨y,y1,y2,y3,_⟩
  ·rcases Jr h with rfl | h
   ·exact absurd rfl hne
   ·exact ⟨v,iL hq h,rfl,rfl⟩
  grind
 have hk:=bw v';have hb:=dG hq;have hn:=hu.n;unfold nr at he ⊢;cases c1:(ax ok || ((ax (bv t p) && anc) || (bv t p && ax bs))) with
 | true=>grind
 | false=>
  rw [c1] at he;simp only [cond_false] at he ⊢;cases c2:bv t p with
  | true=>
   refine ⟨i,rfl,by omega,fun v hv hid=>?_⟩;grind [gz]
  | false=>
   rw [c2] at he;simp only [cond_false] at he ⊢;have e0:(dw w u t).2=0:=by grind
   obtain ⟨n,n1,n2,n3⟩:=Ff hu ht e0;rw [e0,n1];cases c4:bv (dw w u t).1.id (bY v') with
   | false=>
    have hne:(dw w u t).1.id≠bY v':=fun e=>by grind [kB]
    rw [show (ab 0 0 && (false && ar (Int.ofNat i) (Int.ofNat n)))=false from rfl];refine ⟨n,n1,n2,fun v hv hid=>?_⟩;grind [gz]
   | true=>
    have heq:=tE c4;have hn':=n3 v' hq ((gz _ v').2 heq.symm);cases c5:ar (Int.ofNat i) (Int.ofNat n) with
    | true=>
     have c5:=ap c5;simp only [aI] at c5;rw [show (ab 0 0 && (true && true))=true from rfl];refine ⟨n - 1,by grind,by omega,fun v hv hid=>?_⟩;grind [gz]
    | false=>
     have c5:=aF c5;simp only [aI] at c5;rw [show (ab 0 0 && (true && false))=false from rfl];refine ⟨n,n1,n2,fun v hv hid=>?_⟩;grind [gz]
def yU (a i:Int) (n k:Nat):List PId:=(List.range' (n+1) k).map fun j=>⟨a,i,Int.ofNat j⟩
mutual
theorem uo (a i:Int) : ∀ (u:TUnit) (n w:Nat),dY (cO a i u n w)=yU a i n (nU u)
 | ⟨a',i',n',k,l,h,ws,ks⟩,n,w=>by
  rw [nK,cO,nU];show _::iU (e9 a i ks (n+1) _)=_
  rw [yY a i ks (n+1)];unfold yU;rw [Nat.add_comm 1 (eQ ks),A8,ee];rfl
theorem yY (a i:Int) : ∀ (l:List TUnit) (n w:Nat),iU (e9 a i l n w)=yU a i n (eQ l)
 | [],n,w=>by rw [e9,eQ,qO];rfl
 | k::r,n,w=>by
  rw [e9,eQ,f9,uo a i k n w,yY a i r (n+nU k)];unfold yU;rw [← pu,show n+nU k+1=n+1+nU k by omega,← List.range'_append_1]
end
theorem N9 (a i:Int) (n k:Nat):(yU a i n k).Nodup:=by
 unfold yU;exact List.Pairwise.map _ (fun x y hne e=>hne (Int.ofNat.inj (congrArg PId.n e))) List.nodup_range'
mutual
theorem Jk (a i:Int) (B:Nat) : ∀ (u:TUnit) (n w:Nat),(∀ x,x∈bc u→x.head.length≤B∧x.words.length≤B)→∀ x,x∈bc (cO a i u n w)→x.head.length≤B∧x.words.length≤B
 | ⟨a',i',n',k,l,h,ws,ks⟩,n,w,hB,x,hx=>by
  rw [cO,bc] at hx;rcases fz.1 hx with rfl | hx
  ·have:=hB _ (by rw [bc];exact fG);exact ⟨by show (cp _ _ _ _).length≤B;rw [fE,bM,b8];exact this.1,by show (cp _ _ _ _).length≤B;rw [fE,bM,b8];exact this.2⟩
  ·exact Et a i B ks _ _ (fun y hy=>hB y (by rw [bc];exact fy _ hy)) x hx
theorem Et (a i:Int) (B:Nat) : ∀ (l:List TUnit) (n w:Nat),(∀ x,x∈dh l→x.head.length≤B∧x.words.length≤B)→∀ x,x∈dh (e9 a i l n w)→x.head.length≤B∧x.words.length≤B
 | [],n,w,hB,x,hx=>by rw [e9,dh] at hx;cases hx
 | k::r,n,w,hB,x,hx=>by
  rw [e9,dh] at hx;rcases kj.1 hx with hx | hx
  ·exact Jk a i B k _ _ (fun y hy=>hB y (by rw [dh];exact List.mem_append_left _ hy)) x hx
  ·exact Et a i B r _ _ (fun y hy=>hB y (by rw [dh];exact I2 _ hy)) x hx
end
theorem N7 (a i:Int) (u:TUnit) (n w:Nat):nU (cO a i u n w)=nU u:=by grind [lD,uo,yU]
end Go.Ev
