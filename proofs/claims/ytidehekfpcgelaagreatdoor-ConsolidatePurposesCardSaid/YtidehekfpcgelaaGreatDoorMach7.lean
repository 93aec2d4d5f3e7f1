/- An abstract machine for runs of the program, proved sound against the model: part 7. No conditions. -/
import Derived.Test.YtidehekfpcgelaaGreatDoorMach6
import Derived.Laws.Externs
import Derived.Lib.Join
import Derived.Lib.Repeat
namespace Go.Ev
open Go
section
variable {a i : Int} {l r x : List aP} {s : aP} {m : List PWord} {j n k : Nat}
theorem sk (h1:l.drop j=x) (h2:x=s::r) (h3:s::r=l):1 = [(⟨s,a,i, .ofNat (n+j)⟩:PWord)].length∧0 < [(⟨s,a,i, .ofNat (n+j)⟩:PWord)].length∧ [(⟨s,a,i, .ofNat (n+j)⟩:PWord)]++cY a i r (n + [(⟨s,a,i, .ofNat (n+j)⟩:PWord)].length)=cY a i l n∧ [(⟨s,a,i, .ofNat (n+j)⟩:PWord)].length+r.length=l.length:=by
 have e:=congrArg List.length (h1.trans h2);have e2:=congrArg List.length h3;simp only [xE,cN] at e e2;have:j=0:=by omega
 subst this;refine ⟨rfl,Nat.one_pos,?_,by grind⟩;rw [← h3,cY];rfl
theorem vX (h1:l.drop j=x) (h2:x=s::r) (h:k=m.length∧0<m.length∧m++cY a i (s::r) (n+m.length)=cY a i l n∧m.length+(s::r).length=l.length) :
  k+1=(m++ [(⟨s,a,i, .ofNat (n+j)⟩:PWord)]).length∧0<(m++ [(⟨s,a,i, .ofNat (n+j)⟩:PWord)]).length∧(m++ [(⟨s,a,i, .ofNat (n+j)⟩:PWord)])++cY a i r (n+(m++ [(⟨s,a,i, .ofNat (n+j)⟩:PWord)]).length)=cY a i l n∧(m++ [(⟨s,a,i, .ofNat (n+j)⟩:PWord)]).length+r.length=l.length:=by
 have e:=congrArg List.length (h1.trans h2);obtain ⟨q1,q2,q3,q4⟩:=h;simp only [xE,cN] at e q4;have:j=m.length:=by omega
 subst this;simp only [dS,cN,gh];refine ⟨by omega,by omega,?_,by omega⟩;rw [← q3,cY,nJ];rfl
end
theorem gr (l:List PWord):(bD l).length=l.length:=cX ..
structure StampI (a i:Int) (ks:List TUnit) (n0 w0:Nat) (k n w:Nat) (m:List TUnit):Prop where
 len:m.length=k
 le:k≤ks.length
 all:m++eW a i (ks.drop k) n w=eW a i ks n0 w0
 num:n+dT (ks.drop k)=n0+dT ks
 wd:w+(fY (ks.drop k)).length=w0+(fY ks).length
theorem StampI.start (a i:Int) (ks:List TUnit) (n0 w0:Nat):StampI a i ks n0 w0 0 n0 w0 []:=⟨rfl,bG _,rfl,rfl,rfl⟩
theorem StampI.step {a i:Int} {ks:List TUnit} {n0 w0 k n w:Nat} {m:List TUnit} (h:StampI a i ks n0 w0 k n w m) (hk:k<ks.length) :
  StampI a i ks n0 w0 (k+1) (n+nU (gD ks k)) (w+(eX (gD ks k)).length) (m++ [ch a i (gD ks k) n w]):=by
 have e:=xr hk;obtain ⟨h1,h2,h3,h4,h5⟩:=h;rw [e,CI] at h3;rw [e,bc] at h4;rw [e,dU,dS] at h5;exact ⟨by simp_all,hk,by simp_all,by omega,by omega⟩
theorem StampI.done {a i:Int} {ks:List TUnit} {n0 w0 k n w:Nat} {m:List TUnit} (h:StampI a i ks n0 w0 k n w m) (hk : ¬ k<ks.length):m=eW a i ks n0 w0∧n=n0+dT ks∧w=w0+(fY ks).length:=by grind [ED,l8,ma,cases StampI]
theorem Vo {α:Type} [Inhabited α] {m r:List α} {k:Nat} (h:m.length=k):gD (m++r) k=gD r 0:=by grind [gD]
theorem TK {α:Type} [Inhabited α] {l:List α} {k:Nat} : gD (l.drop k) 0=gD l k:=by simp_all [gD]
theorem RM {α:Type} {m r:List α} {k:Nat} {x y:α} (h:m.length=k):(m++x::r).set k y=(m++ [y])++r:=by simp_all
def gV (a i:Int) (ks:List TUnit) (n0 w0 k n w:Nat) (L:List TUnit):Prop:=∃ m,L=m++ks.drop k∧StampI a i ks n0 w0 k n w m
section
variable {a i : Int} {ks L : List TUnit} {n0 w0 k n w : Nat}
theorem gV.start (a i:Int) (ks:List TUnit) (n0 w0:Nat):gV a i ks n0 w0 0 n0 w0 ks:=⟨[],rfl,StampI.start ..⟩
theorem gV.len (h:gV a i ks n0 w0 k n w L):L.length=ks.length:=by
 obtain ⟨m,rfl,hI⟩:=h;grind [cases StampI]
theorem gV.at_ (h:gV a i ks n0 w0 k n w L):gD L k=gD ks k:=by
 obtain ⟨m,rfl,hI⟩:=h;rw [Vo hI.len,TK]
theorem gV.step (h:gV a i ks n0 w0 k n w L) (hk:k<ks.length):gV a i ks n0 w0 (k+1) (n+nU (gD L k)) (w+(eX (gD L k)).length) (L.set k (ch a i (gD L k) n w)):=by
 rw [h.at_];obtain ⟨m,rfl,hI⟩:=h;exact ⟨m++ [ch a i (gD ks k) n w],by rw [xr hk,RM hI.len],hI.step hk⟩
theorem gV.num (h:gV a i ks n0 w0 k n w L):n+dT (ks.drop k)=n0+dT ks∧w+(fY (ks.drop k)).length=w0+(fY ks).length:=by
 obtain ⟨m,rfl,hI⟩:=h;grind [cases StampI]
theorem gV.done (h:gV a i ks n0 w0 k n w L) (hk : ¬ k<ks.length):L=eW a i ks n0 w0∧n=n0+dT ks∧w=w0+(fY ks).length:=by
 obtain ⟨m,rfl,hI⟩:=h;rw [Ex (by omega),dB];exact hI.done hk
theorem gV.room (h:gV a i ks n0 w0 k n w L) (hk:k<ks.length):n+nU (gD L k)≤n0+dT ks∧w+(eX (gD L k)).length≤w0+(fY ks).length:=by
 have h1:=h.num;rw [h.at_];grind [xr,bc,dU]
end
end Go.Ev
namespace Go.Ev
open Go
section
variable {α : Type}
structure TotB (lt:α→α→Bool):Prop where
 trans : ∀ x y z,lt y x=false→lt z y=false→lt z x=false
 asym : ∀ x y,lt x y=true→lt y x=false
variable {lt : α → α → Bool}
theorem TotB.down (T:TotB lt) {x y z:α} (h1:lt z y=false) (h2:lt z x=true):lt y x=true:=by
 cases h:lt y x with
 | true=>rfl
 | false=>grind [cases TotB]
theorem TotB.up (T:TotB lt) {x y z:α} (h1:lt x y=true) (h2:lt z y=false):lt x z=true:=by
 cases h:lt x z with
 | true=>rfl
 | false=>grind [cases TotB]
end
section
variable {α : Type} [Inhabited α] {lt : α → α → Bool} {l x y z w : List α} {a b m n i j k s e p d : Nat}
theorem vz (h:l.length≤i):gD l i=default:=by grind [gD]
theorem Vn {v:α} (h:i<l.length):gD (l.set i v) k=if k=i then v else gD l k:=by
 unfold gD;grind
theorem qD (hi:i<l.length) (hj:j<l.length):((l.set i (gD l j)).set j (gD l i)).Perm l:=by grind [gD,List.set_set_perm]
theorem xz (hi:i<l.length) (hj:j<l.length) (q:Nat):gD ((l.set i (gD l j)).set j (gD l i)) q=if q=j then gD l i else if q=i then gD l j else gD l q:=by grind [Vn]
def di (lt:α→α→Bool) (l:List α) (a b:Nat):Prop:=∀ i j,a≤i→i<j→j<b→lt (gD l j) (gD l i)=false
structure SSeg (lt:α→α→Bool) (l x:List α) (a b:Nat):Prop where
 perm:x.Perm l
 out : ∀ i,i<a∨b≤i→gD x i=gD l i
 src : ∀ i,a≤i→i<b→∃ j,a≤j∧j<b∧gD x i=gD l j
 srt:di lt x a b
theorem SSeg.len (h:SSeg lt l x a b):x.length=l.length:=h.perm.length_eq
theorem mb (h:di lt l a b):SSeg lt l l a b:=⟨.refl _,fun _ _=>rfl,fun i h1 h2=>⟨i,h1,h2,rfl⟩,h⟩
theorem SSeg.cast {p q:Nat} (h:SSeg lt l x p q) (hp:p=a) (hq:q=b):SSeg lt l x a b:=by simp_all
theorem di.nil (h:b≤a+1):di lt l a b:=fun i j _ _ _=>by omega
theorem di.sub (h:di lt l a b) (h1:a≤i) (h2:j≤b):di lt l i j:=fun p q e1 e2 e3=>h p q (by omega) e2 (by omega)
theorem di.le (T:TotB lt) (h:di lt l a b) (h1:a≤i) (h2:i≤j) (h3:j<b):lt (gD l j) (gD l i)=false:=by
 rcases fh i j with q | q
 ·exact h i j h1 q h3
 grind [cases TotB]
structure InsI (lt:α→α→Bool) (l x:List α) (a i j:Nat):Prop where
 perm:x.Perm l
 out : ∀ q,q<a∨i+1≤q→gD x q=gD l q
 src : ∀ q,a≤q→q<i+1→∃ p,a≤p∧p<i+1∧gD x q=gD l p
 mid : ∀ p q,a≤p→p<q→q≤i→q≠j→lt (gD x q) (gD x p)=false
theorem InsI.start (h:SSeg lt l x a (min i b)) (h1:i<b):InsI lt l x a i i:=by
 rw [show min i b=i by omega] at h;refine ⟨h.perm,fun q hq=>h.out q (by omega),fun q h1 h2=>?_,fun p q h1 h2 h3 h4=>h.srt p q h1 h2 (by omega)⟩;grind [cases SSeg]
theorem InsI.step (T:TotB lt) (h:InsI lt l x a i j) (hi:i<l.length) (h1:a<j) (h2:j≤i) (hk:k+1=j) (hl:lt (gD x j) (gD x k)=true):InsI lt l ((x.set j (gD x k)).set k (gD x j)) a i k:=by
 have hx:x.length=l.length:=h.perm.length_eq;have hj:j<x.length:=by omega
 have hkx:k<x.length:=by omega
 have g:=xz hj hkx;refine ⟨(qD hj hkx).trans h.perm,fun q hq=>?_,fun q q1 q2=>?_,fun p q h3 h4 h5 h6=>?_⟩
 ·rw [g,if_neg (by omega),if_neg (by omega)];exact h.out q hq
 ·rw [g];split
  ·grind [cases InsI]
  ·split
   ·grind [cases InsI]
   ·exact h.src q q1 q2
 ·rw [g,g];rw [if_neg (show ¬ q=k by omega)];by_cases c1:q=j
  ·rw [if_pos c1];by_cases c2:p=k
   ·rw [if_pos c2];exact T.asym _ _ hl
   ·grind [cases InsI]
  ·rw [if_neg c1];by_cases c2:p=k
   ·grind [cases InsI]
   ·rw [if_neg c2];by_cases c3:p=j
    ·grind [cases InsI]
    ·rw [if_neg c3];exact h.mid p q h3 h4 h5 c1
theorem InsI.stop (T:TotB lt) (h:InsI lt l x a i j) (ha:a≤j) (h2:j≤i) (hb:i<b) (hs:s=i+1) (hl:j=a∨∃ k,k+1=j∧lt (gD x j) (gD x k)=false):SSeg lt l x a (min s b):=by
 rw [show min s b=i+1 by omega];refine ⟨h.perm,h.out,h.src,fun p q h3 h4 h5=>?_⟩;grind [cases TotB,cases InsI]
theorem L0 (hab:a≤b):SSeg lt l l a (min (a+1) b):=mb (di.nil (by omega))
theorem Pn (h:SSeg lt l x a (min i b)) (hi:b≤i):SSeg lt l x a b:=by simp_all
def sw (a b m i:Nat):Nat:=if a≤i∧i<a+m then i - a+b else if b≤i∧i<b+m then i - b+a else i
structure SwP (l x:List α) (a b m:Nat):Prop where
 perm:x.Perm l
 at_ : ∀ i,i<l.length→gD x i=gD l (sw a b m i)
theorem SwP.len (h:SwP l x a b m):x.length=l.length:=h.perm.length_eq
theorem SwP.start:SwP l l a b 0:=⟨.refl _,fun i _=>by simp_all [sw,if_neg]⟩
theorem SwP.step (h:SwP l x a b k) (hk:k<m) (ha:a+m≤b) (hb:b+m≤l.length) (hi:i=a+k) (hj:j=b+k) (hs:s=k+1):SwP l ((x.set i (gD x j)).set j (gD x i)) a b s:=by
 subst hi hj hs;have hx:x.length=l.length:=h.perm.length_eq;have h1:a+k<x.length:=by omega
 have h2:b+k<x.length:=by omega
 refine ⟨(qD h1 h2).trans h.perm,fun q hq=>?_⟩;rw [xz h1 h2];by_cases c1:q=b+k
 ·rw [if_pos c1,h.at_ _ (by omega)];congr 1;unfold sw;grind
 ·rw [if_neg c1];by_cases c2:q=a+k
  ·rw [if_pos c2,h.at_ _ (by omega)];congr 1;unfold sw;grind
  ·rw [if_neg c2,h.at_ _ (by omega)];congr 1;unfold sw;grind
theorem SwP.done (h:SwP l x a b k) (hk:k=m):SwP l x a b m:=hk ▸ h
def ro (a m b i:Nat):Nat:=if a≤i∧i<a+(b - m) then i - a+m else if a+(b - m)≤i∧i<b then i - (b - m) else i
structure RoP (l x:List α) (a m b:Nat):Prop where
 perm:x.Perm l
 at_ : ∀ q,q<l.length→gD x q=gD l (ro a m b q)
theorem RoP.len (h:RoP l x a m b):x.length=l.length:=h.perm.length_eq
theorem RoP.cast {p q r:Nat} (h:RoP l x p q r) (hp:p=a) (hq:q=m) (hr:r=b):RoP l x a m b:=by simp_all
structure RoI (l x:List α) (a m b i j:Nat):Prop where
 perm:x.Perm l
 i0:0<i
 j0:0<j
 im:i≤m
 jn:m+j≤l.length
 at_ : ∀ q,q<l.length→gD x (ro (m - i) m (m+j) q)=gD l (ro a m b q)
theorem RoI.len (h:RoI l x a m b i j):x.length=l.length:=h.perm.length_eq
theorem RoI.start (ha:a<m) (hm:m<b) (hb:b≤l.length) (hi:i=m - a) (hj:j=b - m):RoI l l a m b i j:=by
 subst hi hj;refine ⟨.refl _,by omega,by omega,by omega,by omega,fun q _=>?_⟩;grind
theorem UJ (ham:a≤m) (hmb:m≤b) (hb:b≤n) (hi:i<n):ro a m b i<n:=by grind [ro]
theorem RoI.left {p q r:Nat} (h:RoI l x a m b i j) (hs:SwP x y p q r) (hp:p=m - i) (hq:q=m) (hr:r=j) (hij:j<i) (hk:k=i - j):RoI l y a m b k j:=by
 subst hk;subst hp;have hq:=hq.symm;subst hq;have hr:=hr.symm;subst hr;have hi:=h.im;have hj:=h.jn;have h0:=h.j0;refine ⟨hs.perm.trans h.perm,by omega,h0,by omega,hj,fun q hq=>?_⟩;rw [hs.at_ _ (by rw [h.len];simp_all [UJ]),← h.at_ q hq];congr 1;unfold sw ro;grind
theorem RoI.right {p q r:Nat} (h:RoI l x a m b i j) (hs:SwP x y p q r) (hp:p=m - i) (hq:q=m+j - i) (hr:r=i) (hij:i<j) (hk:k=j - i):RoI l y a m b i k:=by
 subst hk;subst hp;have hq:=hq.symm;subst hq;have hr:=hr.symm;subst hr;have hi:=h.im;have hj:=h.jn;have h0:=h.i0;refine ⟨hs.perm.trans h.perm,h0,by omega,hi,by omega,fun q hq=>?_⟩;rw [hs.at_ _ (by rw [h.len];exact UJ (by omega) (by omega) (by omega) hq),← h.at_ q hq];congr 1;unfold sw ro;by_cases c1:m - i≤q∧q<m - i+(m+(j - i) - m)
 ·grind
 ·rw [if_neg c1];by_cases c2:m - i+(m+(j - i) - m)≤q∧q<m+(j - i)
  ·grind
  ·rw [if_neg c2];grind
theorem RoI.stop {p q r:Nat} (h:RoI l x a m b i j) (hs:SwP x y p q r) (hp:p=m - i) (hq:q=m) (hr:r=i) (hij:i=j):RoP l y a m b:=by
 subst hij;subst hp;have hq:=hq.symm;subst hq;have hr:=hr.symm;subst hr;have hi:=h.im;have hj:=h.jn;refine ⟨hs.perm.trans h.perm,fun q hq=>?_⟩;rw [hs.at_ _ (by rw [h.len];omega),← h.at_ q hq];congr 1;unfold sw ro;grind
theorem RoP.none (h:m≤a∨b≤m) (ham:a≤m) (hmb:m≤b):RoP l l a m b:=⟨.refl _,fun q _=>by
 congr 1;unfold ro;grind⟩
structure FstI (lt:α→α→Bool) (l:List α) (a m b i j:Nat):Prop where
 mi:m≤i
 ij:i≤j
 jb:j≤b
 lo : ∀ q,m≤q→q<i→lt (gD l q) (gD l a)=true
 hi : ∀ q,j≤q→q<b→lt (gD l q) (gD l a)=false
theorem FstI.start (h:m≤b):FstI lt l a m b m b:=⟨by omega,by omega,by omega,fun q _ _=>by omega,fun q _ _=>by omega⟩
theorem FstI.more (T:TotB lt) (h:FstI lt l a m b i j) (hs:di lt l m b) (hl:lt (gD l k) (gD l a)=true) (h1:i≤k) (h2:k<j) (hk:e=k+1):FstI lt l a m b e j:=by
 subst hk;have:=h.mi;have:=h.jb;refine ⟨by omega,by omega,h.jb,fun q q1 q2=>?_,h.hi⟩;exact T.down (hs.le T q1 (by omega) (by omega)) hl
theorem FstI.less (T:TotB lt) (h:FstI lt l a m b i j) (hs:di lt l m b) (hl:lt (gD l k) (gD l a)=false) (h1:i≤k) (h2:k<j):FstI lt l a m b i k:=by
 have:=h.mi;have:=h.jb;refine ⟨h.mi,by omega,by omega,h.lo,fun q q1 q2=>?_⟩;exact T.trans _ _ _ hl (hs.le T (by omega) q1 q2)
structure UpI (l x:List α) (a k:Nat):Prop where
 perm:x.Perm l
 at_ : ∀ q,q<l.length→gD x q=gD l (if a≤q∧q<k then q+1 else if q=k then a else q)
theorem UpI.len (h:UpI l x a k):x.length=l.length:=h.perm.length_eq
theorem UpI.start:UpI l l a a:=⟨.refl _,fun q _=>by grind⟩
theorem UpI.step (h:UpI l x a k) (hk:a≤k) (hn:k+1<l.length) (he:e=k+1):UpI l ((x.set k (gD x e)).set e (gD x k)) a e:=by
 subst he;have hx:=h.len;have h1:k<x.length:=by omega
 have h2:k+1<x.length:=by omega
 refine ⟨(qD h1 h2).trans h.perm,fun q hq=>?_⟩;rw [xz h1 h2];by_cases c1:q=k+1
 ·rw [if_pos c1,h.at_ _ (by omega),if_neg (by omega),if_pos rfl,if_neg (by omega),if_pos c1]
 ·rw [if_neg c1];by_cases c2:q=k
  ·rw [if_pos c2,h.at_ _ (by omega),if_neg (by omega),if_neg (by omega),if_pos (by omega),c2]
  ·rw [if_neg c2,h.at_ _ hq];grind
theorem UpI.stop (T:TotB lt) (h:UpI l x a k) (hf:FstI lt l a m b i j) (hs:di lt l m b) (hma:m=a+1) (hij:j≤i) (hk:k+1=i) (hb:b≤l.length):SSeg lt l x a b:=by
 have q1:=hf.mi;have q2:=hf.ij;have q3:=hf.jb;refine ⟨h.perm,fun q hq=>?_,fun q h1 h2=>?_,fun p q h1 h2 h3=>?_⟩
 ·rcases fh q l.length with c | c
  ·rw [h.at_ q c,if_neg (by omega),if_neg (by omega)]
  ·rw [vz (by rw [h.len];omega),vz c]
 ·rw [h.at_ q (by omega)];grind
 ·rw [h.at_ p (by omega),h.at_ q (by omega)];by_cases c1:p<k
  ·rw [if_pos (show a≤p∧p<k by omega)];by_cases c2:q<k
   ·rw [if_pos (show a≤q∧q<k by omega)];exact hs _ _ (by omega) (by omega) (by omega)
   ·rw [if_neg (show ¬ (a≤q∧q<k) by omega)];by_cases c3:q=k
    ·grind [cases TotB,cases FstI]
    ·grind [cases TotB,cases FstI]
  ·rw [if_neg (show ¬ (a≤p∧p<k) by omega),if_neg (show ¬ (a≤q∧q<k) by omega),if_neg (show ¬ q=k by omega)];by_cases c3:p=k
   ·rw [if_pos c3];exact hf.hi _ (by omega) (by omega)
   ·rw [if_neg c3];exact hs _ _ (by omega) (by omega) (by omega)
structure LstI (lt:α→α→Bool) (l:List α) (a m i j:Nat):Prop where
 ai:a≤i
 ij:i≤j
 jm:j≤m
 lo : ∀ q,a≤q→q<i→lt (gD l m) (gD l q)=false
 hi : ∀ q,j≤q→q<m→lt (gD l m) (gD l q)=true
theorem LstI.start (h:a≤m):LstI lt l a m a m:=⟨by omega,by omega,by omega,fun q _ _=>by omega,fun q _ _=>by omega⟩
theorem LstI.more (T:TotB lt) (h:LstI lt l a m i j) (hs:di lt l a m) (hl:lt (gD l m) (gD l k)=false) (h1:i≤k) (h2:k<j) (hk:e=k+1):LstI lt l a m e j:=by
 subst hk;have:=h.ai;have:=h.jm;refine ⟨by omega,by omega,h.jm,fun q q1 q2=>?_,h.hi⟩;exact T.trans _ _ _ (hs.le T q1 (by omega) (by omega)) hl
theorem LstI.less (T:TotB lt) (h:LstI lt l a m i j) (hs:di lt l a m) (hl:lt (gD l m) (gD l k)=true) (h1:i≤k) (h2:k<j):LstI lt l a m i k:=by
 have:=h.ai;have:=h.jm;refine ⟨h.ai,by omega,by omega,h.lo,fun q q1 q2=>?_⟩;exact T.up hl (hs.le T (by omega) q1 q2)
structure DnI (l x:List α) (m k:Nat):Prop where
 perm:x.Perm l
 at_ : ∀ q,q<l.length→gD x q=gD l (if k<q∧q≤m then q - 1 else if q=k then m else q)
theorem DnI.len (h:DnI l x m k):x.length=l.length:=h.perm.length_eq
theorem DnI.start:DnI l l m m:=⟨.refl _,fun q _=>by grind⟩
theorem DnI.step (h:DnI l x m k) (hk:k≤m) (hn:m<l.length) (he:e+1=k):DnI l ((x.set k (gD x e)).set e (gD x k)) m e:=by
 subst he;have hx:=h.len;have h1:e+1<x.length:=by omega
 have h2:e<x.length:=by omega
 refine ⟨(qD h1 h2).trans h.perm,fun q hq=>?_⟩;rw [xz h1 h2];by_cases c1:q=e
 ·rw [if_pos c1,h.at_ _ (by omega),if_neg (by omega),if_pos rfl,if_neg (by omega),if_pos c1]
 ·rw [if_neg c1];by_cases c2:q=e+1
  ·rw [if_pos c2,h.at_ _ (by omega),if_neg (by omega),if_neg (by omega),if_pos (by omega)];simp_all
  ·rw [if_neg c2,h.at_ _ hq];grind
theorem DnI.stop (T:TotB lt) (h:DnI l x m k) (hf:LstI lt l a m i j) (hs:di lt l a m) (hmb:b=m+1) (hij:j≤i) (hk:k=i) (hb:b≤l.length):SSeg lt l x a b:=by
 have q1:=hf.ai;have q2:=hf.ij;have q3:=hf.jm;refine ⟨h.perm,fun q hq=>?_,fun q h1 h2=>?_,fun p q h1 h2 h3=>?_⟩
 ·rcases fh q l.length with c | c
  ·rw [h.at_ q c,if_neg (by omega),if_neg (by omega)]
  ·rw [vz (by rw [h.len];omega),vz c]
 ·rw [h.at_ q (by omega)];grind
 ·rw [h.at_ p (by omega),h.at_ q (by omega)];by_cases c1:q≤k
  ·rw [if_neg (show ¬ (k<q∧q≤m) by omega),if_neg (show ¬ (k<p∧p≤m) by omega),if_neg (show ¬ p=k by omega)];by_cases c3:q=k
   ·rw [if_pos c3];exact hf.lo _ h1 (by omega)
   ·rw [if_neg c3];exact hs _ _ h1 h2 (by omega)
  ·rw [if_pos (show k<q∧q≤m by omega)];by_cases c2:k<p
   ·rw [if_pos (show k<p∧p≤m by omega)];exact hs _ _ (by omega) (by omega) (by omega)
   ·rw [if_neg (show ¬ (k<p∧p≤m) by omega)];by_cases c3:p=k
    ·grind [cases TotB,cases LstI]
    ·rw [if_neg c3];exact hs _ _ h1 (by omega) (by omega)
structure CutI (lt:α→α→Bool) (l:List α) (lo hi p i j:Nat):Prop where
 li:lo≤i
 ij:i≤j
 jh:j≤hi
 low : ∀ c,lo≤c→c<i→lt (gD l (p - c)) (gD l c)=false
 high : ∀ c,j≤c→c<hi→lt (gD l (p - c)) (gD l c)=true
variable {lo hi : Nat}
theorem CutI.start (h:lo≤hi):CutI lt l lo hi p lo hi:=⟨by omega,by omega,by omega,fun q _ _=>by omega,fun q _ _=>by omega⟩
theorem CutI.more (T:TotB lt) (h:CutI lt l lo hi p i j) (hA:di lt l a m) (hB:di lt l m b) (hl:lt (gD l s) (gD l k)=false) (b1:a≤lo) (b2:hi≤m) (b3:m+hi≤p+1) (b4:p<b+lo) (h1:i≤k) (h2:k<j) (hk:e=k+1) (hs:s=p - k):CutI lt l lo hi p e j:=by
 subst hk hs;have:=h.li;have:=h.jh;refine ⟨by omega,by omega,h.jh,fun c c1 c2=>?_,h.high⟩;exact T.trans _ _ _ (hA.le T (i:=c) (j:=k) (by omega) (by omega) (by omega)) (T.trans _ _ _ hl (hB.le T (i:=p - k) (j:=p - c) (by omega) (by omega) (by omega)))
theorem CutI.less (T:TotB lt) (h:CutI lt l lo hi p i j) (hA:di lt l a m) (hB:di lt l m b) (hl:lt (gD l s) (gD l k)=true) (b1:a≤lo) (b2:hi≤m) (b3:m+hi≤p+1) (b4:p<b+lo) (h1:i≤k) (h2:k<j) (hs:s=p - k):CutI lt l lo hi p i k:=by
 subst hs;have:=h.li;have:=h.jh;refine ⟨h.li,by omega,by omega,h.low,fun c c1 c2=>?_⟩;exact T.down (hB.le T (i:=p - c) (j:=p - k) (by omega) (by omega) (by omega)) (T.up hl (hA.le T (i:=k) (j:=c) (by omega) (by omega) (by omega)))
theorem MG (T:TotB lt) (h:CutI lt l lo hi p s s) (hA:di lt l a m) (hB:di lt l m b) (hr:RoP l y s m e) (hab:b≤l.length)
  (d1:d+m=p+1) (e1:e+s=p+1) (f1:a≤s) (f2:s≤m) (f3:m≤e) (f4:e≤b) (f5:lo<s∨s=a∨e=b) (f6:s<hi∨s=m∨e=m) :
  ∀ i j,a≤i→i<d→d≤j→j<b→lt (gD y j) (gD y i)=false:=by
 intro i j h1 h2 h3 h4;rw [hr.at_ i (by omega),hr.at_ j (by omega)];unfold ro;by_cases c1:i<s
 ·rw [if_neg (show ¬ (s≤i∧i<s+(e - m)) by omega),if_neg (show ¬ (s+(e - m)≤i∧i<e) by omega)];rw [if_neg (show ¬ (s≤j∧j<s+(e - m)) by omega)];by_cases c2:j<e
  ·rw [if_pos (show s+(e - m)≤j∧j<e by omega)];exact hA.le T h1 (by omega) (by omega)
  ·rw [if_neg (show ¬ (s+(e - m)≤j∧j<e) by omega)];have hc:=h.low (s - 1) (by omega) (by omega);rw [show p - (s - 1)=e by omega] at hc;exact T.trans _ _ _ (hA.le T (i:=i) (j:=s - 1) h1 (by omega) (by omega)) (T.trans _ _ _ hc (hB.le T (i:=e) (j:=j) (by omega) (by omega) h4))
 ·rw [if_pos (show s≤i∧i<s+(e - m) by omega),if_neg (show ¬ (s≤j∧j<s+(e - m)) by omega)];by_cases c2:j<e
  ·rw [if_pos (show s+(e - m)≤j∧j<e by omega)];have hc:=h.high s (by omega) (by omega);rw [show p - s=e - 1 by omega] at hc;refine T.asym _ _ (T.up (T.down (hB.le T (i:=i - s+m) (j:=e - 1) (by omega) (by omega) (by omega)) hc) (hA.le T (i:=s) (j:=j - (e - m)) (by omega) (by omega) (by omega)))
  ·rw [if_neg (show ¬ (s+(e - m)≤j∧j<e) by omega)];exact hB.le T (by omega) (by omega) h4
theorem RoP.left (hr:RoP l y s m e) (hA:di lt l a m) (f2:s≤m) (f3:m≤e) (f4:e≤l.length):di lt y a s:=fun i j h1 h2 h3=>by
 rw [hr.at_ i (by omega),hr.at_ j (by omega)];unfold ro;rw [if_neg (by omega),if_neg (by omega),if_neg (by omega),if_neg (by omega)];exact hA i j h1 h2 (by omega)
theorem RoP.mid1 (hr:RoP l y s m e) (hB:di lt l m b) (f3:m≤e) (f4:e≤b) (f2:s≤m) (hb:b≤l.length) (hd:d=s+(e - m)):di lt y s d:=fun i j h1 h2 h3=>by
 rw [hr.at_ i (by omega),hr.at_ j (by omega)];unfold ro;rw [if_pos (by omega),if_pos (by omega)];exact hB _ _ (by omega) (by omega) (by omega)
theorem RoP.mid2 (hr:RoP l y s m e) (hA:di lt l a m) (f1:a≤s) (f2:s≤m) (f3:m≤e) (f4:e≤l.length) (hd:d=s+(e - m)):di lt y d e:=fun i j h1 h2 h3=>by
 rw [hr.at_ i (by omega),hr.at_ j (by omega)];unfold ro;rw [if_neg (by omega),if_pos (by omega),if_neg (by omega),if_pos (by omega)];exact hA _ _ (by omega) (by omega) (by omega)
theorem RoP.right (hr:RoP l y s m e) (hB:di lt l m b) (f2:s≤m) (f3:m≤e) (hb:b≤l.length):di lt y e b:=fun i j h1 h2 h3=>by
 rw [hr.at_ i (by omega),hr.at_ j (by omega)];unfold ro;rw [if_neg (by omega),if_neg (by omega),if_neg (by omega),if_neg (by omega)];exact hB i j (by omega) h2 h3
theorem RoP.lower (hr:RoP l y s m e) (hA:di lt l a m) (hB:di lt l m b) (hd:d+m=s+e) (h:s≤a∨d≤s) (f1:a≤s) (f2:s≤m) (f3:m≤e) (f4:e≤b) (hb:b≤l.length):di lt y a d:=by
 rcases h with h | h
 ·have:=hr.mid1 hB f3 f4 f2 hb (d:=d) (by omega);grind
 ·have:=hr.left hA f2 f3 (by omega);grind
theorem RoP.upper (hr:RoP l y s m e) (hA:di lt l a m) (hB:di lt l m b) (hd:d+m=s+e) (h:b≤e∨e≤d) (f1:a≤s) (f2:s≤m) (f3:m≤e) (f4:e≤b) (hb:b≤l.length):di lt y d b:=by
 rcases h with h | h
 ·have:=hr.mid2 hA f1 f2 f3 (by omega) (d:=d) (by omega);grind
 ·have:=hr.right hB f2 f3 hb;grind
theorem Vi (hr:RoP l y s m e) (hz:SSeg lt y z a d) (hw:SSeg lt z w d b) (had:a≤d) (hdb:d≤b) (hb:b≤l.length) (f1:a≤s) (f2:s≤m) (f3:m≤e) (f4:e≤b)
  (hx : ∀ i j,a≤i→i<d→d≤j→j<b→lt (gD y j) (gD y i)=false):SSeg lt l w a b:=by
 have hro : ∀ q,a≤q→q<b→a≤ro s m e q∧ro s m e q<b:=fun q h1 h2=>by grind [ro]
 have hy : ∀ q,q<a∨b≤q→gD y q=gD l q:=fun q hq=>by
  rcases fh q l.length with c | c
  ·rw [hr.at_ q c];congr 1;unfold ro;grind
  ·rw [vz (by rw [hr.len];omega),vz c]
 refine ⟨hw.perm.trans (hz.perm.trans hr.perm),fun q hq=>?_,fun q h1 h2=>?_,fun i j h1 h2 h3=>?_⟩
 ·grind [cases SSeg]
 ·rcases fh q d with c | c
  ·obtain ⟨j,j1,j2,j3⟩:=hz.src q h1 c;have:=hro j j1 (by omega);exact ⟨_,this.1,this.2,by rw [hw.out q (.inl c),j3,hr.at_ j (by omega)]⟩
  ·obtain ⟨j,j1,j2,j3⟩:=hw.src q c h2;have:=hro j (by omega) j2;exact ⟨_,this.1,this.2,by rw [j3,hz.out j (.inr j1),hr.at_ j (by omega)]⟩
 ·rcases fh j d with c | c
  ·rw [hw.out i (.inl (by omega)),hw.out j (.inl c)];exact hz.srt i j h1 h2 c
  ·rcases fh i d with c2 | c2
   ·obtain ⟨i',i1,i2,i3⟩:=hz.src i h1 c2;obtain ⟨j',j1,j2,j3⟩:=hw.src j c h3;rw [hw.out i (.inl c2),i3,j3,hz.out j' (.inr j1)];simp_all
   ·exact hw.srt i j c2 h2 h3
theorem vZ (T:TotB lt) (h:CutI lt l lo hi p i s) (hA:di lt l a m) (hB:di lt l m b) (hr:RoP l y i m e) (hz:SSeg lt y z a d) (hw:SSeg lt z w d b) (his:s≤i) (hd:d+m=p+1) (he:e+i=p+1) (had:a≤d) (hdb:d≤b) (hb:b≤l.length) (f1:a≤i) (f2:i≤m) (f3:m≤e) (f4:e≤b) (f5:lo<i∨i=a∨e=b) (f6:i<hi∨i=m∨e=m):SSeg lt l w a b:=by
 have:i=s:=Nat.le_antisymm h.ij his;grind [Vi,MG]
theorem SSeg.keep (h:SSeg lt l x a b) (hs:di lt l i j) (hd:j≤a∨b≤i):di lt x i j:=fun p q h1 h2 h3=>by rw [h.out p (by omega),h.out q (by omega)];exact hs p q h1 h2 h3
def Ny (lt:α→α→Bool) (x:List α) (s n:Nat):Prop:=∀ c,di lt x (c * s) (min ((c+1) * s) n)
theorem rV {t c d:Nat} (h:a=d * t):(c+1) * t≤a∨c=d∨a+t≤c * t:=by
 subst h;rcases Nat.lt_trichotomy c d with q | q | q
 ·exact .inl (ef _ q)
 ·omega
 ·refine .inr (.inr ?_);have:=ef t q;grind
structure BlkA (lt:α→α→Bool) (l x:List α) (s a:Nat):Prop where
 perm:x.Perm l
 dv : ∃ c,a=c * s
 ok : ∀ c,di lt x (c * s) (min ((c+1) * s) a)
theorem BlkA.len (h:BlkA lt l x s a):x.length=l.length:=h.perm.length_eq
theorem BlkA.start:BlkA lt l l s 0:=⟨.refl _,⟨0,by omega⟩,fun c=>di.nil (by omega)⟩
theorem BlkA.step (h:BlkA lt l x s a) (hy:SSeg lt x y a b) (hb:b=a+s):BlkA lt l y s b:=by
 obtain ⟨d,hd⟩:=h.dv;subst hb;refine ⟨hy.perm.trans h.perm,⟨d+1,by grind⟩,fun c=>?_⟩;rcases rV (c:=c) hd with q | q | q
 ·have:=h.ok c;rw [show min ((c+1) * s) a=(c+1) * s by omega] at this;rw [show min ((c+1) * s) (a+s)=(c+1) * s by omega];exact hy.keep this (.inl q)
 all_goals grind [di.nil,cases SSeg]
theorem BlkA.last (h:BlkA lt l x s a) (hy:SSeg lt x y a n) (hn:n<a+s) (ha:a≤n):y.Perm l∧Ny lt y s n:=by
 obtain ⟨d,hd⟩:=h.dv;refine ⟨hy.perm.trans h.perm,fun c=>?_⟩;rcases rV (c:=c) hd with q | q | q
 ·have:=h.ok c;rw [show min ((c+1) * s) a=(c+1) * s by omega] at this;rw [show min ((c+1) * s) n=(c+1) * s by omega];exact hy.keep this (.inl q)
 all_goals grind [di.nil,cases SSeg]
structure BlkB (lt:α→α→Bool) (l x:List α) (s a n:Nat):Prop where
 perm:x.Perm l
 dv : ∃ c,a=c * (2 * s)
 ok : ∀ c,di lt x (c * (2 * s)) (min ((c+1) * (2 * s)) a)
 rest : ∀ c,a≤c * s→di lt x (c * s) (min ((c+1) * s) n)
theorem BlkB.len (h:BlkB lt l x s a n):x.length=l.length:=h.perm.length_eq
theorem BlkB.start (h:x.Perm l∧Ny lt x s n):BlkB lt l x s 0 n:=⟨h.1,⟨0,by omega⟩,fun c=>di.nil (by omega),fun c _=>h.2 c⟩
theorem BlkB.pre1 (h:BlkB lt l x s a n) (hm:m=a+s) (hn:m≤n):di lt x a m:=by
 obtain ⟨d,hd⟩:=h.dv;have e:a=(d * 2) * s:=by grind
 have:=h.rest (d * 2) (by omega);grind
theorem BlkB.pre2 (h:BlkB lt l x s a n) (hm:m=a+s) (hb:b≤m+s) (hn:b≤n):di lt x m b:=by
 obtain ⟨d,hd⟩:=h.dv;have e:a=(d * 2) * s:=by grind
 have e2:m=(d * 2+1) * s:=by grind
 have:=h.rest (d * 2+1) (by omega);rw [← e2,pL,← e2] at this;exact this.sub (ah _) (by omega)
theorem BlkB.step (h:BlkB lt l x s a n) (hy:SSeg lt x y a b) (hb:b=a+2 * s):BlkB lt l y s b n:=by
 obtain ⟨d,hd⟩:=h.dv;subst hb;refine ⟨hy.perm.trans h.perm,⟨d+1,by grind⟩,fun c=>?_,fun c hc=>hy.keep (h.rest c (by omega)) (.inr hc)⟩;rcases rV (c:=c) hd with q | q | q
 ·have:=h.ok c;rw [show min ((c+1) * (2 * s)) a=(c+1) * (2 * s) by omega] at this;rw [show min ((c+1) * (2 * s)) (a+2 * s)=(c+1) * (2 * s) by omega];exact hy.keep this (.inl q)
 all_goals grind [di.nil,cases SSeg]
theorem BlkB.last (h:BlkB lt l x s a n) (hy:SSeg lt x y a n) (hn:n<a+2 * s) (ht:d=2 * s) (ha:a≤n):y.Perm l∧Ny lt y d n:=by
 subst ht;obtain ⟨d,hd⟩:=h.dv;refine ⟨hy.perm.trans h.perm,fun c=>?_⟩;rcases rV (c:=c) hd with q | q | q
 ·have:=h.ok c;rw [show min ((c+1) * (2 * s)) a=(c+1) * (2 * s) by omega] at this;rw [show min ((c+1) * (2 * s)) n=(c+1) * (2 * s) by omega];exact hy.keep this (.inl q)
 all_goals grind [di.nil,cases SSeg]
theorem BlkB.one (h:BlkB lt l x s a n) (hn:n≤a+s):SSeg lt x x a n:=by
 obtain ⟨d,hd⟩:=h.dv;have e:a=(d * 2) * s:=by grind
 have:=h.rest (d * 2) (by omega);simp_all [pL,mb]
theorem Ny.all (h:Ny lt x s n) (hn:n≤s):di lt x 0 n:=by
 have:=h 0;simp_all
theorem di.pair : ∀ {x:List α},di lt x 0 x.length→x.Pairwise fun u v=>lt v u=false
 | [],_=> .nil
 | u::r,h=>kw.2 ⟨fun v hv=>by
   obtain ⟨i,hi,rfl⟩:=xG hv;have:=h 0 (i+1) (by omega) (by omega) (by simp_all);have e:gD (u::r) (i+1)=r[i]:=by grind [gD]
   rw [e] at this;exact this,di.pair fun i j _ h2 h3=>h (i+1) (j+1) (by omega) (by omega) (by simp_all)⟩
end
section
variable {α : Type} {lt : α → α → Bool}
theorem BB : ∀ {x y:List α},x.Pairwise (fun u v=>lt v u=false)→y.Pairwise (fun u v=>lt v u=false)→x.Perm y→(∀ u v,u∈x→v∈x→lt u v=false→lt v u=false→u=v)→x=y
 | [],y,_,_,hp,_=>hp.nil_eq
 | u::r, [],_,_,hp,_=>by simp_all
 | u::r,v::t,hx,hy,hp,H=>by
  obtain ⟨x1,x2⟩:=kw.1 hx;obtain ⟨y1,y2⟩:=kw.1 hy;have hv:v∈u::r:=hp.mem_iff.2 (fg ..);have hu:u∈v::t:=hp.mem_iff.1 (fg ..);have e:u=v:=by grind
  subst e;rw [BB x2 y2 ((List.perm_cons u).1 hp) fun a b ha hb=>H a b (fK _ ha) (fK _ hb)]
def Dy (lt:α→α→Bool) (a:α):List α→List α
 | []=> [a]
 | b::r=>match lt b a with | true=>b::Dy lt a r | false=>a::b::r
def OZ (lt:α→α→Bool) (l:List α):List α:=l.foldl (fun o a=>Dy lt a o) []
theorem vY (a:α) : ∀ (l:List α),(Dy lt a l).Perm (a::l)
 | []=> .refl _
 | b::r=>by
  unfold Dy;cases lt b a with
  | true=>exact ((vY a r).cons b).trans (.swap a b r)
  | false=>simp_all
theorem B9 (T:TotB lt) (a:α) : ∀ {l:List α},l.Pairwise (fun u v=>lt v u=false)→(Dy lt a l).Pairwise (fun u v=>lt v u=false)
 | [],_=>List.pairwise_singleton ..
 | b::r,h=>by
  obtain ⟨h1,h2⟩:=kw.1 h;unfold Dy;cases q:lt b a with
  | true=>
   refine kw.2 ⟨fun v hv=>?_,B9 T a h2⟩;grind [vY,cases TotB]
  | false=>
   refine kw.2 ⟨fun v hv=>?_,h⟩;grind [cases TotB]
theorem s6 (T:TotB lt) : ∀ (l o:List α),o.Pairwise (fun u v=>lt v u=false)→((l.foldl (fun o a=>Dy lt a o) o).Perm (o++l)∧(l.foldl (fun o a=>Dy lt a o) o).Pairwise fun u v=>lt v u=false)
 | [],o,h=>⟨by simp_all,h⟩
 | a::r,o,h=>by
  obtain ⟨h1,h2⟩:=s6 T r (Dy lt a o) (B9 T a h);refine ⟨h1.trans ?_,h2⟩;exact ((vY a o).append_right r).trans (List.perm_middle.symm)
theorem yj (T:TotB lt) (l:List α):(OZ lt l).Perm l:=(s6 T l [] .nil).1
theorem OQ (T:TotB lt) {l x:List α} (hp:x.Perm l) (hs:x.Pairwise fun u v=>lt v u=false) (H : ∀ u v,u∈l→v∈l→lt u v=false→lt v u=false→u=v):x=OZ lt l:=BB hs (s6 T l [] .nil).2 (hp.trans (yj T l).symm) fun u v hu hv=>H u v (hp.mem_iff.1 hu) (hp.mem_iff.1 hv)
end
end Go.Ev
namespace Go.Ev
open Go
theorem VRel.unren {ρ:Nat→Nat} {n:Nat} {pl pl2:Pl} {M:dl} {v:AV} {x:Value} (h:VRel pl2 M v x) (hp : ∀ id p,id<n→pl2 id=some p→pl (ρ id)=some p) (ht:v.top≤n):VRel pl M (Ev.ren ρ v) x:=by
 have gt : ∀ {xs:List AV} {i:Nat} {z:AV},(xs.map (Ev.ren ρ))[i]? = some z→∃ y,xs[i]? = some y∧z=Ev.ren ρ y:=by grind
 have tp : ∀ {xs:List AV} {i j:Nat} {z y:AV},aq xs≤n→xs[i]? = some z→z.cells[j]? = some y→y.top≤n:=by
  intro xs i j x y h1 h2 h3;exact kG (dr.1 h1 x (bm h2)) (bm h3)
 have sc : ∀ {xs:List AV} {sz:Nat},(∀ x,x∈xs→x.cells.length=sz∧Sc x)→∀ x,x∈xs.map (Ev.ren ρ)→x.cells.length=sz∧Sc x:=by
  intro xs sz h x hx;obtain ⟨y,hy,rfl⟩:=jK.1 hx;obtain ⟨h1,h2⟩:=h y hy;rw [fG];refine ⟨by simp_all,fun u hu=>?_⟩;rw [fG] at hu;obtain ⟨z,hz,rfl⟩:=jK.1 hu;rw [nP];exact h2 z hz
 have cel : ∀ {xs:List AV} {c:Array Value} {o sz:Nat},aq xs≤n→(∀ i x j y,xs[i]? = some x→x.cells[j]? = some y→y.top≤n→VRel pl M (Ev.ren ρ y) (c.getD (o+i * sz+j) undef))→
   ∀ i x j y,(xs.map (Ev.ren ρ))[i]? = some x→x.cells[j]? = some y→VRel pl M y (c.getD (o+i * sz+j) undef):=by
  intro xs c o sz ht h i x j y h1 h2;obtain ⟨x0,e1,rfl⟩:=gt h1;rw [fG] at h2;grind
 induction h with
 | bool b=>exact .bool b
 | int k n=>exact .int k n
 | str s=>exact .str s
 | nilp=>exact .nilp
 | ptr h1 h2 h3=>simp only [AV.top] at ht;exact .ptr (hp _ _ (by omega) h1) h2 h3
 | pptr hm hs hi hc ih=>
  simp only [AV.top] at ht;simp only [Ev.ren,eS];exact .pptr ⟨hm.1,hm.2.1,by simp_all,hm.2.2.2⟩ (sc hs) (by simp_all) (cel ht fun i x j y h1 h2 h3=>ih i x j y h1 h2 h3)
 | nils=>exact .nils
 | slice h1 h2 h3 h4 h5=>simp only [AV.top] at ht;exact .slice (hp _ _ (by omega) h1) h2 h3 h4 h5
 | sl0n _ ih=>exact .sl0n (ih (bG _))
 | sl0s _ ih=>exact .sl0s (ih ht)
 | ps hl ht' hm hs hc ih=>
  simp only [AV.top] at ht;simp only [Ev.ren,eS];have:=VRel.ps (pl:=pl) (xs:=_) (by simpa using hl) (by simpa using ht') (by simp_all) (sc hs) (cel ht fun i x j y h1 h2 h3=>ih i x j y h1 h2 h3);simp_all
 | lsn=>exact .lsn
 | lsp h ht0 ih=>
  have:=ih (by grind [AV.top]);simp only [Ev.ren,eL ρ _ ht0] at this;exact .lsp this ht0
 | nilm=>exact .nilm
 | map h1 h2=>simp only [AV.top] at ht;exact .map (hp _ _ (by omega) h1) h2
 | func h1 h2 _ _ ih1 ih2=>
  simp only [AV.top,qx] at ht;simp only [Ev.ren,eS];refine .func (by simp_all) (by simp_all) (fun j y hj=>?_) (fun j y hj=>?_)
  ·obtain ⟨z,e,rfl⟩:=gt hj;exact ih1 j z e (dr.1 ht.1 z (bm e))
  ·obtain ⟨z,e,rfl⟩:=gt hj;exact ih2 j z e (dr.1 ht.2 z (bm e))
 | nilf=>exact .nilf
 | iface _ ih=>simp only [AV.top] at ht;exact .iface (ih ht)
 | nili=>exact .nili
 | agg h1 h2 _ ih=>
  simp only [AV.top] at ht;simp only [Ev.ren,eS];refine .agg (by simp_all) (fun y hy=>?_) (fun j y hj=>?_)
  ·grind [nP]
  ·obtain ⟨z,e,rfl⟩:=gt hj;exact ih j z e (dr.1 ht z (bm e))
 | tuple h1 _ ih=>
  simp only [AV.top] at ht;simp only [Ev.ren,eS];refine .tuple (by simp_all) (fun j y hj=>?_);obtain ⟨z,e,rfl⟩:=gt hj;exact ih j z e (dr.1 ht z (bm e))
def ep0:AObj→Bool
 | .row _ _ e _=>Nat.beq e 0
 | .map _ _=>true
 | _=>false
theorem bf.ep0 {pl:Pl} {M:dl} {p:Place} {o:AObj} {x:Option Obj} (h:bf pl M p o x) (he:Ev.ep0 o=true):p.ep=0:=by
 match o,x with
 | .row sz op ep xs,some (.cells c t fr)=>rw [h.1];exact px he
 | .map es clock,some (.map entries clock')=>exact h.1
theorem Td {ρ:Nat→Nat} {o:AObj} : ep0 (jT ρ o)=ep0 o:=by cases o <;> rfl
theorem bf.unren {ρ:Nat→Nat} {n:Nat} {pl pl2:Pl} {M:dl} {o:AObj} {p:Place} {x:Option Obj} (h:bf pl2 M p o x) (he:Ev.ep0 o=true) (hp : ∀ id p,id<n→pl2 id=some p→pl (ρ id)=some p) (ht:o.top≤n):bf pl M p (jT ρ o) x:=by
 match o,x with
 | .row sz op ep xs,some (.cells c t fr)=>
  obtain ⟨h1,h2,h3,h4,h5,h6,h7,h8⟩:=h;simp only [AObj.top] at ht;have gt : ∀ {xs:List AV} {i:Nat} {z:AV},(xs.map (Ev.ren ρ))[i]? = some z→∃ y,xs[i]? = some y∧z=Ev.ren ρ y:=by grind
  simp only [jT,eS];refine ⟨h1,h2,by simp_all,h4,h5,h6,by simp_all,⟨by simpa using h8.fit,fun y hy=>?_,fun i z j y k1 k2=>?_⟩⟩
  ·obtain ⟨z,hz,rfl⟩:=jK.1 hy;obtain ⟨q1,q2⟩:=h8.elem z hz;rw [fG];refine ⟨by simp_all,fun u hu=>?_⟩;rw [fG] at hu;obtain ⟨z,hz,rfl⟩:=jK.1 hu;rw [nP];exact q2 z hz
  ·obtain ⟨z0,e1,rfl⟩:=gt k1;rw [fG] at k2;obtain ⟨y0,e2,rfl⟩:=gt k2;exact (h8.cell i z0 j y0 e1 e2).unren hp (kG (dr.1 ht z0 (bm e1)) (bm e2))
 | .map es clock,some (.map entries clock')=>
  obtain ⟨h1,h2,h3,h4⟩:=h;simp only [AObj.top] at ht;simp only [jT,qK];refine ⟨h1,h2,by simp_all,fun i e hi=>?_⟩;rw [pH] at hi;cases hx:es[i]? with
  | none=>grind
  | some e0=>
   rw [hx] at hi;cases hi
   obtain ⟨e',k1,k2,k3,k4⟩:=h4 i e0 hx;have:=pQ.1 ht e0 (bm hx);exact ⟨e',k1,k2.unren hp this.1,k3.unren hp this.2,k4⟩
theorem aF.frame {P:Program} {G:eh} (hG:iD G) {f:FuncId} {args:List AV} {v:AV} (ρ:Nat→Nat) {L L':List AObj} (hl:L'.length=L.length)
  (hL : ∀ o,o∈L→ep0 o=true∧o.top≤L.length) (hL' : ∀ o,o∈L'→ep0 o=true∧o.top≤L.length) (hm : ∀ i o,L'[i]? = some o→(ay L').get i=some o) (ht:aq args≤L.length) (hv:v.top≤L.length)
  (hi : ∀ i j,i<L.length→j<L.length→ρ i=ρ j→i=j)
  (h0:aF P G f args (ay L) (fun v1 h1=>v1=v∧h1=ay L')) {h h':AHeap} (hg : ∀ i o,L[i]? = some o→h.get (ρ i)=some (jT ρ o))
  (hg' : ∀ k o,h'.get k=some o→(∃ i o',L'[i]? = some o'∧k=ρ i∧o=jT ρ o')∨((∀ i,i<L.length→k≠ρ i)∧h.get k=some o)) (hn:h'.n=h.n) :
  aF P G f (lu ρ args) h (fun v1 h1=>v1=Ev.ren ρ v∧h1=h'):=by
 intro pl M w vs hG1 hr hvs;obtain ⟨n,en⟩ : ∃ n,n=L.length:=⟨_,rfl⟩
 rw [← en] at hL hL' ht hi hg' hv;have hat : ∀ i,i<n→∃ o,L[i]? = some o∧o∈L:=fun i h=>⟨L[i],lm (by omega),CB _⟩
 have hat' : ∀ i,i<n→∃ o,L'[i]? = some o∧o∈L':=fun i h=>⟨L'[i]'(by omega),lm (by omega),CB _⟩
 have hpl1 : ∀ k q,ju ρ n pl k=some q→k<n∧pl (ρ k)=some q:=fun k q hk=>by grind [ju]
 have hnH:(ay L).n=n:=en.symm;have hnH':(ay L').n=n:=hl.trans en.symm;have hr1:cE (ju ρ n pl) M (ay L) w:=by
  refine ⟨fun k q hk=>?_,fun k q o hk hgo=>?_,fun k q hk=>?_,fun k k' q q' hk hk' e=>?_,hr.imm,fun k q hk=>?_⟩
  ·simp_all
  ·obtain ⟨hk1,hk2⟩:=hpl1 k q hk;have:=nw hgo;exact (hr.obj (ρ k) q _ hk2 (hg k o this)).ren (hL o (bm this)).2
  ·exact hr.blk _ q (hpl1 k q hk).2
  ·obtain ⟨a1,a2⟩:=hpl1 k q hk;obtain ⟨b1,b2⟩:=hpl1 k' q' hk';exact hi k k' a1 b1 (hr.inj _ _ q q' a2 b2 e)
  ·exact hr.sep _ q (hpl1 k q hk).2
 have hvs1:VRels (ju ρ n pl) M args vs:=⟨by rw [← hvs.len,eS,cX],fun j y hj=>(hvs.at_ j (Ev.ren ρ y) (by grind [eS])).ren rfl (dr.1 ht y (bm hj))⟩
 have hG1':pq G (ju ρ n pl) M:=hG1.none hG;have fin : ∀ cv w',gP (ju ρ n pl) M (ay L) w v (ay L') cv w'→gP pl M h w (Ev.ren ρ v) h' cv w':=by
  intro cv w' ⟨pl2,M2,k1,k2,k3,k4⟩;have kept : ∀ b,b<w.heap.size→(∀ i q,i<n→pl (ρ i)=some q→q.blk≠b)→w'.heap[b]? = w.heap[b]?:=fun b hb hne=>k3.kept b hb fun k q hk _=>hne k q (hpl1 k q hk).1 (hpl1 k q hk).2
  have same : ∀ i,i<n→pl2 i=pl (ρ i):=by
   intro i hin;cases hp:pl (ρ i) with
   | none=>exact k3.new i (by omega) (by simp_all [ju])
   | some p=>
    obtain ⟨p2,e1,e2,e3⟩:=k3.ext i p (tX hin hp);obtain ⟨o,h1,h2⟩:=hat i hin;obtain ⟨o',h1',h2'⟩:=hat' i hin;have q1:p.ep=0:=(hr.obj (ρ i) p _ hp (hg i o h1)).ep0 (by grind [Td]);have q2:p2.ep=0:=(k2.obj i p2 o' e1 (hm i o' h1')).ep0 (hL' o' h2').1;simp_all
  have hun : ∀ id p,id<n→pl2 id=some p→pl (ρ id)=some p:=fun id p h1 h2=>by simp_all
  refine ⟨pl,M2,k1.unren hun hv,⟨fun k q hk=>by rw [hn];exact hr.dom k q hk,fun k q o hk hgo=>?_,fun k q hk=>Ey (hr.blk k q hk) k3.size,hr.inj,k2.imm,fun k q hk=>?_⟩,⟨nX.refl _,fun _ _ h=>h,k3.mem,k3.size,fun b hb hk=>kept b hb fun i q hin hp e=>?_,fun k q hk=> .inl ⟨q,hk,rfl⟩,fun k q hk hno=>?_,fun _ _ h _=>h,k3.memNew,k3.os,k3.tape,k3.out,k3.drawn⟩,vo hn.symm⟩
  ·rcases hg' k o hgo with ⟨i,o',h1,rfl,rfl⟩ | ⟨hne,hgo⟩
   ·have hin:i<n:=by grind
    have hm':=bm h1;exact (k2.obj i q o' (by simp_all) (hm i o' h1)).unren (hL' o' hm').1 hun (hL' o' hm').2
   ·rw [kept _ (hr.blk k q hk) fun i q' hin hp e=>hne i hin (hr.inj _ _ q q' hk hp e.symm)];exact (hr.obj k q o hk hgo).mono (nX.refl _) k3.mem
  ·cases hM:M2 q.blk with
   | none=>rfl
   | some c2=>
    rcases k3.memNew _ c2 hM with k5 | k5
    ·rw [hr.sep k q hk] at k5;grind
    ·have:=hr.blk k q hk;omega
  ·grind
  ·cases hq:h'.get k with
   | none=>rfl
   | some o=>grind
 rcases h0 (ju ρ n pl) M w vs hG1' hr1 hvs1 with ⟨h1,h2⟩ | ⟨cv,w',v1,h1,q1,⟨q2,q3⟩,q4⟩
 ·exact .inl ⟨h1,Calls.mono h2 fun e w' ⟨cv,v1,h1,k1,⟨k2,k3⟩,k4⟩=>⟨cv,Ev.ren ρ v,h',k1,⟨rfl,rfl⟩,by simp_all⟩⟩
 ·exact .inr ⟨cv,w',Ev.ren ρ v,h',q1,⟨rfl,rfl⟩,by simp_all⟩
end Go.Ev
namespace Go.Ev
open Go
section
variable {P : Program} {G : eh} {call : cQ} {m : Nat} {c : Code} {d : D} {s s' : St} {ops : Array Oper}
theorem Db (hm:P.follows .mixedOrders=true) (hG:iD G) (hc:cw P G call) (d:D) (e:(WP P G call m c).run d s (fun e _ s=>e = .normal∧s=s')=(AExit.normal = .normal∧s'=s')):al P G (some m) c s (fun e s=>e = .normal∧s=s'):=Uh hm hG hc c d s _ _ (e ▸ ⟨rfl,rfl⟩) fun _ _ _ _ h=>h
theorem xb (hG:iD G) (hc:cw P G call) {id:Nat} {Ψ:St→Prop} (d:D) {W:Prop} (p:W) (e:Wz P G call m ops ops.toList d s (fun _ s=>Ψ s)=W):al P G (some m) (.region id ops false) s (fun e s=>e = .normal∧Ψ s):=al.region (gK hG hc _ d s _ (e ▸ p) fun _ _ _ h=>⟨rfl,h⟩)
end
section
variable {P : Program} {G : eh} {ops : Array Oper} {o : Oper} {l : List Oper} {s : St} {b : Option Nat}
theorem rj {Y:Type} {I:Y→Prop} {r:Y→AV} {H:Y→AHeap} {Φ:St→Prop} (hg:ed s.tmps (ez ops o)=some true)
  (hO : ∀ (pl:Pl) (M:dl) (a:Act) (w:World),pq G pl M→cE pl M s.heap w→FrRel pl M s.tmps a→∃ y pl' M' cv w',I y∧(execOp a.eval o).run P w = .ok (.value cv) w'∧VRel pl' M' (r y) cv∧cE pl' M' (H y) w'∧cP s.heap pl M w (H y) pl' M' w'∧s.heap.n≤(H y).n)
  (h : ∀ y,I y→∃ A',iH s.tmps o.dst (r y)=some A'∧cj P G b ops l ⟨A',H y⟩ Φ):cj P G b ops (o::l) s Φ:=by
 intro i N h0' pl0 M0 w0 a w Q hb hl' hs hQ;have ho:ops[i]? = some o:=by simpa using hl' 0
 obtain ⟨pl,M,g1,g2,g3,g4,g5⟩:=hs.ex;simp only [cN,BJ,wpOps,ho];rw [fq g3 hg];simp only [if_true];left;obtain ⟨y,pl',M',cv,w',i1,i2,i3,i4,i5,i6⟩:=hO pl M a w g1 g2 g3;obtain ⟨A',e1,e2⟩:=h y i1;obtain ⟨p1,p2⟩:=nq (g3.mono i5.ext i5.mem) i3 (by rw [hs.n];exact hs.small) e1;have nxt:=e2 (i+1) N h0' pl0 M0 w0 (a.put o.dst cv) w' Q hb (fun j=>by have:=hl' (j+1);grind)
  ⟨⟨pl',M',g1.mono i5.ext i5.mem,i4,p1,g4.trans i5 g5,bH g5 i6⟩,by rw [← hs.n];omega,hs.small⟩ hQ
 unfold Oper.wp;rw [i2];exact nxt
theorem uc {t tx e:TypeId} {i:TypeInfo} {sz bt:Nat} (hsz:i.size=sz) (hbt:i.bytes=bt) {z z0:AV} {sO xO:Operand} {dst:Option Tmp} {ty:TypeId} {pos:String} {after:Array Edge} {guard:Option (Nat × Bool)} {xs:List AV}
  (ht:P.underlying t=some (.slice e)) (hk : ∃ e',P.underlying tx=some (.slice e')) (hi:P.info? e=some i) (hz:iP P e=some z0) (hzl:Le z z0)
  (hs:(co G sO).run s.tmps=some (.ps [] true)) (hx:(co G xO).run s.tmps=some (.ls xs)) (hne:xs≠ []) (hfit:dn sz xs=true) (hzf:dn sz [z]=true) (hsm:small xs.length bt=true) (hs0:0<sz)
  (pl:Pl) (M:dl) (a:Act) (w:World) (g1:pq G pl M) (g2:cE pl M s.heap w) (g3:FrRel pl M s.tmps a) :
  ∃ (k:Nat) (pl':Pl) (M':dl) (cv:Value) (w':World),True∧(execOp a.eval ⟨dst, .call ⟨.builtin .append,#[sO,xO],#[t,tx]⟩,ty,pos,after,guard⟩).run P w = .ok (.value cv) w'∧
   VRel pl' M' (.slice s.heap.n 0 0 xs.length (some (xs.length+k))) cv∧cE pl' M' (s.heap.push (.row sz false 0 (xs++List.replicate k z))) w'∧cP s.heap pl M w (s.heap.push (.row sz false 0 (xs++List.replicate k z))) pl' M' w'∧s.heap.n≤(s.heap.push (.row sz false 0 (xs++List.replicate k z))).n:=by
 subst hsz;subst hbt;have hsr:=bQ g1 g3 hs;have hxr:=bQ g1 g3 hx;obtain ⟨news,hsrc⟩:=yx (P:=P) g2 hxr (show kj s.heap (.ls xs)=some xs from rfl) hne hfit;obtain ⟨i2,zv,hz1,hz2,hz3⟩:=md hz;rw [hi] at hz1;cases hz1
 obtain ⟨b1,b2⟩:=ja hsm;have hpos:0<xs.length:=pG.2 hne;generalize hq:a.eval sO=cs at hsr;generalize hq2:a.eval xO=cx at hxr hsrc;cases hsr with
 | ps hl htt hm hs2 hc=>
  rename_i ad cap sz c;have hcap:cap=0:=htt rfl;subst hcap;have hzr:=hzl _ _ _ (dI (pl:=pl) (M:=M) hz3);have hzt:=mW hzf z (by simp);have hzsz:zv.cells.size=i.size:=by rw [← hzr.cells.len];omega
  have hrun:=run_append_grow_src (P:=P) w t tx ty e i zv ht hi hz2 (some ad) 0 0 [] (by simp [Builtin.firstCells,loadCells,loadCellsFrom]) cx xs.length news (hsrc.src (.inl hk)) (by omega) (by omega) (growslice_fits (by omega) (by grind));have hge:=grownCap_ge w (0+xs.length) 0 e;obtain ⟨C,hC⟩ : ∃ C,C=grownCap w (0+xs.length) 0 e:=⟨_,rfl⟩
  rw [← hC] at hrun hge;have hin:=eN hzr hzt.2 (C - (0+xs.length)) hzt.1 hs0;have hzl:(Builtin.zeroCells zv.cells (C - (0+xs.length))).toList.toArray=(Array.range ((C - (0+xs.length)) * i.size)).map (zv.cells[· % zv.cells.size]!):=by grind [Builtin.zeroCells]
  have hnl:(Builtin.zeroCells zv.cells (C - (0+xs.length))).toList.length=(List.replicate (C - (0+xs.length)) z).length * i.size:=by grind [Builtin.zeroCells]
  have hin2:=j9 (news:=(Builtin.zeroCells zv.cells (C - (0+xs.length))).toList) hsrc.mem (by grind) hsrc.newsLen hnl #[];have hce:(news++(Builtin.zeroCells zv.cells (C - (0+xs.length))).toList).toArray++#[]=([]++news).toArray++Builtin.zeroCells zv.cells (C - (0+xs.length)):=by grind
  rw [hce] at hin2;have hcs:(([]++news).toArray++Builtin.zeroCells zv.cells (C - (0+xs.length))).size=(xs++List.replicate (C - (0+xs.length)) z).length * i.size:=by simp only [pI,Ea,BV,hsrc.newsLen,size_zeroCells,hzsz,dS,pF,jo]
  obtain ⟨cells,hcells⟩ : ∃ cells,cells=([]++news).toArray++Builtin.zeroCells zv.cells (C - (0+xs.length)):=⟨_,rfl⟩
  rw [← hcells] at hrun hin2 hcs;have hxl:(xs++List.replicate (C - (0+xs.length)) z).length=C:=by grind
  let p:Place:=⟨w.heap.size,0,i.size,C,C * i.size⟩
  have hwd:(w.drew.alloc (.cells cells e)).heap=w.heap.push (.cells cells e):=rfl;obtain ⟨r1,r2⟩:=cE.alloc (o:= .row i.size false 0 (xs++List.replicate (C - (0+xs.length)) z)) (p:=p) g2 hwd ⟨rfl,rfl,rfl,nM _⟩ rfl
   ⟨rfl,rfl,hxl.symm,by grind,rfl,hs0,fun _=>hcs,hin2.mono (fun id q hq=>⟨q,by rw [cL (by have:=g2.dom id q hq;omega)];omega,ah _,fun _=>rfl⟩) (fun _ _ h=>h)⟩
  refine ⟨C - (0+xs.length),upd pl s.heap.n p,M, .slice (some ⟨w.heap.size,0,none⟩) (0+xs.length) C,w.drew.alloc (.cells cells e),trivial,?_,?_,r1,r2,nM _⟩
  ·simp only [execOp,resolve,invoke,builtin,Sem.run_bind,Sem.run_pure,Result.andThen_ok,List.map_toArray,ee,vn,hq,hq2];show (Sem.run P (Builtin.append_ #[t,tx] ty #[Value.slice (some ad) 0 0,cx]) w).andThen _=_
   rw [hrun];rfl
  ·rw [gY] at hge ⊢;refine .slice (dG _ _ _) (ah _) hge (fun k hk=>by grind) (fun _=>⟨.inr (by grind),by grind,by grind,(fun hk=>by grind),(fun k hk=>by grind)⟩)
end
end Go.Ev
namespace Go.Ev
open Go
section
variable {s id ep off len c l h m a b d sz bt i n k : Nat} {hp H : AHeap} {xs ys zs new : List AV} {lo hi mx cap : Option Nat} {op : Bool} {x z : AV} {vl vh vm : Option AV}
theorem iZ (hg:qQ s hp id ep=some xs) (h1:iS 0 vl=some l) (h2:iS len vh=some h) (q1:l≤h) (q2:h≤c) (q3:c≠l) (e1:off+l=a) (e2:h - l=b) (e3:c - l=d) :
  bj H (dK s hp (some (.slice id ep off len (some c))) vl vh none)=some (.val (.slice id ep a b (some d)) H):=by
 have p1:Nat.ble l h=true:=sL q1;have p2:Nat.ble h c=true:=sL q2;have p3:Nat.beq c l=false:=by grind [an]
 simp only [dK,fN,hg,h1,h2,room,pe,p1,p2,p3,xH,e1,e2,e3,bj]
theorem CO (hg:qQ s hp id ep=some xs) (h1:iS 0 vl=some l) (h2:fp x=some h) (h3:fp z=some m) (q1:l≤h) (q2:h≤m) (q3:m≤c) (q4:m≠l) (e1:off+l=a) (e2:h - l=b) (e3:m - l=d) :
  bj H (dK s hp (some (.slice id ep off len (some c))) vl (some x) (some z))=some (.val (.slice id ep a b (some d)) H):=by
 have p1:Nat.ble l h=true:=sL q1;have p2:Nat.ble h m=true:=sL q2;have p3:Nat.beq m l=false:=by grind [an]
 simp_all [sL,dK,fN,room,pe,bj]
theorem Ja (hg:qQ s hp id ep=some xs) (h1:iS 0 vl=some l) (h2:iS len vh=some h) (q1:l=h) (q3:c=l) :
  bj H (dK s hp (some (.slice id ep off len (some c))) vl vh none)=some (.val (.slice id ep 0 0 (some 0)) H):=by
 subst q1;subst q3;have p1:Nat.ble c c=true:=sL (ah _);have p3:Nat.beq c c=true:=pC _;simp only [dK,fN,hg,h1,h2,room,pe,p1,p3,xH,bj]
theorem Jy (hg:qQ s hp id ep=some xs) (h1:iS 0 vl=some l) (h2:iS len vh=some h) (q1:l≤h) (q2:h+off≤xs.length) (e1:off+l=a) (e2:h - l=b) :
  bj H (dK s hp (some (.slice id ep off len none)) vl vh none)=some (.val (.slice id ep a b none) H):=by
 grind [Nat.ble_eq_true_of_le,dK,fN,room,pe,bj]
theorem yz (hg:H.get id=some (.row sz op ep xs)) (e:(xs.drop off).take len=zs):kj H (.slice id ep off len cap)=some zs:=by grind [Nat.beq_refl,kj,kJ]
theorem N0 {xs ys:List AV} {n:Nat} (h:xs.length=n):((xs++ys).drop 0).take n=xs:=by simp_all
theorem vH {xs:List AV} {t:Bool} {n:Nat} (h:aq xs=0):Nat.ble (AV.ps xs t).top n=true:=by simp_all [AV.top]
theorem KS (hg:H.get id=some (.row sz op ep xs)) (hx:kj H x=some new) (hf:dn sz new=true) (hne:new≠ []) (hc:len+new.length≤c) (hl:off+len+new.length≤xs.length) (hs:small (len+new.length) bt=true) (e1:len+new.length=n) (e2:bC xs (off+len) new=ys) :
  fU (dx sz bt H (some (.slice id ep off len (some c))) (some x))=some (.val (.slice id ep off n (some c)) (H.put id (.row sz op ep ys))):=by
 subst e1;cases new with
 | nil=>simp_all
 | cons y r=>simp_all [sL,dx,gx,gM,fU]
theorem RQ (hx:kj H x=some []):fU (dx sz bt H (some (.slice id ep off len cap)) (some x))=some (.val (.slice id ep off len cap) H):=by grind [dx,gx,gM,fU]
theorem TT (hg:H.get id=some (.row sz op ep xs)) (hx:kj H x=some new) (hf:dn sz new=true) (hne:new≠ []) (hc:c<len+new.length) (hs:small (len+new.length) bt=true) (e1:(xs.drop off).take len++new=ys) (e2:ys.length=n) :
  fU (dx sz bt H (some (.slice id ep off len (some c))) (some x))=some (.val (.slice H.n 0 0 n none) (H.push (.row sz true 0 ys))):=by
 cases new with
 | nil=>simp_all
 | cons y r=>
  have p1:Nat.beq ep ep=true:=pC ep;have p2:Nat.beq sz sz=true:=pC sz;have p3:Nat.ble (len+(y::r).length) c=false:=by grind [bX]
  simp_all [dx,gx,gM,iU,fU]
theorem Sg (hg:H.get id=some (.row sz op ep xs)) (hk:0<k) (hc:c<len+k) (hf:dn sz [z]=true) (hs:small (len+k) bt=true) (hs2:small k bt=true) (e1:(xs.drop off).take len++List.replicate k z=ys) (e2:ys.length=n) :
  fU (BT sz bt z H (some (.slice id ep off len (some c))) (some (.int .i64 (.ofNat k))))=some (.val (.slice H.n 0 0 n none) (H.push (.row sz true 0 ys))):=by
 have p1:Nat.beq ep ep=true:=pC ep;have p2:Nat.beq sz sz=true:=pC sz;grind [Nat.ble_eq_true_of_le,Nat.blt,BT,JL,iU,fU]
theorem KF (hg:H.get id=some (.row sz op ep xs)) (hx:kj H x=some zs) (hf:dn sz (zs.take len)=true) (e1:min zs.length len=k) (e2:bC xs off (zs.take len)=ys) :
  fU (uU sz H (some (.slice id ep off len cap)) (some x))=some (.val (.int .i64 (.ofNat k)) (H.put id (.row sz op ep ys))):=by
 grind [Nat.beq_refl,uU,KG,fU]
theorem IC (hg:H.get id=some (.row sz op ep xs)) (hf:dn sz [z]=true) (e2:bC xs off (List.replicate len z)=ys) :
  fU (vb sz z H (some (.slice id ep off len cap)))=some (.val gZ (H.put id (.row sz op ep ys))):=by
 grind [Nat.beq_refl,vb,fU]
theorem qT {sz:Nat} : ∀ {xs:List AV} {n:Nat},dn sz xs=true→dn sz (xs.take n)=true
 | [],n,h=>by simp_all
 | x::r,0,_=>rfl
 | x::r,n+1,h=>by
  simp only [List.take_succ_cons,dn,bJ] at h ⊢;exact ⟨h.1,qT h.2⟩
theorem rQ {sz:Nat} : ∀ {xs:List AV} {n:Nat},dn sz xs=true→dn sz (xs.drop n)=true
 | [],n,h=>by simp_all
 | x::r,0,h=>h
 | x::r,n+1,h=>by
  simp only [List.drop_succ_cons,dn,bJ] at h ⊢;exact rQ h.2
end
theorem AH {P : Program} {G : eh} {f : FuncId} {fn : Func} {tS tR e : TypeId} {n : Nat} (hf : P.funcs[f]? = some fn) (hname : (fn.name == "runtime.NumGoroutine") = false) (hb : fn.body.isNone = true) (hn : Extern.findNext fn = none) (he : Extern.find fn = some (Extern.SlicesOverlaps.overlaps #[tS, tS] #[tR]))
  (ht:P.underlying tS=some (.slice e)) (hi:cM P e=some n) {xs ys:List AV} {t:Bool} {id off len c sz:Nat} {op:Bool} {h:AHeap} (hne:xs≠ []) (hgo:h.get id=some (.row sz op 0 ys)) :
  aF P G f [.ps xs t, .slice id 0 off len (some c)] h (fun v h'=>v = .bool false∧h'=h):=by
 intro pl M w vs hG hr hv;right;refine ⟨.bool false,w, .bool false,h,?_,⟨rfl,rfl⟩,pl,M, .bool false,hr,cP.refl _ _ _ _,ah _⟩;have v0:=hv.at_ 0 _ rfl;have v1:=hv.at_ 1 _ rfl;have hvs:vs = #[vs.getD 0 undef,vs.getD 1 undef]:=by
  have hl:vs.size=2:=hv.len.symm;apply Array.ext
  ·omega
  ·intro i h1 h2
   match i,h2 with
   | 0,_=>simp_all
   | 1,_=>simp_all
 rw [run_callFunc_extern hf hname hb hn he,hvs];generalize vs.getD 0 undef=x0 at v0;generalize vs.getD 1 undef=x1 at v1;cases v0 with
 | ps hl htt hm hs hc=>
  rename_i a cap0 sz0 c0;obtain ⟨m1,m2,m3,m4⟩:=hm hne;have hpos:0<xs.length:=pG.2 hne;cases v1 with
  | slice hp hep hl1 hk ha=>
   rename_i cap1 b p;have hcap:=hk c rfl;subst hcap;obtain ⟨tA,frA,hA⟩:=hr.imm _ _ m2;have ho:=hr.obj id p _ hp hgo;obtain ⟨cB,tB,hB,hpe⟩ : ∃ cB tB,w.heap[p.blk]? = some (.cells cB tB (0,0))∧p.ep=0:=by
    cases hb2:w.heap[p.blk]? with
    | none=>rw [hb2] at ho;exact ho.elim
    | some ob=>
     rw [hb2] at ho;cases ob with
     | cells cB tB fr=>obtain ⟨h1,_,_,_,h5,_⟩:=ho;grind
     | _=>exact ho.elim
   have hsep:=hr.sep id p hp;have hsz:=ct hi w;have hc0:c0.size≠0:=by
    have:0<xs.length * sz0:=Nat.mul_pos hpos m4;omega
   obtain ⟨q1,-⟩:=ha hpe.symm
   suffices hh:(Extern.SlicesOverlaps.overlaps #[tS,tS] #[tR] #[.slice (some a) xs.length cap0, .slice (some b) len cap1]).run P w = .ok (.bool false) w by rw [hh];rfl
   generalize xs.length=la;change Sem.run P (α:=Value) (do
    let some t := (#[tS, tS] : Array TypeId)[0]? | stuck "slices.overlaps: no parameter types"
    let .slice elem ← underlying t | stuck "slices.overlaps: slice type expected"
    let size ← sizeOf elem
    match (some a:Option Addr),(some b:Option Addr) with
    | some a,some b=>
     if la=0∨len=0∨size=0 then pure (Value.bool false)
     else if a.block != b.block && (← frozen a) && (← frozen b) then unsupported .addressObserved
     else do
      if a.block != b.block then do
       noView a;noView b
       if ← mayBeOne a b then return Value.bool ((← choose (.extern "sameAddr.stringBytes" 2)) == 1)
      pure (Value.bool (a.block == b.block && a.off<b.off+len * size && b.off<a.off+la * size))
    | _,_=>pure (Value.bool false)) w=_
   by_cases h0:la=0∨len=0∨n=0
   ·simp [run_underlying ht,hsz,h0]
   ·have hbk:b=⟨p.blk,off * p.sz,none⟩:=by grind
    subst hbk;have hnb:a.block≠p.blk:=fun e=>by grind
    have hnb1:(a.block != p.blk)=true:=by grind
    have hnb2:(a.block == p.blk)=false:=by grind
    have f1 : ∀ o,w.frozen? ⟨p.blk,o,none⟩=false:=fun o=>by grind [World.frozen?]
    have s1:w.shape? a.block=some (tA,c0.size):=by grind [World.shape?]
    have s2:w.shape? p.blk=some (tB,cB.size):=by grind [World.shape?]
    cases hsx:c0.size with
    | zero=>omega
    | succ kA=>
     rw [hsx] at s1;cases hfa:w.frozen? a <;> cases hfb:w.frozen? { block:=a.block,off:=kA+1 } <;>
     simp [run_underlying ht,hsz,h0,hnb1,hnb2,frozen,noView,viewAt,mayBeOne,stringish,shape,Sem.run,s1,s2,f1,hfa,hfb]
def SZ (rs:List Nat):AHeap→List AObj→Nat→AHeap
 | h, [],_=>h
 | h,o::r,i=>SZ rs (h.put (fC rs i) (jT (fC rs) o)) r (i+1)
def WX (rs:List Nat) (h:AHeap):List AObj→Nat→Prop
 | [],_=>True
 | o::r,i=>h.get (fC rs i)=some (jT (fC rs) o)∧WX rs h r (i+1)
def PO (h:AHeap):List AObj→Nat→Prop
 | [],_=>True
 | o::r,i=>h.get i=some o∧PO h r (i+1)
def CE (n:Nat):List AObj→Prop
 | []=>True
 | o::r=>(ep0 o=true∧o.top≤n)∧CE n r
theorem Ob (rs:List Nat) : ∀ (l:List AObj) (h:AHeap) (i:Nat),(SZ rs h l i).n=h.n
 | [],_,_=>rfl
 | _::r,h,i=>Ob rs r _ (i+1)
theorem KO {rs:List Nat} {h:AHeap} : ∀ {l:List AObj} {i j:Nat} {o:AObj},WX rs h l i→l[j]? = some o→h.get (fC rs (i+j))=some (jT (fC rs) o)
 | x::r,i,0,o,a,e=>by simp at e;subst e;exact a.1
 | x::r,i,j+1,o,a,e=>by
  have:=KO (i:=i+1) (j:=j) a.2 (by simpa using e);grind
theorem F3 {h:AHeap} : ∀ {l:List AObj} {i j:Nat} {o:AObj},PO h l i→l[j]? = some o→h.get (i+j)=some o
 | x::r,i,0,o,a,e=>by simp at e;subst e;exact a.1
 | x::r,i,j+1,o,a,e=>by
  have:=F3 (i:=i+1) (j:=j) a.2 (by simpa using e);grind
theorem uC {n:Nat} : ∀ {l:List AObj},CE n l→∀ o,o∈l→ep0 o=true∧o.top≤n
 | x::r,a,o,e=>by
  rcases eP.1 e with rfl | e
  ·exact a.1
  ·exact uC a.2 o e
theorem E9 {rs:List Nat} : ∀ {l:List AObj} {h:AHeap} {i k:Nat} {o:AObj},(∀ j,j<l.length→fC rs (i+j)<1000000)→(SZ rs h l i).get k=some o→
  (∃ j o',l[j]? = some o'∧k=fC rs (i+j)∧o=jT (fC rs) o')∨((∀ j,j<l.length→k≠fC rs (i+j))∧h.get k=some o)
 | [],h,i,k,o,_,e=> .inr ⟨fun j hj=>absurd hj (pD _),e⟩
 | x::r,h,i,k,o,hb,e=>by
  rcases E9 (l:=r) (i:=i+1) (fun j hj=>by have:=hb (j+1) (by simp_all);grind) e with ⟨j,o',h1,h2,h3⟩ | ⟨h1,h2⟩
  ·exact .inl ⟨j+1,o',by simp_all,by grind,h3⟩
  ·rcases AHeap.get_put (by have:=hb 0 (Nat.zero_lt_succ _);omega) h2 with ⟨h3,h4⟩ | ⟨h3,h4⟩
   ·exact .inl ⟨0,x,rfl,h3,h4⟩
   grind
theorem FO {q:Nat→Bool} : ∀ {rs:List Nat} {i:Nat},rs.all q=true→i<rs.length→q (fC rs i)=true
 | x::r,0,h,_=>by simp only [List.all_cons,bJ] at h;exact h.1
 | x::r,i+1,h,hi=>by
  simp only [List.all_cons,bJ] at h;exact FO (rs:=r) (i:=i) h.2 (by simp_all)
theorem pU {P:Program} {G:eh} (hG:iD G) {f:FuncId} {args args':List AV} {v v':AV} {L L' os os':List AObj} (rs:List Nat)
  (h0:aF P G f args (ay L) (fun v1 h1=>v1=v∧h1=ay L')) (ea:lu (fC rs) args=args') (ev:Ev.ren (fC rs) v=v')
  (c:(yB rs && (Nat.beq rs.length L.length && (Nat.beq L'.length L.length && rs.all fun x=>Nat.blt x 1000000)))=true)
  (hL:CE L.length L) (hL':CE L.length L') (ht:aq args≤L.length) (hv:v.top≤L.length)
  (a1:WX rs (ay os) L 0) (a2:PO (ay L') L' 0) (a3:ay os'=SZ rs (ay os) L' 0):aF P G f args' (ay os) (fun v1 h1=>v1=v'∧h1=ay os'):=by
 simp only [bJ,an,decide_eq_true_eq] at c;obtain ⟨c1,c2,c3,c4⟩:=c;subst ea;subst ev;rw [a3];refine aF.frame hG (fC rs) c3 (uC hL) (uC hL') (fun i o hi=>by have:=F3 a2 hi;simp_all) ht hv (fun i j hi hj=>qH c1 i j (by omega) (by omega)) h0
  (fun i o hi=>by have:=KO a1 hi;simp_all) (fun k o hk=>?_) (Ob rs L' _ 0)
 rcases E9 (fun j hj=>by have:=FO c4 (show 0+j<rs.length by omega);simp_all) hk with ⟨j,o',h1,h2,h3⟩ | ⟨h1,h2⟩
 all_goals grind
theorem uM {ρ:Nat→Nat} {sz ep:Nat} {b:Bool} {xs:List AV} (h:aq xs=0):jT ρ (.row sz b ep xs) = .row sz b ep xs:=by grind [jT,eL]
theorem fJ {P:Program} {G:eh} (hG:iD G) {f:FuncId} {args args':List AV} {v v':AV} {sz:Nat} {b b':Bool} {xs xs':List AV} {os os':List AObj} (id:Nat) (hx:aq xs=0) (hx':aq xs'=0)
  (h0:aF P G f args (ay [.row sz b 0 xs]) (fun v1 h1=>v1=v∧h1=ay [.row sz b' 0 xs'])) (ea:lu (fC [id]) args=args') (ev:Ev.ren (fC [id]) v=v') (c:Nat.blt id 1000000=true)
  (ht:Nat.ble (aq args) 1=true) (hv:Nat.ble v.top 1=true) (a1:(ay os).get id=some (.row sz b 0 xs)) (a3:ay os'=(ay os).put id (.row sz b' 0 xs')):aF P G f args' (ay os) (fun v1 h1=>v1=v'∧h1=ay os'):=
 pU hG [id] h0 ea ev (by simp only [yB,i9,List.all_cons,List.all_nil,c];rfl) ⟨⟨rfl,by grind [AObj.top]⟩,trivial⟩ ⟨⟨rfl,by grind [AObj.top]⟩,trivial⟩ (uo ht) (uo hv)
  ⟨by rw [uM hx];exact a1,trivial⟩ ⟨rfl,trivial⟩ (by rw [a3];show _=AHeap.put _ _ (jT _ _);rw [uM hx'];rfl)
end Go.Ev
namespace Go.Ev
open Go
def mG (u:TUnit) (ks:List TUnit):TUnit:=⟨u.act,u.item,u.n,u.kind,u.label,u.head,u.words,ks⟩
def iE (w:List PWord) (u:TUnit):TUnit:=⟨u.act,u.item,u.n,u.kind,u.label,u.head,w,u.kids⟩
def qa (w:List PWord) (u:TUnit):TUnit:=⟨u.act,u.item,u.n,u.kind,u.label,w,u.words,u.kids⟩
def kO (s:aP) (u:TUnit):TUnit:=⟨u.act,u.item,u.n,u.kind,s,u.head,u.words,u.kids⟩
def wq (i:Nat) (x:TUnit) (l:List TUnit):List TUnit:=l.take i++(x::l.drop i)
def fD (i:Nat) (u:TUnit):TUnit:=mG u (u.kids.eraseIdx i)
def dw (i:Nat) (x:TUnit) (u:TUnit):TUnit:=mG u (wq i x u.kids)
mutual
def dQ (p:PId) (f:TUnit→TUnit):TUnit→TUnit
 | ⟨a,i,n,k,l,h,w,ks⟩=>bif fT p ⟨a,i,n,k,l,h,w,ks⟩ then f ⟨a,i,n,k,l,h,w,ks⟩ else ⟨a,i,n,k,l,h,w,eb p f ks⟩
def eb (p:PId) (f:TUnit→TUnit):List TUnit→List TUnit
 | []=> []
 | k::r=>bif cJ p k then dQ p f k::r else k::eb p f r
end
section
variable {p : PId} {f : TUnit → TUnit} {u w : TUnit} {l r : List TUnit} {i : Nat}
theorem Eg (p:PId) (f:TUnit→TUnit) (u:TUnit):dQ p f u=bif fT p u then f u else mG u (eb p f u.kids):=by cases u;rw [dQ];rfl
theorem rN:eb p f [] = []:=by rw [eb]
theorem jp (k:TUnit) (r:List TUnit):eb p f (k::r)=bif cJ p k then dQ p f k::r else k::eb p f r:=by rw [eb]
theorem qu (h:fT p u=true):dQ p f u=f u:=by rw [Eg,h];rfl
theorem me (h:fT p u=false):dQ p f u=mG u (eb p f u.kids):=by rw [Eg,h];rfl
def jQ (p:PId) (f:TUnit→TUnit) (l:List TUnit) (i:Nat) (r:List TUnit):Prop:=eb p f l=l.take i++eb p f r
theorem jQ.start:jQ p f l 0 l:=rfl
theorem jQ.skip (h:jQ p f l i (w::r)) (hd:l.drop i=w::r) (hw:cJ p w=false):jQ p f l (i+1) r:=by
 unfold jQ at *;have hi:i<l.length:=by grind [List.drop_eq_nil_of_le]
 have e:l[i]=w:=by
  have:=congrArg (·[0]?) hd;grind
 grind [jp]
theorem jQ.hit (h:jQ p f l i (w::r)) (hd:l.drop i=w::r) (hw:cJ p w=true):eb p f l=l.set i (dQ p f w):=by
 unfold jQ at h;have hi:i<l.length:=by grind [List.drop_eq_nil_of_le]
 rw [h,jp,hw,List.set_eq_take_append_cons_drop,if_pos hi];have:l.drop (i+1)=r:=by rw [← BZ,hd];rfl
 simp_all
theorem jQ.done (h:jQ p f l i []) (hd:l.drop i = []):eb p f l=l:=by simp_all [jQ,rN,BQ]
theorem xP : ∀ (u:TUnit),cJ p u=false→dQ p f u=u:=TUnit.ind fun u ih h=>by
 have hw:=zd h;rw [gq] at hw;cases hi:fT p u with
 | true=>grind
 | false=>
  rw [hi] at hw;simp only [cond_false] at hw;have key : ∀ (r:List TUnit),(∀ k,k∈r→k∈u.kids)→cb p r = []→eb p f r=r:=by
   intro r;induction r with
   | nil=>grind [rN]
   | cons k r ihr=>
    intro hm hr;cases hk:cJ p k with
    | true=>grind [nO,kR]
    | false=>simp_all [iF,jp]
  have hk:cb p u.kids = []:=by grind
  rw [me hi,key u.kids (fun _ h=>h) hk];cases u;rfl
end
end Go.Ev
namespace Go.Ev
open Go
noncomputable def bw (n:Nat):AV:= .int .i64 (.ofNat n)
theorem VH (n:Nat):(bw n).top=0:=rfl
section
variable {l part : List aP} {i : Nat} {acc : List Nat}
def nZ (l part:List aP) (i:Nat) (acc:List Nat):Prop:=acc.length≤i∧i≤l.length+part.length∧∃ f,sU l part=acc++u0 part f l i∧l.length<i+f
theorem nZ.start (hp:0<part.length):nZ l part 0 []:=by
 refine ⟨ah _,bG _,l.length+1,?_,by omega⟩;unfold sU;grind
theorem JC {f:Nat} (hi:i+part.length≤l.length):u0 part (f+1) l i=bif cZ dg ((l.take (i+part.length)).drop i) part then i::u0 part f l (i+part.length) else u0 part f l (i+1):=by
 have e:(l.take (i+part.length)).drop i=(l.drop i).take part.length:=by grind
 rw [u0,sL hi,e];rfl
theorem nZ.skip (h:nZ l part i acc) (hi:i+part.length≤l.length) (hp:0<part.length) (hm:cZ dg ((l.take (i+part.length)).drop i) part=false):nZ l part (i+1) acc:=by
 obtain ⟨h1,h2,f,h3,h4⟩:=h;cases f with
 | zero=>omega
 | succ f=>rw [JC hi,hm] at h3;exact ⟨by omega,by omega,f,h3,by omega⟩
theorem nZ.hit (h:nZ l part i acc) (hi:i+part.length≤l.length) (hp:0<part.length) (hm:cZ dg ((l.take (i+part.length)).drop i) part=true):nZ l part (i+part.length) (acc++ [i]):=by
 obtain ⟨h1,h2,f,h3,h4⟩:=h;cases f with
 | zero=>omega
 | succ f=>
  rw [JC hi,hm] at h3;exact ⟨by grind,by omega,f,by simp_all,by omega⟩
theorem nZ.done (h:nZ l part i acc) (hi:l.length<i+part.length):sU l part=acc:=by
 obtain ⟨h1,h2,f,h3,h4⟩:=h;cases f with
 | zero=>grind [u0]
 | succ f=>grind [u0,bX]
theorem nZ.len (h:nZ l part i acc):acc.length≤l.length+part.length:=bH h.1 h.2.1
end
def qt (g:Nat):List Nat→Nat→Nat→Prop
 | [],_,_=>True
 | p::r,lo,n=>lo≤p∧p+g≤n∧qt g r (p+g) n
theorem sY (part:List aP) (hp:0<part.length) : ∀ (f:Nat) (l:List aP) (i:Nat),qt part.length (u0 part f l i) i l.length
 | 0,l,i=>by rw [u0];trivial
 | f+1,l,i=>by
  rw [u0];have key : ∀ (m:List Nat) (a b n:Nat),a≤b→qt part.length m b n→qt part.length m a n:=by
   intro m;cases m with
   | nil=>intro _ _ _ _ _;trivial
   | cons p r=>intro a b n h ⟨h1,h2,h3⟩;exact ⟨bH h h1,h2,h3⟩
  cases hb:Nat.ble (i+part.length) l.length with
  | false=>trivial
  | true=>
   rw [bX] at hb;have hb:=of_decide_eq_true hb;simp only [cond_true];cases cZ dg ((l.drop i).take part.length) part with
   | true=>exact ⟨ah _,hb,sY part hp f l _⟩
   | false=>exact key _ _ _ _ (nM i) (sY part hp f l (i+1))
theorem BH (l part:List aP):qt part.length (sU l part) 0 l.length:=by
 unfold sU;cases part with
 | nil=>trivial
 | cons x r=>exact sY (x::r) (Nat.succ_pos _) _ l 0
def ov (g:Nat) (l:List Nat) (n:Nat):Prop:=∀ i,i<l.length→gD l i+g≤n∧∀ j,j<i→gD l j+g≤gD l i
theorem Av {g n:Nat} : ∀ {l:List Nat} {lo:Nat},qt g l lo n→ov g l n
 | [],_,_=>fun i hi=>absurd hi (pD _)
 | p::r,lo,⟨h1,h2,h3⟩=>by
  have low : ∀ (m:List Nat) (a:Nat),qt g m a n→∀ i,i<m.length→a≤gD m i:=by
   intro m;induction m with
   | nil=>simp_all
   | cons q m ih=>
    intro a ⟨k1,k2,k3⟩ i hi;cases i with
    | zero=>exact k1
    | succ i=>have:=ih _ k3 i (by simp_all);grind [gD]
  intro i hi;cases i with
  | zero=>exact ⟨h2,fun j hj=>absurd hj (pD _)⟩
  | succ i=>
   have hi':i<r.length:=by simp_all
   obtain ⟨k1,k2⟩:=Av h3 i hi';refine ⟨k1,fun j hj=>?_⟩;cases j with
   | zero=>exact low r _ h3 i hi'
   | succ j=>exact k2 j (by omega)
def fm (at_ g:Nat) (m l:List PWord):List PWord:=l.take at_++m++l.drop (at_+g)
def rv (a b:Int) (g:Nat) (ps:List Nat) (fresh:List aP):Nat→List PWord→List PWord
 | 0,l=>l
 | i+1,l=>rv a b g ps fresh i (fm (gD ps i) g (cY a b fresh (i * fresh.length)) l)
theorem Lc {at_ g:Nat} {m l:List PWord} (h:at_+g≤l.length):(fm at_ g m l).length+g=l.length+m.length:=by grind [fm]
structure PutI (a b:Int) (g:Nat) (ps:List Nat) (fresh:List aP) (w:List PWord) (i:Nat) (l:List PWord):Prop where
 le:i≤ps.length
 all:rv a b g ps fresh ps.length w=rv a b g ps fresh i l
 room : ∀ j,j<i→gD ps j+g≤l.length
 small:l.length≤w.length+(ps.length - i) * fresh.length
theorem PutI.start {a b:Int} {g:Nat} {ps:List Nat} {fresh:List aP} {w:List PWord} (h:ov g ps w.length):PutI a b g ps fresh w ps.length w:=⟨ah _,rfl,fun j hj=>(h j hj).1,by omega⟩
theorem PutI.step {a b:Int} {g:Nat} {ps:List Nat} {fresh:List aP} {w l:List PWord} {i:Nat} (hg:ov g ps w.length) (h:PutI a b g ps fresh w (i+1) l):PutI a b g ps fresh w i (fm (gD ps i) g (cY a b fresh (i * fresh.length)) l):=by
 have hr:=h.room i (Nat.lt_succ_self i);have hl:=Lc (m:=cY a b fresh (i * fresh.length)) hr;rw [fI] at hl;have hle:=h.le;refine ⟨by omega,h.all,fun j hj=>?_,?_⟩
 ·have:=(hg i (by omega)).2 j hj;grind
 ·have hs:=h.small;have e:(ps.length - i) * fresh.length=(ps.length - (i+1)) * fresh.length+fresh.length:=by rw [show ps.length - i=(ps.length - (i+1))+1 by omega,pL]
  omega
theorem PutI.done {a b:Int} {g:Nat} {ps:List Nat} {fresh:List aP} {w l:List PWord} (h:PutI a b g ps fresh w 0 l):rv a b g ps fresh ps.length w=l:=h.all
theorem PutI.len {a b:Int} {g:Nat} {ps:List Nat} {fresh:List aP} {w l:List PWord} {i:Nat} (h:PutI a b g ps fresh w i l) (h1:w.length≤2 ^ 18) (h2:ps.length≤2 ^ 9) (h3:fresh.length≤2 ^ 9):l.length≤2 ^ 19:=by
 have:=h.small;have:(ps.length - i) * fresh.length≤2 ^ 9 * 2 ^ 9:=Nat.mul_le_mul (by omega) h3;omega
section
variable {sz b id n n' k l h m : Nat} {H : AHeap} {xs ys zs : List AV} {t : Bool} {x z : AV} {vl : Option AV}
theorem Hn (hh:o4 sz xs=true) (h1:iS 0 vl=some l) (h2:fp x=some h) (h3:fp z=some h) (q1:l≤h) (q2:h≤xs.length) (e:(xs.take h).drop l=ys):bj H (dK sz H (some (.ps xs t)) vl (some x) (some z))=some (.val (.ps ys true) H):=by simp_all [sL,dK,fN,uW,bj]
theorem OX (hh:o4 sz xs=true) (h1:fp x=some l) (q1:l≤xs.length) (e:xs.drop l=ys):bj H (dK sz H (some (.ps xs false)) (some x) none none)=some (.val (.ps ys false) H):=by
 have p2:Nat.ble l xs.length=true:=sL q1;have p3:Nat.ble xs.length xs.length=true:=sL (ah _);simp only [dK,fN,hh,iS,h1,uW,p2,p3,xH,List.take_length,e,Bool.false_and,bj]
theorem Xn (hf:dn sz xs=true) (hf2:dn sz ys=true) (hne:ys≠ []) (hs:small (xs.length+ys.length) b=true) (e:xs++ys=zs) (e2:zs.length=n):fU (dx sz b H (some (.ps xs true)) (some (.ls ys)))=some (.val (.slice H.n 0 0 n none) (H.push (.row sz true 0 zs))):=by
 cases ys with
 | nil=>simp_all
 | cons y r=>simp_all [dx,gx,kj,kJ,gM,iU,fU]
theorem Q9 (e:ys = []):fU (dx sz b H (some (.ps xs true)) (some (.ls ys)))=some (.val (.ps xs true) H):=by subst e;rfl
def sS:List AV→Nat
 | []=>0
 | _::_=>1
theorem TS (hg:H.get id=some (.row sz true 0 xs)) (hp:H.put id (.row sz true 0 xs)=H) (hf:dn sz ys=true) (hl:xs.length=n) (hs:small (n+ys.length) b=true) (e:xs++ys=zs) (e2:zs.length=n') :
  fU (dx sz b H (some (.slice id 0 0 n none)) (some (.ps ys t)))=some (.val (.slice id (sS ys) 0 n' none) (H.put id (.row sz true (sS ys) zs))):=by
 cases ys with
 | nil=>
  rw [dB] at e;subst e;simp only [sS,hp,← e2,hl];rfl
 | cons y r=>
  have p1:Nat.beq 0 0=true:=rfl;have p2:Nat.beq sz sz=true:=pC sz;have p4:xs.take n=xs:=BQ (by omega);have p5:n+(y::r).length=n':=by grind
  have p3:Nat.ble n' xs.length=false:=by grind [bX]
  rw [p5] at hs;simp only [dx,gx,kj,kJ,gM,hf,hg,p1,p2,hs,xH,p3,p4,e,p5,sS,fU,gY]
theorem Q8 (hf:dn sz xs=true) (hf2:dn sz ys=true) (hne:ys≠ []) (hs:small (xs.length+ys.length) b=true) (e:xs++ys=zs) (e2:zs.length=n):fU (dx sz b H (some (.ps xs true)) (some (.ps ys t)))=some (.val (.slice H.n 0 0 n none) (H.push (.row sz true 0 zs))):=by
 cases ys with
 | nil=>simp_all
 | cons y r=>simp_all [dx,gx,kj,kJ,gM,iU,fU]
end
end Go.Ev
namespace Go.Ev
open Go
def mD (l:List Nat) (n:Int):List Nat:=bif ab n 0 then l else bif aB (Int.ofNat l.length) n then [] else (l.take n.toNat).drop (n.toNat - 1)
theorem TW {l:List Nat} {a b i:Nat} (h:i<((l.take b).drop a).length):gD ((l.take b).drop a) i=gD l (a+i):=by grind [gD]
theorem L5 {g n a b:Nat} {l:List Nat} (h:ov g l n):ov g ((l.take b).drop a) n:=by
 intro i hi;have hl:((l.take b).drop a).length≤l.length - a:=by grind
 obtain ⟨h1,h2⟩:=h (a+i) (by omega);grind [TW]
theorem F6 {g n:Nat} {l:List Nat} {k:Int} (h:ov g l n):ov g (mD l k) n:=by
 unfold mD;cases ab k 0 with
 | true=>grind
 | false=>
  cases aB (Int.ofNat l.length) k with
  | true=>exact fun i hi=>absurd hi (pD _)
  | false=>exact L5 h
theorem Fq (l:List Nat) (k:Int):(mD l k).length≤l.length:=by
 unfold mD;grind
theorem Cr {g n:Nat} (hg:0<g) : ∀ {l:List Nat} {lo:Nat},qt g l lo n→lo≤n→l.length+lo≤n
 | [],lo,_,h=>by simp_all
 | p::r,lo,⟨h1,h2,h3⟩,_=>by have:=Cr hg h3 h2;grind
theorem JB (l part:List aP):(sU l part).length≤l.length:=by
 cases part with
 | nil=>exact bG _
 | cons x r=>have:=Cr (Nat.succ_pos _) (BH l (x::r)) (bG _);omega
theorem FU (l part:List aP):ov part.length (sU l part) l.length:=Av (BH l part)
def xZ (c i:Nat) (l:List Nat):List Nat:=(l.take i).map (· + c)++l.drop i
theorem Rz (c i:Nat) (l:List Nat):(xZ c i l).length=l.length:=by grind [xZ]
theorem T4 {c i:Nat} {l:List Nat} (h:i<l.length):gD (xZ c i l) i=gD l i:=by
 unfold xZ gD List.getD;grind
theorem NV {c i:Nat} {l:List Nat} (h:i<l.length):(xZ c i l).set i (gD l i+c)=xZ c (i+1) l:=by
 unfold xZ;have h1:((l.take i).map (· + c)).length=i:=by grind
 rw [List.set_append_right _ _ (by omega),h1,Nat.sub_self,Ni h,List.set_cons_zero,Nl h,pB];grind [gD]
theorem NK {c n:Nat} {l m:List Nat} (h:l.length=n):(xZ c n (l++m)).take n=l.map (· + c):=by grind [xZ]
theorem Iz {c i:Nat} {l:List Nat} (h:i<l.length):gD (l.map (· + c)) i=gD l i+c:=by grind [gD]
theorem PS {c n:Nat} {l:List Nat} (h:ov c l n):ov 0 (l.map (· + c)) n:=by
 intro i hi;rw [cX] at hi;obtain ⟨h1,h2⟩:=h i hi;grind [Iz]
def sW (l:List PWord):List PWord:=bif aB 256 (Int.ofNat l.length) then [] else l
def yn (l:List PWord):Int:=bif aB 256 (Int.ofNat l.length) then 6 else 0
def wR (a b:Int) (g:Nat) (ps:List Nat) (fresh:List aP) (w:List PWord):List PWord × Int:=(sW (rv a b g ps fresh ps.length w),yn (rv a b g ps fresh ps.length w))
def yg (a b:Int) (w:List PWord) (old new:List aP) (n:Int):List PWord × Int:=bif ab (Int.ofNat old.length) 0 then ([],1) else bif ab (Int.ofNat (mD (sU (bD w) old) n).length) 0 then ([],4) else wR a b old.length (mD (sU (bD w) old) n) new w
def zy (a b:Int) (w:List PWord) (part new:List aP) (n:Int):List PWord × Int:=
 bif ab (Int.ofNat new.length) 0 || (ab (Int.ofNat part.length) 0 && ax (ab n 0)) then ([],1)
 else bif ab (Int.ofNat part.length) 0 then wR a b 0 [0] new w
 else bif ab (Int.ofNat (mD (sU (bD w) part) n).length) 0 then ([],4) else wR a b 0 ((mD (sU (bD w) part) n).map (· + part.length)) new w
end Go.Ev
namespace Go.Ev
open Go
def kp (x k:TUnit):Bool:=ab k.kind x.kind && dg k.label x.label
def yW (p x:TUnit):Int:=bif jZ p.kind x.kind then (bif p.kids.any (kp x) then 10 else 0) else 9
def Qn (u:TUnit) (p:PId) (x:TUnit):Bool:=aB 8 (Int.ofNat ((pn p u).length+1+m0 x))
abbrev pp:=TUnit × Int
def L1 (u:TUnit) (te:Int) (full cf:Bool) (u2:TUnit):pp:=bif ab te 0 then (bif full then (u,6) else bif cf then (u,5) else (u2,0)) else (u,te)
def Ee (u:TUnit) (e:Int) (u2:TUnit):pp:=bif ab e 0 then (u2,0) else (u,e)
def R8 (u:TUnit) (te:Int) (u2:TUnit):pp:=bif ab te 10 then (u,10) else (u2,0)
def O8 (u:TUnit) (te:Int) (full:Bool) (u2:TUnit):pp:=bif ab te 0 then (bif full then (u,6) else (u2,0)) else (u,te)
def Gs (e1 e2:Int) (sp:PSpot) (e3:Int):PSpot × Int:=bif ab e1 0 then (bif ab e2 0 then (bif ab e3 0 then (sp,0) else (dC,e3)) else (dC,e2)) else (dC,e1)
noncomputable def eB (r:pp):AV:= .tuple [eU r.1, .int .i64 r.2]
end Go.Ev
namespace Go.Ev
open Go
theorem uO {p:PId} {u:TUnit} (h:cJ p u=true):ej p u∈bx u∧ae (ej p u)=p:=by grind [NF,Rl,Cq]
theorem qS (l m:List TUnit):bq (l++m)=bq l++bq m:=by
 induction l with
 | nil=>rw [mj];rfl
 | cons k r ih=>grind [dO]
theorem qv (u:TUnit) (l:List TUnit):dX (mG u l)=ae u::bq l:=by rw [gz];rfl
theorem je (u:TUnit):nU u=(dX u).length:=(tG u).symm
theorem vR (u:TUnit) (l:List TUnit):bx (mG u l)=mG u l::dW l:=by rw [c8];rfl
theorem oc {q:PId} : ∀ (u:TUnit),cJ q u=true→∃ v C,v∈bx u∧ae v=q∧(dX u).Perm (C++dX v)∧∀ f,(dX (dQ q f u)).Perm (C++dX (f v))∧
  ∀ x,x∈bx (dQ q f u)→x∈bx (f v)∨∃ y,y∈bx u∧ae x=ae y∧x.kids.length=y.kids.length∧x.head=y.head∧x.words=y.words:=TUnit.ind fun u ih h=>by
 cases hi:fT q u with
 | true=>
  refine ⟨u, [],cV u,(gy q u).1 hi,List.Perm.refl _,fun f=>?_⟩;grind [qu]
 | false=>
  have key : ∀ (r:List TUnit),(∀ k,k∈r→k∈u.kids)→cb q r≠ []→∃ v C,v∈dW r∧ae v=q∧(bq r).Perm (C++dX v)∧∀ f,(bq (eb q f r)).Perm (C++dX (f v))∧(eb q f r).length=r.length∧
    ∀ x,x∈dW (eb q f r)→x∈bx (f v)∨∃ y,y∈dW r∧ae x=ae y∧x.kids.length=y.kids.length∧x.head=y.head∧x.words=y.words:=by
   intro r;induction r with
   | nil=>grind [ki]
   | cons k r ihr=>
    intro hm hw;cases hk:cJ q k with
    | true=>
     obtain ⟨v,C,h1,h2,h3,h4⟩:=ih k (hm k (fg ..)) hk;refine ⟨v,C++bq r,by grind [bE],h2,?_,fun f=>?_⟩
     ·grind [dO]
     ·have e:eb q f (k::r)=dQ q f k::r:=by rw [jp,hk];rfl
      rw [e];refine ⟨?_,rfl,fun x hx=>?_⟩
      ·grind [dO]
      ·rw [bE] at hx;rcases jV.1 hx with hx | hx
       ·grind [bE]
       ·exact .inr ⟨x,by grind [bE],rfl,rfl,rfl,rfl⟩
    | false=>
     rw [iF hk] at hw;obtain ⟨v,C,h1,h2,h3,h4⟩:=ihr (fun x hx=>hm x (fK _ hx)) hw;refine ⟨v,dX k++C,by grind [bE],h2,by grind [dO],fun f=>?_⟩;have e:eb q f (k::r)=k::eb q f r:=by rw [jp,hk];rfl
     rw [e];refine ⟨by grind [dO],by simp_all,fun x hx=>?_⟩;rw [bE] at hx;rcases jV.1 hx with hx | hx
     ·exact .inr ⟨x,by grind [bE],rfl,rfl,rfl,rfl⟩
     grind [bE]
  have hw:cb q u.kids≠ []:=by
   intro e;have:=kR h;rw [gq,hi,e] at this;simp_all
  obtain ⟨v,C,h1,h2,h3,h4⟩:=key u.kids (fun _ h=>h) hw;refine ⟨v,ae u::C,by grind [c8],h2,by grind [gz],fun f=>?_⟩;rw [me hi];refine ⟨by grind [qv],fun x hx=>?_⟩;rw [vR] at hx;rcases eP.1 hx with rfl | hx
  ·exact .inr ⟨u,cV u,rfl,(h4 f).2.1,rfl,rfl⟩
  grind [c8]
theorem uR {p:PId} : ∀ (u:TUnit),jx p u=true→∃ q i,q∈bx u∧sV p u=ae q∧qV p u=Int.ofNat i∧i<q.kids.length∧ae (gD q.kids i)=p:=TUnit.ind fun u ih h=>by
 have hh:cJ p u=true:=by
  cases e:cJ p u with
  | true=>rfl
  | false=>grind [PH]
 cases hi:fT p u with
 | true=>
  unfold jx at h;rw [sN hi] at h;cases h
 | false=>
  have key : ∀ (r:List TUnit),cb p r≠ []→∃ j k,j<r.length∧gD r j=k∧cJ p k=true∧cb p r=aD p k∧∀ n,dm (cJ p) r n=Int.ofNat (n+j):=by
   intro r;induction r with
   | nil=>grind [ki]
   | cons k r ihr=>
    intro hw;cases hk:cJ p k with
    | true=>
     refine ⟨0,k,Nat.succ_pos _,rfl,hk,nO hk,fun n=>?_⟩;unfold dm;simp_all
    | false=>
     rw [iF hk] at hw;obtain ⟨j,k2,h1,h2,h3,h4,h5⟩:=ihr hw;refine ⟨j+1,k2,by simp_all,h2,h3,by grind [iF],fun n=>?_⟩;have e:dm (cJ p) (k::r) n=dm (cJ p) r (n+1):=by
      show (bif cJ p k then _ else _)=_
      simp_all
     grind
  have hw:cb p u.kids≠ []:=by
   intro e;have:=kR hh;rw [gq,hi,e] at this;simp_all
  obtain ⟨j,k,h1,h2,h3,h4,h5⟩:=key u.kids hw;obtain ⟨y,t,e⟩:=vU h3;have hway:aD p u=u::aD p k:=by rw [gq,hi,h4,e];rfl
  have hkm:k∈u.kids:=h2 ▸ gH h1;rw [HI h,HL h];cases hk:jx p k with
  | true=>
   obtain ⟨q,i,q1,q2,q3,q4,q5⟩:=ih k hkm hk;rw [HI hk] at q2;rw [HL hk] at q3;have e2:Hb p u=Hb p k:=by
    unfold Hb;rw [hway];have:2≤(aD p k).length:=by
     unfold jx at hk;cases hl:aB (Int.ofNat (aD p k).length) 2 with
     | true=>grind
     | false=>have:=aL hl;grind
    show gD (u::aD p k) ((aD p k).length+1 - 2)=_
    rw [show (aD p k).length+1 - 2=((aD p k).length - 2)+1 by omega];rfl
   grind [bh]
  | false=>
   have hl:(aD p k).length=1:=by
    unfold jx at hk;cases hl:aB (Int.ofNat (aD p k).length) 2 with
    | false=>grind
    | true=>have:=au hl;grind
   have hik:fT p k=true:=by
    cases hik:fT p k with
    | true=>rfl
    | false=>
     rw [gq,hik] at hl e;grind
   have e2:Hb p u=u:=by
    unfold Hb;rw [hway];show gD (u::aD p k) ((aD p k).length+1 - 2)=_
    rw [hl];rfl
   rw [e2,h5 0,gY];exact ⟨u,j,cV u,rfl,rfl,h1,by grind [gy]⟩
theorem TZ {p:PId} {u:TUnit} (h:cJ p u=true) (hi:fT p u=false):jx p u=true:=by
 have hw:aD p u≠ []:=kR h;have e:aD p u=match cb p u.kids with | []=> [] | y::t=>u::y::t:=by rw [gq,hi];rfl
 unfold jx;rw [e] at hw ⊢;cases ew:cb p u.kids with
 | nil=>simp_all
 | cons y t=>
  show ax (aB (Int.ofNat (u::y::t).length) 2)=true
  rw [lO (by grind)];rfl
theorem S7 {v:TUnit} {i:Nat} (h:i<v.kids.length):(dX v).Perm (dX (fD i v)++dX (gD v.kids i)):=by
 unfold fD;rw [gz v,qv,Ng,qS];have e:v.kids=v.kids.take i++(gD v.kids i::v.kids.drop (i+1)):=by grind [gD,List.drop_eq_getElem_cons,List.take_append_drop]
 grind [qS,dO]
theorem S6 {v x:TUnit} {i:Nat} : (dX (dw i x v)).Perm (dX v++dX x):=by
 unfold dw wq;rw [gz v,qv,qS,dO,xL];grind [List.take_append_drop,qS]
end Go.Ev
namespace Go.Ev
open Go
section
variable {P : Program} {G : eh} {call : cQ} {m : Nat} {c : Code} {d : D} {s s' : St} {ops : Array Oper} {h h' : AHeap} {o : AObj} {f : FuncId} {args : List AV} {v u : AV} {pl pl' : Pl} {M M' : dl} {w w' : World}
theorem cE.psh (g2:cE pl M h w):cE pl M (h.push o) w:=
 ⟨fun id p hp=>Nat.lt_succ_of_lt (g2.dom id p hp),(fun id p o' hp hg=>by
  rcases dZ hg with ⟨rfl,_⟩ | ⟨_,h2⟩
  ·exact absurd (g2.dom _ p hp) (vt _)
  ·exact g2.obj id p o' hp h2),g2.blk,g2.inj,g2.imm,g2.sep⟩
theorem cP.psh (g2:cE pl M h w) (g4:cP h pl M w h' pl' M' w') (g2':cE pl' M' h' w'):cP h pl M w (h'.push o) pl' M' w':=
 ⟨g4.ext,g4.new,g4.mem,g4.size,g4.kept,g4.blks,(fun id p hp hg=>by
  have:=g4.live id p hp hg;cases hh:(h'.push o).get id with
  | none=>rfl
  | some o'=>
   rcases dZ hh with ⟨rfl,_⟩ | ⟨_,h2⟩
   ·obtain ⟨p',e1,_⟩:=g4.ext _ p hp;exact absurd (g2'.dom _ p' e1) (vt _)
   simp_all),g4.stay,g4.memNew,g4.os,g4.tape,g4.out,g4.drawn⟩
theorem aF.psh (h0:aF P G f args h (fun v1 h1=>v1=v∧h1=h')) (hl:Le u v):aF P G f args h (fun v1 h1=>v1=u∧h1=h'.push o):=by
 intro pl M w vs hg hr hv;have key : ∀ {cv w'},gP pl M h w v h' cv w'→gP pl M h w u (h'.push o) cv w':=fun ⟨pl',M',k1,k2,k3,k4⟩=>⟨pl',M',hl _ _ _ k1,cE.psh k2,cP.psh hr k3 k2,Nat.le_succ_of_le k4⟩
 rcases h0 pl M w vs hg hr hv with ⟨h1,h2⟩ | ⟨cv,w',v',h'',h1,⟨rfl,rfl⟩,h3⟩
 ·exact .inl ⟨h1,Calls.mono h2 fun e w' ⟨cv,v',h'',k1,⟨k2,k2'⟩,k3⟩=>⟨cv,u,h'.push o,k1,⟨rfl,rfl⟩,by simp_all⟩⟩
 ·exact .inr ⟨cv,w',u,_,h1,⟨rfl,rfl⟩,key h3⟩
theorem I4 {Ψ Ψ':AV→AHeap→Prop} (o:AObj) (h0:aF P G f args h Ψ) (hΨ : ∀ v h',Ψ v h'→∃ u,Le u v∧Ψ' u (h'.push o)):aF P G f args h Ψ':=by
 intro pl M w vs hg hr hv;have key : ∀ {v u h' cv w'},Le u v→gP pl M h w v h' cv w'→gP pl M h w u (h'.push o) cv w':=fun hl ⟨pl',M',k1,k2,k3,k4⟩=>⟨pl',M',hl _ _ _ k1,cE.psh k2,cP.psh hr k3 k2,Nat.le_succ_of_le k4⟩
 rcases h0 pl M w vs hg hr hv with ⟨h1,h2⟩ | ⟨cv,w',v',h'',h1,h2,h3⟩
 ·refine .inl ⟨h1,Calls.mono h2 fun e w' ⟨cv,v',h'',k1,k2,k3⟩=>?_⟩;grind
 ·obtain ⟨u,q1,q2⟩:=hΨ _ _ h2;exact .inr ⟨cv,w',u,_,h1,q2,key q1 h3⟩
theorem Ow (pl:Pl) (M:dl) (p:Place) (x:Option Obj):bf pl M p .dead x:=by cases x <;> trivial
theorem aF.dead {i:Nat} {Ψ Ψ':AV→AHeap→Prop} (h0:aF P G f args h Ψ) (hi:h.n≤i) (hm:i<1000000) (hΨ : ∀ v h',Ψ v h'→Ψ' v (h'.put i .dead)):aF P G f args h Ψ':=by
 intro pl M w vs hg hr hv;have key : ∀ {v h' cv w'},gP pl M h w v h' cv w'→gP pl M h w v (h'.put i .dead) cv w':=fun ⟨pl',M',k1,k2,k3,k4⟩=>⟨pl',M',k1,⟨k2.dom,(fun id p o hp hg=>by
  rcases AHeap.get_put hm hg with ⟨_,rfl⟩ | ⟨_,h2⟩
  ·grind [Ow]
  ·exact k2.obj id p o hp h2),k2.blk,k2.inj,k2.imm,k2.sep⟩,⟨k3.ext,k3.new,k3.mem,k3.size,k3.kept,k3.blks,(fun id p hp hg=>by
   have hl:=hr.dom id p hp;have hn:=k3.live id p hp hg;cases hh:AHeap.get (AHeap.put _ i .dead) id with
   | none=>rfl
   | some o'=>grind [AHeap.get_put]),k3.stay,k3.memNew,k3.os,k3.tape,k3.out,k3.drawn⟩,k4⟩
 rcases h0 pl M w vs hg hr hv with ⟨h1,h2⟩ | ⟨cv,w',v',h'',h1,h2,h3⟩
 ·exact .inl ⟨h1,Calls.mono h2 fun e w' ⟨cv,v',h'',k1,k2,k3⟩=>⟨cv,v',h''.put i .dead,k1,hΨ _ _ k2,key k3⟩⟩
 ·exact .inr ⟨cv,w',v',_,h1,hΨ _ _ h2,key h3⟩
end
section
variable {P : Program} {G : eh} {ops : Array Oper} {o : Oper} {l : List Oper} {s : St} {b : Option Nat}
theorem wD {t tx e:TypeId} {i:TypeInfo} {sz bt:Nat} (hsz:i.size=sz) (hbt:i.bytes=bt) {z z0:AV} {sO xO:Operand} {dst:Option Tmp} {ty:TypeId} {pos:String} {after:Array Edge} {guard:Option (Nat × Bool)} {xs:List AV}
  (ht:P.underlying t=some (.slice e)) (hk : ∃ e',P.underlying tx=some (.slice e')) (hi:P.info? e=some i) (hz:iP P e=some z0) (hzl:Le z z0)
  (hs:(co G sO).run s.tmps=some (.ps [] true)) (hx:(co G xO).run s.tmps=some (.ls xs)) (hne:xs≠ []) (hfit:dn sz xs=true) (hzf:dn sz [z]=true) (hsm:small xs.length bt=true) (hs0:0<sz)
  (pl:Pl) (M:dl) (a:Act) (w:World) (g1:pq G pl M) (g2:cE pl M s.heap w) (g3:FrRel pl M s.tmps a) :
  ∃ (k:Nat) (pl':Pl) (M':dl) (cv:Value) (w':World),k=0∧(execOp a.eval ⟨dst, .call ⟨.builtin .append,#[sO,xO],#[t,tx]⟩,ty,pos,after,guard⟩).run P w = .ok (.value cv) w'∧
   VRel pl' M' (.slice s.heap.n 0 0 xs.length none) cv∧cE pl' M' (s.heap.push (.row sz true 0 xs)) w'∧cP s.heap pl M w (s.heap.push (.row sz true 0 xs)) pl' M' w'∧s.heap.n≤(s.heap.push (.row sz true 0 xs)).n:=by
 subst hsz;subst hbt;have hsr:=bQ g1 g3 hs;have hxr:=bQ g1 g3 hx;obtain ⟨news,hsrc⟩:=yx (P:=P) g2 hxr (show kj s.heap (.ls xs)=some xs from rfl) hne hfit;obtain ⟨i2,zv,hz1,hz2,hz3⟩:=md hz;rw [hi] at hz1;cases hz1
 obtain ⟨b1,b2⟩:=ja hsm;have hpos:0<xs.length:=pG.2 hne;generalize hq:a.eval sO=cs at hsr;generalize hq2:a.eval xO=cx at hxr hsrc;cases hsr with
 | ps hl htt hm hs2 hc=>
  rename_i ad cap sz c;have hcap:cap=0:=htt rfl;subst hcap;have hzr:=hzl _ _ _ (dI (pl:=pl) (M:=M) hz3);have hzt:=mW hzf z (by simp);have hzsz:zv.cells.size=i.size:=by rw [← hzr.cells.len];omega
  have hrun:=run_append_grow_src (P:=P) w t tx ty e i zv ht hi hz2 (some ad) 0 0 [] (by simp [Builtin.firstCells,loadCells,loadCellsFrom]) cx xs.length news (hsrc.src (.inl hk)) (by omega) (by omega) (growslice_fits (by omega) (by grind));have hge:=grownCap_ge w (0+xs.length) 0 e;obtain ⟨C,hC⟩ : ∃ C,C=grownCap w (0+xs.length) 0 e:=⟨_,rfl⟩
  rw [← hC] at hrun hge;have hin:=eN hzr hzt.2 (C - (0+xs.length)) hzt.1 hs0;have hzl:(Builtin.zeroCells zv.cells (C - (0+xs.length))).toList.toArray=(Array.range ((C - (0+xs.length)) * i.size)).map (zv.cells[· % zv.cells.size]!):=by grind [Builtin.zeroCells]
  have hnl:(Builtin.zeroCells zv.cells (C - (0+xs.length))).toList.length=(List.replicate (C - (0+xs.length)) z).length * i.size:=by grind [Builtin.zeroCells]
  have hin2:=j9 (news:=(Builtin.zeroCells zv.cells (C - (0+xs.length))).toList) hsrc.mem (by grind) hsrc.newsLen hnl #[];have hce:(news++(Builtin.zeroCells zv.cells (C - (0+xs.length))).toList).toArray++#[]=([]++news).toArray++Builtin.zeroCells zv.cells (C - (0+xs.length)):=by grind
  rw [hce] at hin2;have hcs:(([]++news).toArray++Builtin.zeroCells zv.cells (C - (0+xs.length))).size=(xs++List.replicate (C - (0+xs.length)) z).length * i.size:=by simp only [pI,Ea,BV,hsrc.newsLen,size_zeroCells,hzsz,dS,pF,jo]
  obtain ⟨cells,hcells⟩ : ∃ cells,cells=([]++news).toArray++Builtin.zeroCells zv.cells (C - (0+xs.length)):=⟨_,rfl⟩
  rw [← hcells] at hrun hin2 hcs;have hxC:xs.length≤C:=by omega
  have hszc:cells.size=C * i.size:=by grind
  have hin3:InMem pl M cells 0 i.size xs:=⟨by rw [gY,hszc];exact ef _ hxC,fun x hx=>hin2.elem x (Ez _ hx),fun i x j y h1 h2=>hin2.cell i x j y (by grind) h2⟩
  let p:Place:=⟨w.heap.size,0,i.size,xs.length,C * i.size⟩
  have hwd:(w.drew.alloc (.cells cells e)).heap=w.heap.push (.cells cells e):=rfl;obtain ⟨r1,r2⟩:=cE.alloc (o:= .row i.size true 0 xs) (p:=p) g2 hwd ⟨rfl,rfl,rfl,nM _⟩ rfl
   ⟨rfl,rfl,rfl,hszc.symm,rfl,hs0,fun h=>(by grind),hin3.mono (fun id q hq=>⟨q,by rw [cL (by have:=g2.dom id q hq;omega)];omega,ah _,fun _=>rfl⟩) (fun _ _ h=>h)⟩
  refine ⟨0,upd pl s.heap.n p,M, .slice (some ⟨w.heap.size,0,none⟩) (0+xs.length) C,w.drew.alloc (.cells cells e),rfl,?_,?_,r1,r2,nM _⟩
  ·simp only [execOp,resolve,invoke,builtin,Sem.run_bind,Sem.run_pure,Result.andThen_ok,List.map_toArray,ee,vn,hq,hq2];show (Sem.run P (Builtin.append_ #[t,tx] ty #[Value.slice (some ad) 0 0,cx]) w).andThen _=_
   rw [hrun];rfl
  ·rw [gY] at hge ⊢;refine .slice (dG _ _ _) (ah _) hge (fun k hk=>by grind) (fun _=>⟨.inr (by grind),by grind,by grind,(fun _=>by grind),(fun k hk=>by grind)⟩)
end
end Go.Ev
namespace Go.Ev
open Go
theorem iN {s u:List UInt8} {H:AHeap} (h:s.length+u.length≤2 ^ 62):bj H (T3 (.str s) (.str u))=some (.val (.str (s++u)) H):=by grind [Nat.ble_eq_true_of_le,T3,bj]
def MB (s:aP):aP:=bif ab (.ofNat (gD s 0).toNat) 124 then [92] else bif ab (.ofNat (gD s 0).toNat) 92 then [92] else []
def A5 (s:aP) (w:PWord):aP:=s++ [32]++MB w.text++w.text
def lH (s:aP) (l:List PWord):aP:=l.foldl A5 s
theorem oq (s:aP) (w:PWord) (r:List PWord):lH s (w::r)=lH (A5 s w) r:=rfl
theorem D7 {x:aP} {w:PWord} (h1:ab (.ofNat (gD w.text 0).toNat) 124=true):A5 x w=x++ [32]++ [92]++w.text:=by grind [A5,MB]
theorem D6 {x:aP} {w:PWord} (h1:ab (.ofNat (gD w.text 0).toNat) 124=false) (h2:ab (.ofNat (gD w.text 0).toNat) 92=true):A5 x w=x++ [32]++ [92]++w.text:=by grind [A5,MB]
theorem D0 {x:aP} {w:PWord} (h1:ab (.ofNat (gD w.text 0).toNat) 124=false) (h2:ab (.ofNat (gD w.text 0).toNat) 92=false):A5 x w=x++ [32]++w.text:=by grind [A5,MB]
theorem U8 (d:Nat):aB (.ofNat d) 0=false:=rfl
def s7 (u:TUnit):TUnit:=⟨0,0,0,u.kind,u.label,u.head,u.words, []⟩
def Dq (u:TUnit) (d:Nat):Bool:=ax (aB (.ofNat d) 0) && (ax (aB 8 (.ofNat d)) && km (cF (s7 u)))
def fR (u:TUnit) (d:Nat):aP:=
 bif ax (Dq u d) then [] else
  let a:=Lib.repeatL [32,32] d++cR u.kind
  let b:=bif ax (ab u.kind 0) then a++([32]++u.label) else a
  let c:=bif aB 0 (.ofNat u.head.length) then lH (b++ [58]) u.head else b
  bif aB 0 (.ofNat u.words.length) then lH (c++ [32,124]) u.words else c
mutual
def eQ:Nat→TUnit→List aP
 | d,⟨a,i,n,k,l,h,w,ks⟩=>fR ⟨a,i,n,k,l,h,w,ks⟩ d::c9 (d+1) ks
def c9:Nat→List TUnit→List aP
 | _, []=> []
 | d,k::r=>eQ d k++c9 d r
end
theorem B0 (d:Nat) (u:TUnit):eQ d u=fR u d::c9 (d+1) u.kids:=by cases u;rw [eQ];rfl
theorem wW (d:Nat):c9 d [] = []:=by rw [c9]
theorem l9 (d:Nat) (k:TUnit) (r:List TUnit):c9 d (k::r)=eQ d k++c9 d r:=by rw [c9]
def wS (u:TUnit):aP × Int:=
 bif ax (km (cF u)) then ([],1) else
  bif aB 16384 (.ofNat (Lib.join (eQ 0 u) [10]++ [10]).length) then ([],6) else (Lib.join (eQ 0 u) [10]++ [10],0)
theorem Qq (s:aP):(MB s).length≤1:=by grind [MB]
theorem Rx (s:aP) (w:PWord):(A5 s w).length≤s.length+(w.text.length+2):=by grind [Qq,A5]
theorem um {l:List PWord} (h : ∀ w,w∈l→w.text.length≤24) (s:aP):(lH s l).length≤s.length+26 * l.length:=by
 induction l generalizing s with
 | nil=>exact ah _
 | cons w r ih=>grind [Rx,oq]
theorem zz (k:Int):(cR k).length≤16:=by
 unfold cR;split <;> decide
theorem gv {a b:Int} (h:ax (aB a b)=true):b≤a:=aL (by cases q:aB a b <;> rw [q] at h <;> first | rfl | grind)
theorem H8 {s:aP} (h:j8 s=true):s.length≤7:=by
 unfold j8 at h;simp only [bJ] at h;have h1:=gv h.2.1;have h2:=gv h.2.2.2.1;grind
theorem K6 {s:aP} (h:ri s=true):1≤s.length∧s.length≤24:=by
 unfold ri at h;simp only [bJ] at h;have h1:=gv h.1;have h2:=gv h.2.1;grind
theorem Hj {l:List PWord} (h:oa l=true):l.length≤256∧∀ w,w∈l→1≤w.text.length∧w.text.length≤24:=by
 unfold oa qW at h;simp only [bJ,nW] at h;have h1:=gv h.1;simp only [aI] at h1;exact ⟨by omega,fun w hw=>K6 (h.2.2 _ (jK.2 ⟨w,hw,rfl⟩))⟩
theorem NZ {u:TUnit} (h:lG u=true):u.label.length≤7∧(u.head.length≤256∧∀ w,w∈u.head→1≤w.text.length∧w.text.length≤24)∧(u.words.length≤256∧∀ w,w∈u.words→1≤w.text.length∧w.text.length≤24):=by
 unfold lG at h;simp only [bJ] at h;have h:=h.1;cases hk:ab u.kind 0 with
 | true=>
  rw [hk] at h;simp only [cond_true,bJ] at h;have h1:u.label = []:=Gb h.1;have h2:=gv h.2;grind
 | false=>grind [H8,Hj]
theorem OV {q:TUnit→Bool} {u:TUnit} (h:vf q u=true):q u=true:=by grind [xB]
theorem JI {u:TUnit} {d:Nat} (h:Dq u d=true):d≤8∧u.label.length≤7∧(u.head.length≤256∧∀ w,w∈u.head→1≤w.text.length∧w.text.length≤24)∧(u.words.length≤256∧∀ w,w∈u.words→1≤w.text.length∧w.text.length≤24):=by
 unfold Dq km at h;simp only [bJ] at h;have h1:=gv h.2.1;simp only [aI] at h1;have h2:=NZ (OV h.2.2.1);rw [mJ] at h2;obtain ⟨e1,⟨e2,e3⟩,e4,e5⟩:=h2;refine ⟨by omega,e1,⟨by grind [s7,TUnit.head],fun w hw=>?_⟩,⟨by grind [s7,TUnit.words],fun w hw=>?_⟩⟩
 ·exact e3 (gC w) (jK.2 ⟨w,hw,rfl⟩)
 ·exact e5 (gC w) (jK.2 ⟨w,hw,rfl⟩)
theorem DI {b:Bool} {x y:aP} {n:Nat} (h1:x.length≤n) (h2:y.length≤n):(bif b then x else y).length≤n:=by grind
theorem PY (u:TUnit) (d:Nat):(fR u d).length≤2 ^ 14:=by
 unfold fR;cases h:Dq u d with
 | false=>simp_all
 | true=>
  obtain ⟨h1,h2,⟨h3,h4⟩,h5,h6⟩:=JI h;have k:=zz u.kind;have r:=Lib.repeatL_length [32,32] d;simp only [cN,gh] at r;have ha:(Lib.repeatL [32,32] d++cR u.kind).length≤32:=by grind
  have hh : ∀ w,w∈u.head→w.text.length≤24:=fun w hw=>(h4 w hw).2
  have hw : ∀ w,w∈u.words→w.text.length≤24:=fun w hw=>(h6 w hw).2
  simp only [ax,cond_false];have hb : ∀ x:aP,x.length≤32→(bif ax (ab u.kind 0) then x++([32]++u.label) else x).length≤40:=fun x hx=>DI (by grind) (by omega)
  have hc : ∀ x:aP,x.length≤40→(bif aB 0 (.ofNat u.head.length) then lH (x++ [58]) u.head else x).length≤6700:=fun x hx=>DI (by grind [um]) (by omega)
  have hd : ∀ x:aP,x.length≤6700→(bif aB 0 (.ofNat u.words.length) then lH (x++ [32,124]) u.words else x).length≤2 ^ 14:=fun x hx=>DI (by have:=um hw (x++ [32,124]);grind) (by omega)
  grind
mutual
theorem ku (d:Nat) : ∀ u:TUnit,(eQ d u).length=nU u
 | ⟨a,i,n,k,l,h,w,ks⟩=>by rw [eQ,cN,wK (d+1) ks,nU];omega
theorem wK (d:Nat) : ∀ l:List TUnit,(c9 d l).length=dT l
 | []=>by rw [c9,dT];rfl
 | k::r=>by rw [c9,dT,dS,ku d k,wK d r]
end
mutual
theorem zV (d:Nat) : ∀ (u:TUnit) (s:aP),s∈eQ d u→s.length≤2 ^ 14
 | ⟨a,i,n,k,l,h,w,ks⟩,s,hs=>by
  rw [eQ] at hs;rcases eP.1 hs with rfl | hs
  ·exact PY _ _
  ·exact wJ (d+1) ks s hs
theorem wJ (d:Nat) : ∀ (l:List TUnit) (s:aP),s∈c9 d l→s.length≤2 ^ 14
 | [],s,hs=>by rw [c9] at hs;cases hs
 | k::r,s,hs=>by
  rw [c9] at hs;rcases jV.1 hs with hs | hs
  ·exact zV d k s hs
  ·exact wJ d r s hs
end
theorem tC {sep:aP} {B:Nat} : ∀ {l:List aP},(∀ s,s∈l→s.length≤B)→(Lib.joinTail sep l).length≤l.length * (sep.length+B)
 | [],_=>bG _
 | x::r,h=>by
  have h1:=h x fg;have h2:=tC (sep:=sep) (l:=r) fun s hs=>h s (fK _ hs)
  grind [Lib.joinTail,Nat.succ_mul]
theorem Pv {sep:aP} {B:Nat} {l:List aP} (h : ∀ s,s∈l→s.length≤B):(Lib.join l sep).length≤l.length * (sep.length+B):=by
 cases l with
 | nil=>exact bG _
 | cons x r=>
  have h1:=h x fg;have h2:=tC (sep:=sep) (l:=r) fun s hs=>h s (fK _ hs)
  grind [Lib.join_cons,Nat.succ_mul]
theorem vM : ∀ (l:List TUnit),(∀ k,k∈l→nU (cF k)=nU k∧∀ x,x∈bx (cF k)→∃ y,y∈bx k∧x=cF y)→dT (l.map cF)=dT l∧∀ x,x∈dW (l.map cF)→∃ y,y∈dW l∧x=cF y
 | [],_=>⟨rfl,fun x hx=>by grind [fH]⟩
 | k::r,h=>by
  obtain ⟨a1,a2⟩:=h k fg;obtain ⟨b1,b2⟩:=vM r fun k hk=>h k (fK _ hk)
  grind [dT,bE]
theorem LK : ∀ u:TUnit,nU (cF u)=nU u∧∀ x,x∈bx (cF u)→∃ y,y∈bx u∧x=cF y:=by
 refine TUnit.ind fun u ih=>?_
 obtain ⟨h1,h2⟩:=vM u.kids ih;refine ⟨?_,fun x hx=>?_⟩
 ·rw [iT (cF u),iT u,mJ];exact congrArg (1 + ·) h1
 ·rw [c8,mJ] at hx;rcases eP.1 hx with rfl | hx
  ·grind [c8,List.mem_cons_self,mJ]
  ·obtain ⟨y,h3,h4⟩:=h2 x hx;grind [c8]
end Go.Ev
namespace Go.Ev
open Go
structure OkB (u:TUnit):Prop where
 nd:(dX u).Nodup
 n:nU u≤1024
 w : ∀ x,x∈bx u→x.head.length≤300∧x.words.length≤300
theorem OkB.uni {u v x:TUnit} (h:OkB u) (hv:v∈bx u) (hx:x∈bx u) (e:ae v=ae x):v=x:=BM h.nd hv hx e
theorem sl {u x:TUnit} (hx:x∈bx u):cJ (ae x) u=true:=KW u ⟨x,hx,rfl⟩
theorem mY : ∀ {l:List TUnit} {x:TUnit},x∈dW l→∃ k,k∈l∧x∈bx k
 | [],x,h=>by grind [fH]
 | k::r,x,h=>by
  rw [bE] at h;rcases jV.1 h with h | h
  ·simp_all
  ·obtain ⟨k',h1,h2⟩:=mY h;grind
theorem Bg {u:TUnit} : ∀ (p:List PStep) (l:List TUnit),(∀ x,x∈l→x∈bx u)→∀ x,x∈gk p l→x∈bx u
 | [],l,h,x,hx=>h x hx
 | s::r,l,h,x,hx=>by
  refine Bg r _ (fun y hy=>?_) x hx;grind [g0,bh,cV]
theorem L6 {u:TUnit} {p:List PStep} {x:TUnit} (h:x∈dP u p):x∈bx u:=by
 unfold dP at h;grind [cV,Bg]
theorem qh {u:TUnit} {p:List PStep} (h:(aC u p).2=0):cJ (aC u p).1 u=true:=by
 unfold aC at h ⊢;split at h
 ·omega
 ·rename_i x e;exact sl (L6 (by rw [e];simp_all))
 omega
def EJ (u:TUnit) (sp:PSpot):Prop:=∃ n:Nat,sp.at_=Int.ofNat n∧n≤2 ^ 20∧∀ v,v∈bx u→fT sp.id v=true→n≤v.kids.length
theorem On {u:TUnit} (hu:OkB u) {p:PId} (h:jx p u=true) {n:Nat} (hn:n≤1):EJ u ⟨sV p u,qV p u+Int.ofNat n⟩:=by
 obtain ⟨q,i,h1,h2,h3,h4,h5⟩:=uR u h;have hk:=bK q;have:=dH h1;have:=hu.n;refine ⟨i+n,by simp_all,by omega,fun v hv hi=>?_⟩;have hi:fT (sV p u) v=true:=hi;rw [gy,h2] at hi;rw [hu.uni hv h1 hi];omega
theorem Fl {u:TUnit} (hu:OkB u) {p:PId} (hp:cJ p u=true) {w:Int} (he:(dz w u p).2=0):EJ u (dz w u p).1:=by
 unfold dz at he ⊢;cases h0:ab w 0 with
 | true=>exact ⟨0,rfl,bG _,fun v _ _=>bG _⟩
 | false=>
  rw [h0] at he;simp only [cond_false] at he ⊢;cases h1:ab w 1 with
  | true=>
   obtain ⟨a,b⟩:=uO hp;have hk:=bK (ej p u);have:=dH a;have:=hu.n;refine ⟨_,rfl,by omega,fun v hv hi=>?_⟩;rw [gy] at hi;rw [hu.uni hv a (hi.trans b.symm)];omega
  | false=>
   rw [h1] at he;simp only [cond_false] at he ⊢;have key : ∀ n:Nat,n≤1→(ng u p (Int.ofNat n)).2=0→EJ u (ng u p (Int.ofNat n)).1:=fun n hn he=>by grind [ng,On]
   cases h2:ab w 2 with
   | true=>grind
   | false=>rw [h2] at he;exact key 0 (bG _) he
theorem OkB.with {u:TUnit} (hu:OkB u) {q:PId} {f:TUnit→TUnit}
  (hf : ∀ v C,v∈bx u→ae v=q→(dX u).Perm (C++dX v)→(C++dX (f v)).Nodup∧(C++dX (f v)).length≤1024∧∀ x,x∈bx (f v)→x.head.length≤300∧x.words.length≤300):OkB (dQ q f u):=by
 cases hq:cJ q u with
 | false=>grind [xP]
 | true=>
  obtain ⟨v,C,h1,h2,h3,h4⟩:=oc u hq;obtain ⟨h5,h6⟩:=h4 f;obtain ⟨a,b,c⟩:=hf v C h1 h2 h3;refine ⟨h5.nodup_iff.2 a,by rw [je,h5.length_eq];omega,fun x hx=>?_⟩;grind [cases OkB]
theorem OkB.keep {u:TUnit} (hu:OkB u) {q:PId} {f:TUnit→TUnit} (h1 : ∀ v,ae (f v)=ae v∧(f v).kids=v.kids) (h2 : ∀ v,v∈bx u→(f v).head.length≤300∧(f v).words.length≤300):OkB (dQ q f u):=by
 refine hu.with fun v C hv hq hp=>?_
 have e:dX (f v)=dX v:=by grind [gz]
 rw [e];refine ⟨hp.nodup_iff.1 hu.nd,by rw [← hp.length_eq,← je];exact hu.n,fun x hx=>?_⟩;rw [c8] at hx;rcases eP.1 hx with rfl | hx
 ·simp_all
 ·rw [(h1 v).2] at hx;obtain ⟨k,k1,k2⟩:=mY hx;grind [g0,bh,cases OkB]
theorem Jr {v x y:TUnit} {i:Nat} (h:y∈bx (dw i x v)):y=dw i x v∨y∈bx x∨y∈bx v:=by
 rw [c8] at h;rcases eP.1 h with rfl | h
 ·simp_all
 ·obtain ⟨k,k1,k2⟩:=mY h;have k1:k∈v.kids.take i++(x::v.kids.drop i):=k1;rcases jV.1 k1 with q | q
  ·grind [bh]
  ·grind [bh]
theorem OkB.ins {u x:TUnit} (hu:OkB u) {q:PId} {i:Nat} (hx:(dX x).Nodup) (hd : ∀ p,p∈dX x→p ∉ dX u) (hn:nU u+nU x≤1024) (hw : ∀ y,y∈bx x→y.head.length≤300∧y.words.length≤300):OkB (dQ q (dw i x) u):=by
 refine hu.with fun v C hv hq hp=>?_
 have h1:(C++dX (dw i x v)).Perm (dX u++dX x):=((List.Perm.append_left C S6).trans (by grind))
 refine ⟨h1.nodup_iff.2 (List.nodup_append.2 ⟨hu.nd,hx,fun a ha b hb e=>hd b hb (e ▸ ha)⟩),by rw [h1.length_eq,dS,← je,← je];omega,fun y hy=>?_⟩;rcases Jr hy with rfl | h | h
 ·exact hu.w v hv
 all_goals grind [g0,cases OkB]
theorem C6 {v y:TUnit} {i:Nat} (h:y∈bx (fD i v)):y=fD i v∨y∈bx v:=by
 rw [c8] at h;rcases eP.1 h with rfl | h
 ·simp_all
 ·obtain ⟨k,k1,k2⟩:=mY h;exact .inr (bh (List.mem_of_mem_eraseIdx (show k∈v.kids.eraseIdx i from k1)) k2)
theorem OkB.del {u v:TUnit} (hu:OkB u) {i:Nat} (hv:v∈bx u) (hi:i<v.kids.length):OkB (dQ (ae v) (fD i) u)∧(dX u).Perm (dX (dQ (ae v) (fD i) u)++dX (gD v.kids i)):=by
 obtain ⟨v',C,h1,h2,h3,h4⟩:=oc u (sl hv);obtain rfl:=hu.uni h1 hv h2;obtain ⟨h5,h6⟩:=h4 (fD i);have h7:(dX u).Perm (dX (dQ (ae v') (fD i) u)++dX (gD v'.kids i)):=h3.trans ((List.Perm.append_left C (S7 hi)).trans (by grind));have hnd:=h7.nodup_iff.1 hu.nd;refine ⟨⟨(List.nodup_append.1 hnd).1,?_,fun x hx=>?_⟩,h7⟩
 ·have:=h7.length_eq;grind [je,cases OkB]
 ·rcases h6 x hx with h | ⟨y,y1,y2,y3,y4,y5⟩
  ·rcases C6 h with rfl | h
   ·exact hu.w v' hv
   grind [g0,cases OkB]
  grind [cases OkB]
theorem Nu {q:PId} {f:TUnit→TUnit} : ∀ u:TUnit,cJ q u=true→∃ v,v∈bx u∧ae v=q∧f v∈bx (dQ q f u):=by
 refine TUnit.ind fun u ih h=>?_
 cases hi:fT q u with
 | true=>grind [cV,gy,qu]
 | false=>
  rw [me hi];have key : ∀ r:List TUnit,(∀ k,k∈r→k∈u.kids)→(∃ k,k∈r∧cJ q k=true)→∃ v,v∈dW r∧ae v=q∧f v∈dW (eb q f r):=by
   intro r;induction r with
   | nil=>grind
   | cons k r ihr=>
    intro hs ⟨y,hy,hyq⟩;rw [jp,bE];cases hk:cJ q k with
    | true=>grind [bE]
    | false=>
     rcases eP.1 hy with rfl | hy
     ·grind
     ·obtain ⟨v,a,b,c⟩:=ihr (fun k hk=>hs k (fK _ hk)) ⟨y,hy,hyq⟩;grind [bE]
  have hx:=uO h;have hne:ej q u≠u:=fun e=>by grind [gy]
  have hm:ej q u∈dW u.kids:=by grind [c8]
  obtain ⟨k,k1,k2⟩:=mY hm;obtain ⟨v,a,b,c⟩:=key u.kids (fun _ h=>h) ⟨k,k1,KW k ⟨_,k2,hx.2⟩⟩;grind [c8,vR]
theorem PL {u q:TUnit} (hu:OkB u) {i:Nat} (hq:q∈bx u) (hi:i<q.kids.length) {p t:PId} {w:Int} {anc bs:Bool} (ht:cJ t u=true) {ok:Bool}
  (he:(nF p t (ae q) (Int.ofNat i) ok anc bs (dz w u t).1 (dz w u t).2).2=0) :
  EJ (dQ (ae q) (fD i) u) (nF p t (ae q) (Int.ofNat i) ok anc bs (dz w u t).1 (dz w u t).2).1:=by
 obtain ⟨hr,_⟩:=hu.del hq hi;obtain ⟨v',C,h1,h2,h3,h4⟩:=oc u (sl hq);obtain rfl:=hu.uni h1 hq h2;obtain ⟨_,h6⟩:=h4 (fD i);have hlen:(fD i v').kids.length=v'.kids.length - 1:=List.length_eraseIdx_of_lt hi;have own : ∀ v,v∈bx (dQ (ae v') (fD i) u)→ae v=ae v'→v.kids.length=v'.kids.length - 1:=fun v hv e=>by
  obtain ⟨z,z1,z2,z3⟩:=Nu (q:=ae v') (f:=fD i) u (sl hq);obtain rfl:=hu.uni z1 hq z2;rw [hr.uni hv z3 (e.trans rfl)];omega
 have oth : ∀ v,v∈bx (dQ (ae v') (fD i) u)→ae v≠ae v'→∃ y,y∈bx u∧ae v=ae y∧v.kids.length=y.kids.length:=fun v hv hne=>by
  rcases h6 v hv with h | ⟨y,y1,y2,y3,_⟩
  ·rcases C6 h with rfl | h
   ·exact absurd rfl hne
   ·exact ⟨v,g0 hq h,rfl,rfl⟩
  grind
 have hk:=bK v';have hb:=dH hq;have hn:=hu.n;unfold nF at he ⊢;cases c1:(ax ok || ((ax (bb t p) && anc) || (bb t p && ax bs))) with
 | true=>grind
 | false=>
  rw [c1] at he;simp only [cond_false] at he ⊢;cases c2:bb t p with
  | true=>
   refine ⟨i,rfl,by omega,fun v hv hid=>?_⟩;grind [gy]
  | false=>
   rw [c2] at he;simp only [cond_false] at he ⊢;have e0:(dz w u t).2=0:=by grind
   obtain ⟨n,n1,n2,n3⟩:=Fl hu ht e0;rw [e0,n1];cases c4:bb (dz w u t).1.id (ae v') with
   | false=>
    have hne:(dz w u t).1.id≠ae v':=fun e=>by grind [kE]
    rw [show (ab 0 0 && (false && aB (Int.ofNat i) (Int.ofNat n)))=false from rfl];refine ⟨n,n1,n2,fun v hv hid=>?_⟩;grind [gy]
   | true=>
    have heq:=tO c4;have hn':=n3 v' hq ((gy _ v').2 heq.symm);cases c5:aB (Int.ofNat i) (Int.ofNat n) with
    | true=>
     have c5:=au c5;simp only [aI] at c5;rw [show (ab 0 0 && (true && true))=true from rfl];refine ⟨n - 1,by grind,by omega,fun v hv hid=>?_⟩;grind [gy]
    | false=>
     have c5:=aL c5;simp only [aI] at c5;rw [show (ab 0 0 && (true && false))=false from rfl];refine ⟨n,n1,n2,fun v hv hid=>?_⟩;grind [gy]
def yq (a i:Int) (n k:Nat):List PId:=(List.range' (n+1) k).map fun j=>⟨a,i,Int.ofNat j⟩
mutual
theorem uD (a i:Int) : ∀ (u:TUnit) (n w:Nat),dX (ch a i u n w)=yq a i n (nU u)
 | ⟨a',i',n',k,l,h,ws,ks⟩,n,w=>by
  rw [gz,ch,nU];show _::bq (eW a i ks (n+1) _)=_
  rw [yU a i ks (n+1)];unfold yq;rw [Nat.add_comm 1 (dT ks),BJ,ee];rfl
theorem yU (a i:Int) : ∀ (l:List TUnit) (n w:Nat),bq (eW a i l n w)=yq a i n (dT l)
 | [],n,w=>by rw [eW,dT,mj];rfl
 | k::r,n,w=>by
  rw [eW,dT,dO,uD a i k n w,yU a i r (n+nU k)];unfold yq;rw [← pB,show n+nU k+1=n+1+nU k by omega,← List.range'_append_1]
end
theorem N9 (a i:Int) (n k:Nat):(yq a i n k).Nodup:=by
 unfold yq;exact List.Pairwise.map _ (fun x y hne e=>hne (Int.ofNat.inj (congrArg PId.n e))) List.nodup_range'
mutual
theorem Jj (a i:Int) (B:Nat) : ∀ (u:TUnit) (n w:Nat),(∀ x,x∈bx u→x.head.length≤B∧x.words.length≤B)→∀ x,x∈bx (ch a i u n w)→x.head.length≤B∧x.words.length≤B
 | ⟨a',i',n',k,l,h,ws,ks⟩,n,w,hB,x,hx=>by
  rw [ch,bx] at hx;rcases eP.1 hx with rfl | hx
  ·have:=hB _ (by rw [bx];exact fg);exact ⟨by show (cY _ _ _ _).length≤B;rw [fI,bD,cX];exact this.1,by show (cY _ _ _ _).length≤B;rw [fI,bD,cX];exact this.2⟩
  ·exact EB a i B ks _ _ (fun y hy=>hB y (by rw [bx];exact fK _ hy)) x hx
theorem EB (a i:Int) (B:Nat) : ∀ (l:List TUnit) (n w:Nat),(∀ x,x∈dW l→x.head.length≤B∧x.words.length≤B)→∀ x,x∈dW (eW a i l n w)→x.head.length≤B∧x.words.length≤B
 | [],n,w,hB,x,hx=>by rw [eW,dW] at hx;cases hx
 | k::r,n,w,hB,x,hx=>by
  rw [eW,dW] at hx;rcases jV.1 hx with hx | hx
  ·exact Jj a i B k _ _ (fun y hy=>hB y (by rw [dW];exact Ez _ hy)) x hx
  ·exact EB a i B r _ _ (fun y hy=>hB y (by rw [dW];exact xF _ hy)) x hx
end
theorem N7 (a i:Int) (u:TUnit) (n w:Nat):nU (ch a i u n w)=nU u:=by grind [je,uD,yq]
end Go.Ev
namespace Go.Ev
open Go
def xJ (S T:Int→Int→Prop) (u:TUnit):Prop:=∀ x,x∈bx u→(∀ w,w∈x.head++x.words→S w.act w.item)∧(ae x=⟨0,0,0⟩∨T x.act x.item)
structure Tl (u:TUnit) (a i k:Int) (v:TUnit):Prop where
 root:ae v=ae u
 mks : ∀ S T,S a i→(k=0→T a i)→xJ S T u→xJ S T v
theorem Tl.refl (u:TUnit) (a i k:Int):Tl u a i k u:=⟨rfl,fun _ _ _ _ h=>h⟩
variable {S T : Int → Int → Prop} {u v x : TUnit} {q : PId} {f : TUnit → TUnit} {a i : Int}
theorem nj (hu:xJ S T u) (hf : ∀ v,v∈bx u→ae v=q→xJ S T (f v)):xJ S T (dQ q f u):=by
 cases hq:cJ q u with
 | false=>grind [xP]
 | true=>
  obtain ⟨v,C,h1,h2,h3,h4⟩:=oc u hq;intro x hx;rcases (h4 f).2 x hx with h | ⟨y,y1,y2,y3,y4,y5⟩
  ·exact hf v h1 h2 x h
  ·have z:=hu y y1;have e1:x.act=y.act:=congrArg PId.a y2;have e2:x.item=y.item:=congrArg PId.i y2;simp_all
theorem oO (h:xJ S T u) (hv:v∈bx u):xJ S T v:=fun x hx=>h x (g0 hv hx)
theorem PQ {j:Nat} (hv:xJ S T v) (hx:xJ S T x):xJ S T (dw j x v):=fun y hy=>by
 rcases Jr hy with rfl | h | h
 ·exact hv v (cV v)
 ·exact hx y h
 ·exact hv y h
theorem PZ {j:Nat} (hv:xJ S T v):xJ S T (fD j v):=fun y hy=>by
 rcases C6 hy with rfl | h
 ·exact hv v (cV v)
 ·exact hv y h
theorem H3 (hv:xJ S T v) (h1:(f v).kids=v.kids) (h2:ae (f v)=ae v) (h3 : ∀ w,w∈(f v).head++(f v).words→S w.act w.item):xJ S T (f v):=fun y hy=>by
 rw [c8,h1] at hy;rcases eP.1 hy with rfl | h
 ·have z:=(hv v (cV v)).2;have e1:(f v).act=v.act:=congrArg PId.a h2;have e2:(f v).item=v.item:=congrArg PId.i h2;simp_all
 ·exact hv y (by grind [c8])
theorem Fy {l:List PWord} (hv:xJ S T v) (hl : ∀ w,w∈l→S w.act w.item):xJ S T (iE l v):=H3 (f:=iE l) hv rfl rfl fun w hw=>by
 rcases jV.1 hw with h | h
 ·exact (hv v (cV v)).1 w (Ez _ h)
 ·exact hl w h
theorem Sf {l:List PWord} (hv:xJ S T v) (hl : ∀ w,w∈l→S w.act w.item):xJ S T (qa l v):=H3 (f:=qa l) hv rfl rfl fun w hw=>by
 rcases jV.1 hw with h | h
 ·exact hl w h
 ·exact (hv v (cV v)).1 w (xF _ h)
theorem O9 {s:aP} (hv:xJ S T v):xJ S T (kO s v):=H3 (f:=kO s) hv rfl rfl fun w hw=>(hv v (cV v)).1 w hw
theorem js (h : ∀ v,ae (f v)=ae v) (u:TUnit):ae (dQ q f u)=ae u:=by
 cases hi:fT q u with
 | true=>grind [qu]
 | false=>rw [me hi];rfl
theorem qP : ∀ {l:List aP} {n:Nat} {w:PWord},w∈cY a i l n→w.act=a∧w.item=i
 | s::r,n,w,h=>by
  rw [cY] at h;rcases eP.1 h with rfl | h
  ·simp_all
  ·exact qP h
theorem tW {g:Nat} {ps:List Nat} {fresh:List aP} {w:PWord} : ∀ {n:Nat} {l:List PWord},w∈rv a i g ps fresh n l→w∈l∨(w.act=a∧w.item=i)
 | 0,l,h=> .inl h
 | n+1,l,h=>by
  rw [rv] at h;rcases tW h with h | h
  all_goals grind [fm,qP]
theorem yi {l:List PWord} {w:PWord} (h:w∈sW l):w∈l:=by grind [sW]
theorem Lw {l:List PWord} {old new:List aP} {n:Int} {w:PWord} (h:w∈(yg a i l old new n).1):w∈l∨(w.act=a∧w.item=i):=by
 unfold yg at h;cases q1:ab (Int.ofNat old.length) 0 <;> rw [q1] at h
 ·cases q2:ab (Int.ofNat (mD (sU (bD l) old) n).length) 0 <;> rw [q2] at h
  ·exact tW (yi h)
  ·grind
 ·grind
theorem Po {l:List PWord} {part new:List aP} {n:Int} {w:PWord} (h:w∈(zy a i l part new n).1):w∈l∨(w.act=a∧w.item=i):=by
 unfold zy at h;cases q1:(ab (Int.ofNat new.length) 0 || (ab (Int.ofNat part.length) 0 && ax (ab n 0))) <;> rw [q1] at h
 ·cases q2:ab (Int.ofNat part.length) 0 <;> rw [q2] at h
  ·cases q3:ab (Int.ofNat (mD (sU (bD l) part) n).length) 0 <;> rw [q3] at h
   ·exact tW (yi h)
   ·grind
  ·exact tW (yi h)
 ·grind
mutual
theorem EC (h1:S a i) (h2:T a i) : ∀ (u:TUnit) (n w:Nat),xJ S T (ch a i u n w)
 | ⟨a',i',n',k,l,h,ws,ks⟩,n,w,x,hx=>by
  rw [ch,bx] at hx;rcases eP.1 hx with rfl | hx
  ·refine ⟨fun y hy=>?_, .inr h2⟩;have hy:y∈cY a i (bD h) w++cY a i (bD ws) (w+h.length):=hy;rcases jV.1 hy with q | q <;> (obtain ⟨e1,e2⟩:=qP q;rw [e1,e2];exact h1)
  ·exact Bh h1 h2 ks _ _ x hx
theorem Bh (h1:S a i) (h2:T a i) : ∀ (l:List TUnit) (n w:Nat) (x:TUnit),x∈dW (eW a i l n w)→(∀ w,w∈x.head++x.words→S w.act w.item)∧(ae x=⟨0,0,0⟩∨T x.act x.item)
 | [],n,w,x,hx=>by grind [eW,dW]
 | k::r,n,w,x,hx=>by
  rw [eW,dW] at hx;rcases jV.1 hx with hx | hx
  ·exact EC h1 h2 k _ _ x hx
  ·exact Bh h1 h2 r _ _ x hx
end
end Go.Ev
