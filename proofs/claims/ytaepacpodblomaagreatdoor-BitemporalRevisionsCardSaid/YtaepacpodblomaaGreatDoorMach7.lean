/- An abstract machine for runs of the program, proved sound against the model: part 7. No conditions. -/
import Derived.Test.YtaepacpodblomaaGreatDoorMach6
import Derived.Laws.Externs
import Derived.Lib.Join
import Derived.Lib.Repeat
namespace Go.Ev
open Go
section
variable{a i:Int}{l r x:List aO}{s:aO}{m:List PWord}{j n k:Nat}
theorem sG(h1:l.drop j=x)(h2:x=s::r)(h3:s::r=l):1=[(⟨s,a,i,.ofNat (n+j)⟩:PWord)].length∧0<[(⟨s,a,i,.ofNat (n+j)⟩:PWord)].length∧[(⟨s,a,i,.ofNat (n+j)⟩:PWord)]++cA a i r (n+[(⟨s,a,i,.ofNat (n+j)⟩:PWord)].length)=cA a i l n∧[(⟨s,a,i,.ofNat (n+j)⟩:PWord)].length+r.length=l.length:=by
 have e:=congrArg List.length (h1.trans h2);have e2:=congrArg List.length h3;simp only[wz,cP]at e e2;have:j=0:=by omega
 subst this;refine⟨rfl,Nat.one_pos,?_,by grind⟩;rw[←h3,cA];rfl
theorem vL(h1:l.drop j=x)(h2:x=s::r)(h:k=m.length∧0<m.length∧m++cA a i (s::r) (n+m.length)=cA a i l n∧m.length+(s::r).length=l.length):
  k+1=(m++[(⟨s,a,i,.ofNat (n+j)⟩:PWord)]).length∧0<(m++[(⟨s,a,i,.ofNat (n+j)⟩:PWord)]).length∧(m++[(⟨s,a,i,.ofNat (n+j)⟩:PWord)])++cA a i r (n+(m++[(⟨s,a,i,.ofNat (n+j)⟩:PWord)]).length)=cA a i l n∧(m++[(⟨s,a,i,.ofNat (n+j)⟩:PWord)]).length+r.length=l.length:=by
 have e:=congrArg List.length (h1.trans h2);obtain⟨q1,q2,q3,q4⟩:=h;simp only[wz,cP]at e q4;have:j=m.length:=by omega
 subst this;simp only[dH,cP,gp];refine⟨by omega,by omega,?_,by omega⟩;rw[←q3,cA,md];rfl
end
theorem gE(l:List PWord):(b7 l).length=l.length:=b9 ..
structure StampI(a i:Int)(ks:List TUnit)(n0 w0:Nat)(k n w:Nat)(m:List TUnit):Prop where
 len:m.length=k
 le:k≤ks.length
 all:m++fW a i (ks.drop k) n w=fW a i ks n0 w0
 num:n+eQ (ks.drop k)=n0+eQ ks
 wd:w+(kh (ks.drop k)).length=w0+(kh ks).length
theorem StampI.start(a i:Int)(ks:List TUnit)(n0 w0:Nat):StampI a i ks n0 w0 0 n0 w0 []:=⟨rfl,bH _,rfl,rfl,rfl⟩
theorem StampI.step{a i:Int}{ks:List TUnit}{n0 w0 k n w:Nat}{m:List TUnit}(h:StampI a i ks n0 w0 k n w m)(hk:k<ks.length):
  StampI a i ks n0 w0 (k+1) (n+nU (gD ks k)) (w+(m6 (gD ks k)).length) (m++[cR a i (gD ks k) n w]):=by
 have e:=ye hk;obtain⟨h1,h2,h3,h4,h5⟩:=h;rw[e,Dt]at h3;rw[e,bh]at h4;rw[e,tX,dH]at h5;exact⟨by simp_all,hk,by simp_all,by omega,by omega⟩
theorem StampI.done{a i:Int}{ks:List TUnit}{n0 w0 k n w:Nat}{m:List TUnit}(h:StampI a i ks n0 w0 k n w m)(hk:¬k<ks.length):m=fW a i ks n0 w0∧n=n0+eQ ks∧w=w0+(kh ks).length:=by grind[Fi,mX,Dm,cases StampI]
theorem XW{α:Type}[Inhabited α]{m r:List α}{k:Nat}(h:m.length=k):gD (m++r) k=gD r 0:=by grind[gD]
theorem Ul{α:Type}[Inhabited α]{l:List α}{k:Nat}:gD (l.drop k) 0=gD l k:=by simp_all[gD]
theorem TX{α:Type}{m r:List α}{k:Nat}{x y:α}(h:m.length=k):(m++x::r).set k y=(m++[y])++r:=by simp_all
def gk(a i:Int)(ks:List TUnit)(n0 w0 k n w:Nat)(L:List TUnit):Prop:=∃m,L=m++ks.drop k∧StampI a i ks n0 w0 k n w m
section
variable{a i:Int}{ks L:List TUnit}{n0 w0 k n w:Nat}
theorem gk.start(a i:Int)(ks:List TUnit)(n0 w0:Nat):gk a i ks n0 w0 0 n0 w0 ks:=⟨[],rfl,StampI.start ..⟩
theorem gk.len(h:gk a i ks n0 w0 k n w L):L.length=ks.length:=by
 obtain⟨m,rfl,hI⟩:=h;grind[cases StampI]
theorem gk.at_(h:gk a i ks n0 w0 k n w L):gD L k=gD ks k:=by
 obtain⟨m,rfl,hI⟩:=h;rw[XW hI.len,Ul]
theorem gk.step(h:gk a i ks n0 w0 k n w L)(hk:k<ks.length):gk a i ks n0 w0 (k+1) (n+nU (gD L k)) (w+(m6 (gD L k)).length) (L.set k (cR a i (gD L k) n w)):=by
 rw[h.at_];obtain⟨m,rfl,hI⟩:=h;exact⟨m++[cR a i (gD ks k) n w],by rw[ye hk,TX hI.len],hI.step hk⟩
theorem gk.num(h:gk a i ks n0 w0 k n w L):n+eQ (ks.drop k)=n0+eQ ks∧w+(kh (ks.drop k)).length=w0+(kh ks).length:=by
 obtain⟨m,rfl,hI⟩:=h;grind[cases StampI]
theorem gk.done(h:gk a i ks n0 w0 k n w L)(hk:¬k<ks.length):L=fW a i ks n0 w0∧n=n0+eQ ks∧w=w0+(kh ks).length:=by
 obtain⟨m,rfl,hI⟩:=h;rw[B9 (by omega),dG];exact hI.done hk
theorem gk.room(h:gk a i ks n0 w0 k n w L)(hk:k<ks.length):n+nU (gD L k)≤n0+eQ ks∧w+(m6 (gD L k)).length≤w0+(kh ks).length:=by
 have h1:=h.num;rw[h.at_];grind[ye,bh,tX]
end
end Go.Ev
namespace Go.Ev
open Go
section
variable{α:Type}
structure TotB(lt:α→α→Bool):Prop where
 trans:∀x y z,lt y x=false→lt z y=false→lt z x=false
 asym:∀x y,lt x y=true→lt y x=false
variable{lt:α→α→Bool}
theorem TotB.down(T:TotB lt){x y z:α}(h1:lt z y=false)(h2:lt z x=true):lt y x=true:=by
 cases h:lt y x with
 |true=>rfl
 |false=>grind[cases TotB]
theorem TotB.up(T:TotB lt){x y z:α}(h1:lt x y=true)(h2:lt z y=false):lt x z=true:=by
 cases h:lt x z with
 |true=>rfl
 |false=>grind[cases TotB]
end
section
variable{α:Type}[Inhabited α]{lt:α→α→Bool}{l x y z w:List α}{a b m n i j k s e p d:Nat}
theorem v8(h:l.length≤i):gD l i=default:=by grind[gD]
theorem XX{v:α}(h:i<l.length):gD (l.set i v) k=if k=i then v else gD l k:=by
 unfold gD;grind
theorem rJ(hi:i<l.length)(hj:j<l.length):((l.set i (gD l j)).set j (gD l i)).Perm l:=by grind[gD,List.set_set_perm]
theorem x9(hi:i<l.length)(hj:j<l.length)(q:Nat):gD ((l.set i (gD l j)).set j (gD l i)) q=if q=j then gD l i else if q=i then gD l j else gD l q:=by grind[XX]
def di(lt:α→α→Bool)(l:List α)(a b:Nat):Prop:=∀i j,a≤i→i<j→j<b→lt (gD l j) (gD l i)=false
structure SSeg(lt:α→α→Bool)(l x:List α)(a b:Nat):Prop where
 perm:x.Perm l
 out:∀i,i<a∨b≤i→gD x i=gD l i
 src:∀i,a≤i→i<b→∃j,a≤j∧j<b∧gD x i=gD l j
 srt:di lt x a b
theorem SSeg.len(h:SSeg lt l x a b):x.length=l.length:=h.perm.length_eq
theorem mb(h:di lt l a b):SSeg lt l l a b:=⟨.refl _,fun _ _=>rfl,fun i h1 h2=>⟨i,h1,h2,rfl⟩,h⟩
theorem SSeg.cast{p q:Nat}(h:SSeg lt l x p q)(hp:p=a)(hq:q=b):SSeg lt l x a b:=by simp_all
theorem di.nil(h:b≤a+1):di lt l a b:=fun i j _ _ _=>by omega
theorem di.sub(h:di lt l a b)(h1:a≤i)(h2:j≤b):di lt l i j:=fun p q e1 e2 e3=>h p q (by omega) e2 (by omega)
theorem di.le(T:TotB lt)(h:di lt l a b)(h1:a≤i)(h2:i≤j)(h3:j<b):lt (gD l j) (gD l i)=false:=by
 rcases fe i j with q|q
 ·exact h i j h1 q h3
 grind[cases TotB]
structure InsI(lt:α→α→Bool)(l x:List α)(a i j:Nat):Prop where
 perm:x.Perm l
 out:∀q,q<a∨i+1≤q→gD x q=gD l q
 src:∀q,a≤q→q<i+1→∃p,a≤p∧p<i+1∧gD x q=gD l p
 mid:∀p q,a≤p→p<q→q≤i→q≠j→lt (gD x q) (gD x p)=false
theorem InsI.start(h:SSeg lt l x a (min i b))(h1:i<b):InsI lt l x a i i:=by
 rw[show min i b=i by omega]at h;refine⟨h.perm,fun q hq=>h.out q (by omega),fun q h1 h2=>?_,fun p q h1 h2 h3 h4=>h.srt p q h1 h2 (by omega)⟩;grind[cases SSeg]
theorem InsI.step(T:TotB lt)(h:InsI lt l x a i j)(hi:i<l.length)(h1:a<j)(h2:j≤i)(hk:k+1=j)(hl:lt (gD x j) (gD x k)=true):InsI lt l ((x.set j (gD x k)).set k (gD x j)) a i k:=by
 have hx:x.length=l.length:=h.perm.length_eq;have hj:j<x.length:=by omega
 have hkx:k<x.length:=by omega
 have g:=x9 hj hkx;refine⟨(rJ hj hkx).trans h.perm,fun q hq=>?_,fun q q1 q2=>?_,fun p q h3 h4 h5 h6=>?_⟩
 ·rw[g,if_neg (by omega),if_neg (by omega)];exact h.out q hq
 ·rw[g];split
  ·grind[cases InsI]
  ·split
   ·grind[cases InsI]
   ·exact h.src q q1 q2
 ·rw[g,g];rw[if_neg (show ¬q=k by omega)];by_cases c1:q=j
  ·rw[if_pos c1];by_cases c2:p=k
   ·rw[if_pos c2];exact T.asym _ _ hl
   ·grind[cases InsI]
  ·rw[if_neg c1];by_cases c2:p=k
   ·grind[cases InsI]
   ·rw[if_neg c2];by_cases c3:p=j
    ·grind[cases InsI]
    ·rw[if_neg c3];exact h.mid p q h3 h4 h5 c1
theorem InsI.stop(T:TotB lt)(h:InsI lt l x a i j)(ha:a≤j)(h2:j≤i)(hb:i<b)(hs:s=i+1)(hl:j=a∨∃k,k+1=j∧lt (gD x j) (gD x k)=false):SSeg lt l x a (min s b):=by
 rw[show min s b=i+1 by omega];refine⟨h.perm,h.out,h.src,fun p q h3 h4 h5=>?_⟩;grind[cases TotB,cases InsI]
theorem NC(hab:a≤b):SSeg lt l l a (min (a+1) b):=mb (di.nil (by omega))
theorem QE(h:SSeg lt l x a (min i b))(hi:b≤i):SSeg lt l x a b:=by simp_all
def sw(a b m i:Nat):Nat:=if a≤i∧i<a+m then i-a+b else if b≤i∧i<b+m then i-b+a else i
structure SwP(l x:List α)(a b m:Nat):Prop where
 perm:x.Perm l
 at_:∀i,i<l.length→gD x i=gD l (sw a b m i)
theorem SwP.len(h:SwP l x a b m):x.length=l.length:=h.perm.length_eq
theorem SwP.start:SwP l l a b 0:=⟨.refl _,fun i _=>by simp_all[sw,if_neg]⟩
theorem SwP.step(h:SwP l x a b k)(hk:k<m)(ha:a+m≤b)(hb:b+m≤l.length)(hi:i=a+k)(hj:j=b+k)(hs:s=k+1):SwP l ((x.set i (gD x j)).set j (gD x i)) a b s:=by
 subst hi hj hs;have hx:x.length=l.length:=h.perm.length_eq;have h1:a+k<x.length:=by omega
 have h2:b+k<x.length:=by omega
 refine⟨(rJ h1 h2).trans h.perm,fun q hq=>?_⟩;rw[x9 h1 h2];by_cases c1:q=b+k
 ·rw[if_pos c1,h.at_ _ (by omega)];congr 1;unfold sw;grind
 ·rw[if_neg c1];by_cases c2:q=a+k
  ·rw[if_pos c2,h.at_ _ (by omega)];congr 1;unfold sw;grind
  ·rw[if_neg c2,h.at_ _ (by omega)];congr 1;unfold sw;grind
theorem SwP.done(h:SwP l x a b k)(hk:k=m):SwP l x a b m:=hk▸h
def ro(a m b i:Nat):Nat:=if a≤i∧i<a+(b-m)then i-a+m else if a+(b-m)≤i∧i<b then i-(b-m)else i
structure RoP(l x:List α)(a m b:Nat):Prop where
 perm:x.Perm l
 at_:∀q,q<l.length→gD x q=gD l (ro a m b q)
theorem RoP.len(h:RoP l x a m b):x.length=l.length:=h.perm.length_eq
theorem RoP.cast{p q r:Nat}(h:RoP l x p q r)(hp:p=a)(hq:q=m)(hr:r=b):RoP l x a m b:=by simp_all
structure RoI(l x:List α)(a m b i j:Nat):Prop where
 perm:x.Perm l
 i0:0<i
 j0:0<j
 im:i≤m
 jn:m+j≤l.length
 at_:∀q,q<l.length→gD x (ro (m-i) m (m+j) q)=gD l (ro a m b q)
theorem RoI.len(h:RoI l x a m b i j):x.length=l.length:=h.perm.length_eq
theorem RoI.start(ha:a<m)(hm:m<b)(hb:b≤l.length)(hi:i=m-a)(hj:j=b-m):RoI l l a m b i j:=by
 subst hi hj;refine⟨.refl _,by omega,by omega,by omega,by omega,fun q _=>?_⟩;grind
theorem Vt(ham:a≤m)(hmb:m≤b)(hb:b≤n)(hi:i<n):ro a m b i<n:=by grind[ro]
theorem RoI.left{p q r:Nat}(h:RoI l x a m b i j)(hs:SwP x y p q r)(hp:p=m-i)(hq:q=m)(hr:r=j)(hij:j<i)(hk:k=i-j):RoI l y a m b k j:=by
 subst hk;subst hp;have hq:=hq.symm;subst hq;have hr:=hr.symm;subst hr;have hi:=h.im;have hj:=h.jn;have h0:=h.j0;refine⟨hs.perm.trans h.perm,by omega,h0,by omega,hj,fun q hq=>?_⟩;rw[hs.at_ _ (by rw[h.len];simp_all[Vt]),←h.at_ q hq];congr 1;unfold sw ro;grind
theorem RoI.right{p q r:Nat}(h:RoI l x a m b i j)(hs:SwP x y p q r)(hp:p=m-i)(hq:q=m+j-i)(hr:r=i)(hij:i<j)(hk:k=j-i):RoI l y a m b i k:=by
 subst hk;subst hp;have hq:=hq.symm;subst hq;have hr:=hr.symm;subst hr;have hi:=h.im;have hj:=h.jn;have h0:=h.i0;refine⟨hs.perm.trans h.perm,h0,by omega,hi,by omega,fun q hq=>?_⟩;rw[hs.at_ _ (by rw[h.len];exact Vt (by omega) (by omega) (by omega) hq),←h.at_ q hq];congr 1;unfold sw ro;by_cases c1:m-i≤q∧q<m-i+(m+(j-i)-m)
 ·grind
 ·rw[if_neg c1];by_cases c2:m-i+(m+(j-i)-m)≤q∧q<m+(j-i)
  ·grind
  ·rw[if_neg c2];grind
theorem RoI.stop{p q r:Nat}(h:RoI l x a m b i j)(hs:SwP x y p q r)(hp:p=m-i)(hq:q=m)(hr:r=i)(hij:i=j):RoP l y a m b:=by
 subst hij;subst hp;have hq:=hq.symm;subst hq;have hr:=hr.symm;subst hr;have hi:=h.im;have hj:=h.jn;refine⟨hs.perm.trans h.perm,fun q hq=>?_⟩;rw[hs.at_ _ (by rw[h.len];omega),←h.at_ q hq];congr 1;unfold sw ro;grind
theorem RoP.none(h:m≤a∨b≤m)(ham:a≤m)(hmb:m≤b):RoP l l a m b:=⟨.refl _,fun q _=>by
 congr 1;unfold ro;grind⟩
structure FstI(lt:α→α→Bool)(l:List α)(a m b i j:Nat):Prop where
 mi:m≤i
 ij:i≤j
 jb:j≤b
 lo:∀q,m≤q→q<i→lt (gD l q) (gD l a)=true
 hi:∀q,j≤q→q<b→lt (gD l q) (gD l a)=false
theorem FstI.start(h:m≤b):FstI lt l a m b m b:=⟨by omega,by omega,by omega,fun q _ _=>by omega,fun q _ _=>by omega⟩
theorem FstI.more(T:TotB lt)(h:FstI lt l a m b i j)(hs:di lt l m b)(hl:lt (gD l k) (gD l a)=true)(h1:i≤k)(h2:k<j)(hk:e=k+1):FstI lt l a m b e j:=by
 subst hk;have:=h.mi;have:=h.jb;refine⟨by omega,by omega,h.jb,fun q q1 q2=>?_,h.hi⟩;exact T.down (hs.le T q1 (by omega) (by omega)) hl
theorem FstI.less(T:TotB lt)(h:FstI lt l a m b i j)(hs:di lt l m b)(hl:lt (gD l k) (gD l a)=false)(h1:i≤k)(h2:k<j):FstI lt l a m b i k:=by
 have:=h.mi;have:=h.jb;refine⟨h.mi,by omega,by omega,h.lo,fun q q1 q2=>?_⟩;exact T.trans _ _ _ hl (hs.le T (by omega) q1 q2)
structure UpI(l x:List α)(a k:Nat):Prop where
 perm:x.Perm l
 at_:∀q,q<l.length→gD x q=gD l (if a≤q∧q<k then q+1 else if q=k then a else q)
theorem UpI.len(h:UpI l x a k):x.length=l.length:=h.perm.length_eq
theorem UpI.start:UpI l l a a:=⟨.refl _,fun q _=>by grind⟩
theorem UpI.step(h:UpI l x a k)(hk:a≤k)(hn:k+1<l.length)(he:e=k+1):UpI l ((x.set k (gD x e)).set e (gD x k)) a e:=by
 subst he;have hx:=h.len;have h1:k<x.length:=by omega
 have h2:k+1<x.length:=by omega
 refine⟨(rJ h1 h2).trans h.perm,fun q hq=>?_⟩;rw[x9 h1 h2];by_cases c1:q=k+1
 ·rw[if_pos c1,h.at_ _ (by omega),if_neg (by omega),if_pos rfl,if_neg (by omega),if_pos c1]
 ·rw[if_neg c1];by_cases c2:q=k
  ·rw[if_pos c2,h.at_ _ (by omega),if_neg (by omega),if_neg (by omega),if_pos (by omega),c2]
  ·rw[if_neg c2,h.at_ _ hq];grind
theorem UpI.stop(T:TotB lt)(h:UpI l x a k)(hf:FstI lt l a m b i j)(hs:di lt l m b)(hma:m=a+1)(hij:j≤i)(hk:k+1=i)(hb:b≤l.length):SSeg lt l x a b:=by
 have q1:=hf.mi;have q2:=hf.ij;have q3:=hf.jb;refine⟨h.perm,fun q hq=>?_,fun q h1 h2=>?_,fun p q h1 h2 h3=>?_⟩
 ·rcases fe q l.length with c|c
  ·rw[h.at_ q c,if_neg (by omega),if_neg (by omega)]
  ·rw[v8 (by rw[h.len];omega),v8 c]
 ·rw[h.at_ q (by omega)];grind
 ·rw[h.at_ p (by omega),h.at_ q (by omega)];by_cases c1:p<k
  ·rw[if_pos (show a≤p∧p<k by omega)];by_cases c2:q<k
   ·rw[if_pos (show a≤q∧q<k by omega)];exact hs _ _ (by omega) (by omega) (by omega)
   ·rw[if_neg (show ¬(a≤q∧q<k) by omega)];by_cases c3:q=k
    ·grind[cases TotB,cases FstI]
    ·grind[cases TotB,cases FstI]
  ·rw[if_neg (show ¬(a≤p∧p<k) by omega),if_neg (show ¬(a≤q∧q<k) by omega),if_neg (show ¬q=k by omega)];by_cases c3:p=k
   ·rw[if_pos c3];exact hf.hi _ (by omega) (by omega)
   ·rw[if_neg c3];exact hs _ _ (by omega) (by omega) (by omega)
structure LstI(lt:α→α→Bool)(l:List α)(a m i j:Nat):Prop where
 ai:a≤i
 ij:i≤j
 jm:j≤m
 lo:∀q,a≤q→q<i→lt (gD l m) (gD l q)=false
 hi:∀q,j≤q→q<m→lt (gD l m) (gD l q)=true
theorem LstI.start(h:a≤m):LstI lt l a m a m:=⟨by omega,by omega,by omega,fun q _ _=>by omega,fun q _ _=>by omega⟩
theorem LstI.more(T:TotB lt)(h:LstI lt l a m i j)(hs:di lt l a m)(hl:lt (gD l m) (gD l k)=false)(h1:i≤k)(h2:k<j)(hk:e=k+1):LstI lt l a m e j:=by
 subst hk;have:=h.ai;have:=h.jm;refine⟨by omega,by omega,h.jm,fun q q1 q2=>?_,h.hi⟩;exact T.trans _ _ _ (hs.le T q1 (by omega) (by omega)) hl
theorem LstI.less(T:TotB lt)(h:LstI lt l a m i j)(hs:di lt l a m)(hl:lt (gD l m) (gD l k)=true)(h1:i≤k)(h2:k<j):LstI lt l a m i k:=by
 have:=h.ai;have:=h.jm;refine⟨h.ai,by omega,by omega,h.lo,fun q q1 q2=>?_⟩;exact T.up hl (hs.le T (by omega) q1 q2)
structure DnI(l x:List α)(m k:Nat):Prop where
 perm:x.Perm l
 at_:∀q,q<l.length→gD x q=gD l (if k<q∧q≤m then q-1 else if q=k then m else q)
theorem DnI.len(h:DnI l x m k):x.length=l.length:=h.perm.length_eq
theorem DnI.start:DnI l l m m:=⟨.refl _,fun q _=>by grind⟩
theorem DnI.step(h:DnI l x m k)(hk:k≤m)(hn:m<l.length)(he:e+1=k):DnI l ((x.set k (gD x e)).set e (gD x k)) m e:=by
 subst he;have hx:=h.len;have h1:e+1<x.length:=by omega
 have h2:e<x.length:=by omega
 refine⟨(rJ h1 h2).trans h.perm,fun q hq=>?_⟩;rw[x9 h1 h2];by_cases c1:q=e
 ·rw[if_pos c1,h.at_ _ (by omega),if_neg (by omega),if_pos rfl,if_neg (by omega),if_pos c1]
 ·rw[if_neg c1];by_cases c2:q=e+1
  ·rw[if_pos c2,h.at_ _ (by omega),if_neg (by omega),if_neg (by omega),if_pos (by omega)];simp_all
  ·rw[if_neg c2,h.at_ _ hq];grind
theorem DnI.stop(T:TotB lt)(h:DnI l x m k)(hf:LstI lt l a m i j)(hs:di lt l a m)(hmb:b=m+1)(hij:j≤i)(hk:k=i)(hb:b≤l.length):SSeg lt l x a b:=by
 have q1:=hf.ai;have q2:=hf.ij;have q3:=hf.jm;refine⟨h.perm,fun q hq=>?_,fun q h1 h2=>?_,fun p q h1 h2 h3=>?_⟩
 ·rcases fe q l.length with c|c
  ·rw[h.at_ q c,if_neg (by omega),if_neg (by omega)]
  ·rw[v8 (by rw[h.len];omega),v8 c]
 ·rw[h.at_ q (by omega)];grind
 ·rw[h.at_ p (by omega),h.at_ q (by omega)];by_cases c1:q≤k
  ·rw[if_neg (show ¬(k<q∧q≤m) by omega),if_neg (show ¬(k<p∧p≤m) by omega),if_neg (show ¬p=k by omega)];by_cases c3:q=k
   ·rw[if_pos c3];exact hf.lo _ h1 (by omega)
   ·rw[if_neg c3];exact hs _ _ h1 h2 (by omega)
  ·rw[if_pos (show k<q∧q≤m by omega)];by_cases c2:k<p
   ·rw[if_pos (show k<p∧p≤m by omega)];exact hs _ _ (by omega) (by omega) (by omega)
   ·rw[if_neg (show ¬(k<p∧p≤m) by omega)];by_cases c3:p=k
    ·grind[cases TotB,cases LstI]
    ·rw[if_neg c3];exact hs _ _ h1 (by omega) (by omega)
structure CutI(lt:α→α→Bool)(l:List α)(lo hi p i j:Nat):Prop where
 li:lo≤i
 ij:i≤j
 jh:j≤hi
 low:∀c,lo≤c→c<i→lt (gD l (p-c)) (gD l c)=false
 high:∀c,j≤c→c<hi→lt (gD l (p-c)) (gD l c)=true
variable{lo hi:Nat}
theorem CutI.start(h:lo≤hi):CutI lt l lo hi p lo hi:=⟨by omega,by omega,by omega,fun q _ _=>by omega,fun q _ _=>by omega⟩
theorem CutI.more(T:TotB lt)(h:CutI lt l lo hi p i j)(hA:di lt l a m)(hB:di lt l m b)(hl:lt (gD l s) (gD l k)=false)(b1:a≤lo)(b2:hi≤m)(b3:m+hi≤p+1)(b4:p<b+lo)(h1:i≤k)(h2:k<j)(hk:e=k+1)(hs:s=p-k):CutI lt l lo hi p e j:=by
 subst hk hs;have:=h.li;have:=h.jh;refine⟨by omega,by omega,h.jh,fun c c1 c2=>?_,h.high⟩;exact T.trans _ _ _ (hA.le T (i:=c) (j:=k) (by omega) (by omega) (by omega)) (T.trans _ _ _ hl (hB.le T (i:=p-k) (j:=p-c) (by omega) (by omega) (by omega)))
theorem CutI.less(T:TotB lt)(h:CutI lt l lo hi p i j)(hA:di lt l a m)(hB:di lt l m b)(hl:lt (gD l s) (gD l k)=true)(b1:a≤lo)(b2:hi≤m)(b3:m+hi≤p+1)(b4:p<b+lo)(h1:i≤k)(h2:k<j)(hs:s=p-k):CutI lt l lo hi p i k:=by
 subst hs;have:=h.li;have:=h.jh;refine⟨h.li,by omega,by omega,h.low,fun c c1 c2=>?_⟩;exact T.down (hB.le T (i:=p-c) (j:=p-k) (by omega) (by omega) (by omega)) (T.up hl (hA.le T (i:=k) (j:=c) (by omega) (by omega) (by omega)))
theorem N9(T:TotB lt)(h:CutI lt l lo hi p s s)(hA:di lt l a m)(hB:di lt l m b)(hr:RoP l y s m e)(hab:b≤l.length)
  (d1:d+m=p+1)(e1:e+s=p+1)(f1:a≤s)(f2:s≤m)(f3:m≤e)(f4:e≤b)(f5:lo<s∨s=a∨e=b)(f6:s<hi∨s=m∨e=m):
  ∀i j,a≤i→i<d→d≤j→j<b→lt (gD y j) (gD y i)=false:=by
 intro i j h1 h2 h3 h4;rw[hr.at_ i (by omega),hr.at_ j (by omega)];unfold ro;by_cases c1:i<s
 ·rw[if_neg (show ¬(s≤i∧i<s+(e-m)) by omega),if_neg (show ¬(s+(e-m)≤i∧i<e) by omega)];rw[if_neg (show ¬(s≤j∧j<s+(e-m)) by omega)];by_cases c2:j<e
  ·rw[if_pos (show s+(e-m)≤j∧j<e by omega)];exact hA.le T h1 (by omega) (by omega)
  ·rw[if_neg (show ¬(s+(e-m)≤j∧j<e) by omega)];have hc:=h.low (s-1) (by omega) (by omega);rw[show p-(s-1)=e by omega]at hc;exact T.trans _ _ _ (hA.le T (i:=i) (j:=s-1) h1 (by omega) (by omega)) (T.trans _ _ _ hc (hB.le T (i:=e) (j:=j) (by omega) (by omega) h4))
 ·rw[if_pos (show s≤i∧i<s+(e-m) by omega),if_neg (show ¬(s≤j∧j<s+(e-m)) by omega)];by_cases c2:j<e
  ·rw[if_pos (show s+(e-m)≤j∧j<e by omega)];have hc:=h.high s (by omega) (by omega);rw[show p-s=e-1 by omega]at hc;refine T.asym _ _ (T.up (T.down (hB.le T (i:=i-s+m) (j:=e-1) (by omega) (by omega) (by omega)) hc) (hA.le T (i:=s) (j:=j-(e-m)) (by omega) (by omega) (by omega)))
  ·rw[if_neg (show ¬(s+(e-m)≤j∧j<e) by omega)];exact hB.le T (by omega) (by omega) h4
theorem RoP.left(hr:RoP l y s m e)(hA:di lt l a m)(f2:s≤m)(f3:m≤e)(f4:e≤l.length):di lt y a s:=fun i j h1 h2 h3=>by
 rw[hr.at_ i (by omega),hr.at_ j (by omega)];unfold ro;rw[if_neg (by omega),if_neg (by omega),if_neg (by omega),if_neg (by omega)];exact hA i j h1 h2 (by omega)
theorem RoP.mid1(hr:RoP l y s m e)(hB:di lt l m b)(f3:m≤e)(f4:e≤b)(f2:s≤m)(hb:b≤l.length)(hd:d=s+(e-m)):di lt y s d:=fun i j h1 h2 h3=>by
 rw[hr.at_ i (by omega),hr.at_ j (by omega)];unfold ro;rw[if_pos (by omega),if_pos (by omega)];exact hB _ _ (by omega) (by omega) (by omega)
theorem RoP.mid2(hr:RoP l y s m e)(hA:di lt l a m)(f1:a≤s)(f2:s≤m)(f3:m≤e)(f4:e≤l.length)(hd:d=s+(e-m)):di lt y d e:=fun i j h1 h2 h3=>by
 rw[hr.at_ i (by omega),hr.at_ j (by omega)];unfold ro;rw[if_neg (by omega),if_pos (by omega),if_neg (by omega),if_pos (by omega)];exact hA _ _ (by omega) (by omega) (by omega)
theorem RoP.right(hr:RoP l y s m e)(hB:di lt l m b)(f2:s≤m)(f3:m≤e)(hb:b≤l.length):di lt y e b:=fun i j h1 h2 h3=>by
 rw[hr.at_ i (by omega),hr.at_ j (by omega)];unfold ro;rw[if_neg (by omega),if_neg (by omega),if_neg (by omega),if_neg (by omega)];exact hB i j (by omega) h2 h3
theorem RoP.lower(hr:RoP l y s m e)(hA:di lt l a m)(hB:di lt l m b)(hd:d+m=s+e)(h:s≤a∨d≤s)(f1:a≤s)(f2:s≤m)(f3:m≤e)(f4:e≤b)(hb:b≤l.length):di lt y a d:=by
 rcases h with h|h
 ·have:=hr.mid1 hB f3 f4 f2 hb (d:=d) (by omega);grind
 ·have:=hr.left hA f2 f3 (by omega);grind
theorem RoP.upper(hr:RoP l y s m e)(hA:di lt l a m)(hB:di lt l m b)(hd:d+m=s+e)(h:b≤e∨e≤d)(f1:a≤s)(f2:s≤m)(f3:m≤e)(f4:e≤b)(hb:b≤l.length):di lt y d b:=by
 rcases h with h|h
 ·have:=hr.mid2 hA f1 f2 f3 (by omega) (d:=d) (by omega);grind
 ·have:=hr.right hB f2 f3 hb;grind
theorem W9(hr:RoP l y s m e)(hz:SSeg lt y z a d)(hw:SSeg lt z w d b)(had:a≤d)(hdb:d≤b)(hb:b≤l.length)(f1:a≤s)(f2:s≤m)(f3:m≤e)(f4:e≤b)
  (hx:∀i j,a≤i→i<d→d≤j→j<b→lt (gD y j) (gD y i)=false):SSeg lt l w a b:=by
 have hro:∀q,a≤q→q<b→a≤ro s m e q∧ro s m e q<b:=fun q h1 h2=>by grind[ro]
 have hy:∀q,q<a∨b≤q→gD y q=gD l q:=fun q hq=>by
  rcases fe q l.length with c|c
  ·rw[hr.at_ q c];congr 1;unfold ro;grind
  ·rw[v8 (by rw[hr.len];omega),v8 c]
 refine⟨hw.perm.trans (hz.perm.trans hr.perm),fun q hq=>?_,fun q h1 h2=>?_,fun i j h1 h2 h3=>?_⟩
 ·grind[cases SSeg]
 ·rcases fe q d with c|c
  ·obtain⟨j,j1,j2,j3⟩:=hz.src q h1 c;have:=hro j j1 (by omega);exact⟨_,this.1,this.2,by rw[hw.out q (.inl c),j3,hr.at_ j (by omega)]⟩
  ·obtain⟨j,j1,j2,j3⟩:=hw.src q c h2;have:=hro j (by omega) j2;exact⟨_,this.1,this.2,by rw[j3,hz.out j (.inr j1),hr.at_ j (by omega)]⟩
 ·rcases fe j d with c|c
  ·rw[hw.out i (.inl (by omega)),hw.out j (.inl c)];exact hz.srt i j h1 h2 c
  ·rcases fe i d with c2|c2
   ·obtain⟨i',i1,i2,i3⟩:=hz.src i h1 c2;obtain⟨j',j1,j2,j3⟩:=hw.src j c h3;rw[hw.out i (.inl c2),i3,j3,hz.out j' (.inr j1)];simp_all
   ·exact hw.srt i j c2 h2 h3
theorem vH(T:TotB lt)(h:CutI lt l lo hi p i s)(hA:di lt l a m)(hB:di lt l m b)(hr:RoP l y i m e)(hz:SSeg lt y z a d)(hw:SSeg lt z w d b)(his:s≤i)(hd:d+m=p+1)(he:e+i=p+1)(had:a≤d)(hdb:d≤b)(hb:b≤l.length)(f1:a≤i)(f2:i≤m)(f3:m≤e)(f4:e≤b)(f5:lo<i∨i=a∨e=b)(f6:i<hi∨i=m∨e=m):SSeg lt l w a b:=by
 have:i=s:=Nat.le_antisymm h.ij his;grind[W9,N9]
theorem SSeg.keep(h:SSeg lt l x a b)(hs:di lt l i j)(hd:j≤a∨b≤i):di lt x i j:=fun p q h1 h2 h3=>by rw[h.out p (by omega),h.out q (by omega)];exact hs p q h1 h2 h3
def Ou(lt:α→α→Bool)(x:List α)(s n:Nat):Prop:=∀c,di lt x (c*s) (min ((c+1)*s) n)
theorem rn{t c d:Nat}(h:a=d*t):(c+1)*t≤a∨c=d∨a+t≤c*t:=by
 subst h;rcases Nat.lt_trichotomy c d with q|q|q
 ·exact .inl (ee _ q)
 ·omega
 ·refine .inr (.inr ?_);have:=ee t q;grind
structure BlkA(lt:α→α→Bool)(l x:List α)(s a:Nat):Prop where
 perm:x.Perm l
 dv:∃c,a=c*s
 ok:∀c,di lt x (c*s) (min ((c+1)*s) a)
theorem BlkA.len(h:BlkA lt l x s a):x.length=l.length:=h.perm.length_eq
theorem BlkA.start:BlkA lt l l s 0:=⟨.refl _,⟨0,by omega⟩,fun c=>di.nil (by omega)⟩
theorem BlkA.step(h:BlkA lt l x s a)(hy:SSeg lt x y a b)(hb:b=a+s):BlkA lt l y s b:=by
 obtain⟨d,hd⟩:=h.dv;subst hb;refine⟨hy.perm.trans h.perm,⟨d+1,by grind⟩,fun c=>?_⟩;rcases rn (c:=c) hd with q|q|q
 ·have:=h.ok c;rw[show min ((c+1)*s) a=(c+1)*s by omega]at this;rw[show min ((c+1)*s) (a+s)=(c+1)*s by omega];exact hy.keep this (.inl q)
 all_goals grind[di.nil,cases SSeg]
theorem BlkA.last(h:BlkA lt l x s a)(hy:SSeg lt x y a n)(hn:n<a+s)(ha:a≤n):y.Perm l∧Ou lt y s n:=by
 obtain⟨d,hd⟩:=h.dv;refine⟨hy.perm.trans h.perm,fun c=>?_⟩;rcases rn (c:=c) hd with q|q|q
 ·have:=h.ok c;rw[show min ((c+1)*s) a=(c+1)*s by omega]at this;rw[show min ((c+1)*s) n=(c+1)*s by omega];exact hy.keep this (.inl q)
 all_goals grind[di.nil,cases SSeg]
structure BlkB(lt:α→α→Bool)(l x:List α)(s a n:Nat):Prop where
 perm:x.Perm l
 dv:∃c,a=c*(2*s)
 ok:∀c,di lt x (c*(2*s)) (min ((c+1)*(2*s)) a)
 rest:∀c,a≤c*s→di lt x (c*s) (min ((c+1)*s) n)
theorem BlkB.len(h:BlkB lt l x s a n):x.length=l.length:=h.perm.length_eq
theorem BlkB.start(h:x.Perm l∧Ou lt x s n):BlkB lt l x s 0 n:=⟨h.1,⟨0,by omega⟩,fun c=>di.nil (by omega),fun c _=>h.2 c⟩
theorem BlkB.pre1(h:BlkB lt l x s a n)(hm:m=a+s)(hn:m≤n):di lt x a m:=by
 obtain⟨d,hd⟩:=h.dv;have e:a=(d*2)*s:=by grind
 have:=h.rest (d*2) (by omega);grind
theorem BlkB.pre2(h:BlkB lt l x s a n)(hm:m=a+s)(hb:b≤m+s)(hn:b≤n):di lt x m b:=by
 obtain⟨d,hd⟩:=h.dv;have e:a=(d*2)*s:=by grind
 have e2:m=(d*2+1)*s:=by grind
 have:=h.rest (d*2+1) (by omega);rw[←e2,qZ,←e2]at this;exact this.sub (ar _) (by omega)
theorem BlkB.step(h:BlkB lt l x s a n)(hy:SSeg lt x y a b)(hb:b=a+2*s):BlkB lt l y s b n:=by
 obtain⟨d,hd⟩:=h.dv;subst hb;refine⟨hy.perm.trans h.perm,⟨d+1,by grind⟩,fun c=>?_,fun c hc=>hy.keep (h.rest c (by omega)) (.inr hc)⟩;rcases rn (c:=c) hd with q|q|q
 ·have:=h.ok c;rw[show min ((c+1)*(2*s)) a=(c+1)*(2*s) by omega]at this;rw[show min ((c+1)*(2*s)) (a+2*s)=(c+1)*(2*s) by omega];exact hy.keep this (.inl q)
 all_goals grind[di.nil,cases SSeg]
theorem BlkB.last(h:BlkB lt l x s a n)(hy:SSeg lt x y a n)(hn:n<a+2*s)(ht:d=2*s)(ha:a≤n):y.Perm l∧Ou lt y d n:=by
 subst ht;obtain⟨d,hd⟩:=h.dv;refine⟨hy.perm.trans h.perm,fun c=>?_⟩;rcases rn (c:=c) hd with q|q|q
 ·have:=h.ok c;rw[show min ((c+1)*(2*s)) a=(c+1)*(2*s) by omega]at this;rw[show min ((c+1)*(2*s)) n=(c+1)*(2*s) by omega];exact hy.keep this (.inl q)
 all_goals grind[di.nil,cases SSeg]
theorem BlkB.one(h:BlkB lt l x s a n)(hn:n≤a+s):SSeg lt x x a n:=by
 obtain⟨d,hd⟩:=h.dv;have e:a=(d*2)*s:=by grind
 have:=h.rest (d*2) (by omega);simp_all[qZ,mb]
theorem Ou.all(h:Ou lt x s n)(hn:n≤s):di lt x 0 n:=by
 have:=h 0;simp_all
theorem di.pair:∀{x:List α},di lt x 0 x.length→x.Pairwise fun u v=>lt v u=false
 |[],_=>.nil
 | u::r,h=>jU.2 ⟨fun v hv=>by
   obtain⟨i,hi,rfl⟩:=FZ hv;have:=h 0 (i+1) (by omega) (by omega) (by simp_all);have e:gD (u::r) (i+1)=r[i]:=by grind[gD]
   rw[e]at this;exact this,di.pair fun i j _ h2 h3=>h (i+1) (j+1) (by omega) (by omega) (by simp_all)⟩
end
section
variable{α:Type}{lt:α→α→Bool}
theorem Cs:∀{x y:List α},x.Pairwise (fun u v=>lt v u=false)→y.Pairwise (fun u v=>lt v u=false)→x.Perm y→(∀u v,u∈x→v∈x→lt u v=false→lt v u=false→u=v)→x=y
 |[],y,_,_,hp,_=>hp.nil_eq
 |u::r,[],_,_,hp,_=>by simp_all
 |u::r,v::t,hx,hy,hp,H=>by
  obtain⟨x1,x2⟩:=jU.1 hx;obtain⟨y1,y2⟩:=jU.1 hy;have hv:v∈u::r:=hp.mem_iff.2 (eT ..);have hu:u∈v::t:=hp.mem_iff.1 (eT ..);have e:u=v:=by grind
  subst e;rw[Cs x2 y2 ((List.perm_cons u).1 hp) fun a b ha hb=>H a b (e9 _ ha) (e9 _ hb)]
def Ey(lt:α→α→Bool)(a:α):List α→List α
 |[]=>[a]
 |b::r=>match lt b a with|true=>b::Ey lt a r|false=>a::b::r
def Pc(lt:α→α→Bool)(l:List α):List α:=l.foldl (fun o a=>Ey lt a o) []
theorem vR(a:α):∀(l:List α),(Ey lt a l).Perm (a::l)
 |[]=>.refl _
 |b::r=>by
  unfold Ey;cases lt b a with
  |true=>exact((vR a r).cons b).trans (.swap a b r)
  |false=>simp_all
theorem C1(T:TotB lt)(a:α):∀{l:List α},l.Pairwise (fun u v=>lt v u=false)→(Ey lt a l).Pairwise (fun u v=>lt v u=false)
 |[],_=>List.pairwise_singleton ..
 | b::r,h=>by
  obtain⟨h1,h2⟩:=jU.1 h;unfold Ey;cases q:lt b a with
  |true=>
   refine jU.2 ⟨fun v hv=>?_,C1 T a h2⟩;grind[vR,cases TotB]
  |false=>
   refine jU.2 ⟨fun v hv=>?_,h⟩;grind[cases TotB]
theorem zQ(T:TotB lt):∀(l o:List α),o.Pairwise (fun u v=>lt v u=false)→((l.foldl (fun o a=>Ey lt a o) o).Perm (o++l)∧(l.foldl (fun o a=>Ey lt a o) o).Pairwise fun u v=>lt v u=false)
 |[],o,h=>⟨by simp_all,h⟩
 |a::r,o,h=>by
  obtain⟨h1,h2⟩:=zQ T r (Ey lt a o) (C1 T a h);refine⟨h1.trans ?_,h2⟩;exact((vR a o).append_right r).trans (List.perm_middle.symm)
theorem y9(T:TotB lt)(l:List α):(Pc lt l).Perm l:=(zQ T l [] .nil).1
theorem Pb(T:TotB lt){l x:List α}(hp:x.Perm l)(hs:x.Pairwise fun u v=>lt v u=false)(H:∀u v,u∈l→v∈l→lt u v=false→lt v u=false→u=v):x=Pc lt l:=Cs hs (zQ T l [] .nil).2 (hp.trans (y9 T l).symm) fun u v hu hv=>H u v (hp.mem_iff.1 hu) (hp.mem_iff.1 hv)
end
end Go.Ev
namespace Go.Ev
open Go
def Aa(d:Int)(s:PSpan):Bool:=aw (au d 0)&&(aw (au 1048576 d)&&(aw (au d s.from_)&&au d s.to))
def BL(l:List PSpan)(d:Int):Bool:=l.any (Aa d)
theorem BJ(a b:Int):aw (au a b)=decide (b≤a):=by
 cases h:au a b with
 |true=>grind[an]
 |false=>simp_all[aF]
theorem T6(a b:Int):au a b=decide (a<b):=by
 cases h:au a b with
 |true=>simp_all[an]
 |false=>simp_all[aF]
theorem yw:∀(l:List PSpan)(d:Int),BL l d=(Ea d&&memB l d)
 |[],d=>by simp[BL,memB]
 | s::r,d=>by
  have ih:=yw r d;have e:BL (s::r) d=(Aa d s||BL r d):=rfl;rw[e,ih,dw];have e2:Aa d s=(Ea d&&decide (s.from_≤d∧d<s.to)):=by
   unfold Aa Ea;rw[BJ,BJ,BJ,T6,vU];grind
  grind
structure PtsI(l:List Int):Prop where
 rise:l.Pairwise (· < ·)
 zero:0∈l
 ok:∀z,z∈l→0≤z∧z≤1048576
def bnd(P:List Int)(i:Nat):Int:=bif Nat.blt i P.length then gD P i else 1048577
structure BothI(g:Int→Bool)(P:List Int)(out:List PSpan)(i:Nat):Prop where
 nrm:NrmS out
 mem:∀d,memB out d=(decide (0≤d∧d<bnd P i)&&g d)
 to:∀s,s∈out→s.to≤bnd P i
section
variable{g:Int→Bool}{P:List Int}{out:List PSpan}{i:Nat}
end
end Go.Ev
namespace Go.Ev
open Go
theorem VRel.unren{ρ:Nat→Nat}{n:Nat}{pl pl2:Pl}{M:dn}{v:AV}{x:Value}(h:VRel pl2 M v x)(hp:∀id p,id<n→pl2 id=some p→pl (ρ id)=some p)(ht:v.top≤n):VRel pl M (Ev.ren ρ v) x:=by
 have gt:∀{xs:List AV}{i:Nat}{z:AV},(xs.map (Ev.ren ρ))[i]?=some z→∃y,xs[i]?=some y∧z=Ev.ren ρ y:=by grind
 have tp:∀{xs:List AV}{i j:Nat}{z y:AV},ax xs≤n→xs[i]?=some z→z.cells[j]?=some y→y.top≤n:=by
  intro xs i j x y h1 h2 h3;exact kH (du.1 h1 x (bi h2)) (bi h3)
 have sc:∀{xs:List AV}{sz:Nat},(∀x,x∈xs→x.cells.length=sz∧Sc x)→∀x,x∈xs.map (Ev.ren ρ)→x.cells.length=sz∧Sc x:=by
  intro xs sz h x hx;obtain⟨y,hy,rfl⟩:=ka.1 hx;obtain⟨h1,h2⟩:=h y hy;rw[fP];refine⟨by simp_all,fun u hu=>?_⟩;rw[fP]at hu;obtain⟨z,hz,rfl⟩:=ka.1 hu;rw[nT];exact h2 z hz
 have cel:∀{xs:List AV}{c:Array Value}{o sz:Nat},ax xs≤n→(∀i x j y,xs[i]?=some x→x.cells[j]?=some y→y.top≤n→VRel pl M (Ev.ren ρ y) (c.getD (o+i*sz+j) undef))→
   ∀i x j y,(xs.map (Ev.ren ρ))[i]?=some x→x.cells[j]?=some y→VRel pl M y (c.getD (o+i*sz+j) undef):=by
  intro xs c o sz ht h i x j y h1 h2;obtain⟨x0,e1,rfl⟩:=gt h1;rw[fP]at h2;grind
 induction h with
 |bool b=>exact .bool b
 |int k n=>exact .int k n
 |str s=>exact .str s
 |nilp=>exact .nilp
 |ptr h1 h2 h3=>simp only[AV.top]at ht;exact .ptr (hp _ _ (by omega) h1) h2 h3
 |pptr hm hs hi hc ih=>
  simp only[AV.top]at ht;simp only[Ev.ren,fZ];exact .pptr ⟨hm.1,hm.2.1,by simp_all,hm.2.2.2⟩ (sc hs) (by simp_all) (cel ht fun i x j y h1 h2 h3=>ih i x j y h1 h2 h3)
 |nils=>exact .nils
 |slice h1 h2 h3 h4 h5=>simp only[AV.top]at ht;exact .slice (hp _ _ (by omega) h1) h2 h3 h4 h5
 |sl0n _ ih=>exact .sl0n (ih (bH _))
 |sl0s _ ih=>exact .sl0s (ih ht)
 |ps hl ht' hm hs hc ih=>
  simp only[AV.top]at ht;simp only[Ev.ren,fZ];have:=VRel.ps (pl:=pl) (xs:=_) (by simpa using hl) (by simpa using ht') (by simp_all) (sc hs) (cel ht fun i x j y h1 h2 h3=>ih i x j y h1 h2 h3);simp_all
 |lsn=>exact .lsn
 |lsp h ht0 ih=>
  have:=ih (by grind[AV.top]);simp only[Ev.ren,eN ρ _ ht0]at this;exact .lsp this ht0
 |nilm=>exact .nilm
 |map h1 h2=>simp only[AV.top]at ht;exact .map (hp _ _ (by omega) h1) h2
 |func h1 h2 _ _ ih1 ih2=>
  simp only[AV.top,qi]at ht;simp only[Ev.ren,fZ];refine .func (by simp_all) (by simp_all) (fun j y hj=>?_) (fun j y hj=>?_)
  ·obtain⟨z,e,rfl⟩:=gt hj;exact ih1 j z e (du.1 ht.1 z (bi e))
  ·obtain⟨z,e,rfl⟩:=gt hj;exact ih2 j z e (du.1 ht.2 z (bi e))
 |nilf=>exact .nilf
 |iface _ ih=>simp only[AV.top]at ht;exact .iface (ih ht)
 |nili=>exact .nili
 |agg h1 h2 _ ih=>
  simp only[AV.top]at ht;simp only[Ev.ren,fZ];refine .agg (by simp_all) (fun y hy=>?_) (fun j y hj=>?_)
  ·grind[nT]
  ·obtain⟨z,e,rfl⟩:=gt hj;exact ih j z e (du.1 ht z (bi e))
 |tuple h1 _ ih=>
  simp only[AV.top]at ht;simp only[Ev.ren,fZ];refine .tuple (by simp_all) (fun j y hj=>?_);obtain⟨z,e,rfl⟩:=gt hj;exact ih j z e (du.1 ht z (bi e))
def ep0:AObj→Bool
 | .row _ _ e _=>Nat.beq e 0
 | .map _ _=>true
 |_=>false
theorem bu.ep0{pl:Pl}{M:dn}{p:Place}{o:AObj}{x:Option Obj}(h:bu pl M p o x)(he:Ev.ep0 o=true):p.ep=0:=by
 match o,x with
 | .row sz op ep xs,some (.cells c t fr)=>rw[h.1];exact pc he
 | .map es clock,some (.map entries clock')=>exact h.1
theorem UE{ρ:Nat→Nat}{o:AObj}:ep0 (j5 ρ o)=ep0 o:=by cases o<;>rfl
theorem bu.unren{ρ:Nat→Nat}{n:Nat}{pl pl2:Pl}{M:dn}{o:AObj}{p:Place}{x:Option Obj}(h:bu pl2 M p o x)(he:Ev.ep0 o=true)(hp:∀id p,id<n→pl2 id=some p→pl (ρ id)=some p)(ht:o.top≤n):bu pl M p (j5 ρ o) x:=by
 match o,x with
 | .row sz op ep xs,some (.cells c t fr)=>
  obtain⟨h1,h2,h3,h4,h5,h6,h7,h8⟩:=h;simp only[AObj.top]at ht;have gt:∀{xs:List AV}{i:Nat}{z:AV},(xs.map (Ev.ren ρ))[i]?=some z→∃y,xs[i]?=some y∧z=Ev.ren ρ y:=by grind
  simp only[j5,fZ];refine⟨h1,h2,by simp_all,h4,h5,h6,by simp_all,⟨by simpa using h8.fit,fun y hy=>?_,fun i z j y k1 k2=>?_⟩⟩
  ·obtain⟨z,hz,rfl⟩:=ka.1 hy;obtain⟨q1,q2⟩:=h8.elem z hz;rw[fP];refine⟨by simp_all,fun u hu=>?_⟩;rw[fP]at hu;obtain⟨z,hz,rfl⟩:=ka.1 hu;rw[nT];exact q2 z hz
  ·obtain⟨z0,e1,rfl⟩:=gt k1;rw[fP]at k2;obtain⟨y0,e2,rfl⟩:=gt k2;exact(h8.cell i z0 j y0 e1 e2).unren hp (kH (du.1 ht z0 (bi e1)) (bi e2))
 | .map es clock,some (.map entries clock')=>
  obtain⟨h1,h2,h3,h4⟩:=h;simp only[AObj.top]at ht;simp only[j5,qv];refine⟨h1,h2,by simp_all,fun i e hi=>?_⟩;rw[qQ]at hi;cases hx:es[i]? with
  |none=>grind
  |some e0=>
   rw[hx]at hi;cases hi
   obtain⟨e',k1,k2,k3,k4⟩:=h4 i e0 hx;have:=pY.1 ht e0 (bi hx);exact⟨e',k1,k2.unren hp this.1,k3.unren hp this.2,k4⟩
theorem aL.frame{P:Program}{G:eg}(hG:iF G){f:FuncId}{args:List AV}{v:AV}(ρ:Nat→Nat){L L':List AObj}(hl:L'.length=L.length)
  (hL:∀o,o∈L→ep0 o=true∧o.top≤L.length)(hL':∀o,o∈L'→ep0 o=true∧o.top≤L.length)(hm:∀i o,L'[i]?=some o→(ab L').get i=some o)(ht:ax args≤L.length)(hv:v.top≤L.length)
  (hi:∀i j,i<L.length→j<L.length→ρ i=ρ j→i=j)
  (h0:aL P G f args (ab L) (fun v1 h1=>v1=v∧h1=ab L')){h h':AHeap}(hg:∀i o,L[i]?=some o→h.get (ρ i)=some (j5 ρ o))
  (hg':∀k o,h'.get k=some o→(∃i o',L'[i]?=some o'∧k=ρ i∧o=j5 ρ o')∨((∀i,i<L.length→k≠ρ i)∧h.get k=some o))(hn:h'.n=h.n):
  aL P G f (lE ρ args) h (fun v1 h1=>v1=Ev.ren ρ v∧h1=h'):=by
 intro pl M w vs hG1 hr hvs;obtain⟨n,en⟩:∃n,n=L.length:=⟨_,rfl⟩
 rw[←en]at hL hL' ht hi hg' hv;have hat:∀i,i<n→∃o,L[i]?=some o∧o∈L:=fun i h=>⟨L[i],lp (by omega),Do _⟩
 have hat':∀i,i<n→∃o,L'[i]?=some o∧o∈L':=fun i h=>⟨L'[i]'(by omega),lp (by omega),Do _⟩
 have hpl1:∀k q,jB ρ n pl k=some q→k<n∧pl (ρ k)=some q:=fun k q hk=>by grind[jB]
 have hnH:(ab L).n=n:=en.symm;have hnH':(ab L').n=n:=hl.trans en.symm;have hr1:cF (jB ρ n pl) M (ab L) w:=by
  refine⟨fun k q hk=>?_,fun k q o hk hgo=>?_,fun k q hk=>?_,fun k k' q q' hk hk' e=>?_,hr.imm,fun k q hk=>?_⟩
  ·simp_all
  ·obtain⟨hk1,hk2⟩:=hpl1 k q hk;have:=na hgo;exact(hr.obj (ρ k) q _ hk2 (hg k o this)).ren (hL o (bi this)).2
  ·exact hr.blk _ q (hpl1 k q hk).2
  ·obtain⟨a1,a2⟩:=hpl1 k q hk;obtain⟨b1,b2⟩:=hpl1 k' q' hk';exact hi k k' a1 b1 (hr.inj _ _ q q' a2 b2 e)
  ·exact hr.sep _ q (hpl1 k q hk).2
 have hvs1:VRels (jB ρ n pl) M args vs:=⟨by rw[←hvs.len,fZ,b9],fun j y hj=>(hvs.at_ j (Ev.ren ρ y) (by grind[fZ])).ren rfl (du.1 ht y (bi hj))⟩
 have hG1':pb G (jB ρ n pl) M:=hG1.none hG;have fin:∀cv w',iX (jB ρ n pl) M (ab L) w v (ab L') cv w'→iX pl M h w (Ev.ren ρ v) h' cv w':=by
  intro cv w' ⟨pl2,M2,k1,k2,k3,k4⟩;have kept:∀b,b<w.heap.size→(∀i q,i<n→pl (ρ i)=some q→q.blk≠b)→w'.heap[b]?=w.heap[b]?:=fun b hb hne=>k3.kept b hb fun k q hk _=>hne k q (hpl1 k q hk).1 (hpl1 k q hk).2
  have same:∀i,i<n→pl2 i=pl (ρ i):=by
   intro i hin;cases hp:pl (ρ i)with
   |none=>exact k3.new i (by omega) (by simp_all[jB])
   |some p=>
    obtain⟨p2,e1,e2,e3⟩:=k3.ext i p (tD hin hp);obtain⟨o,h1,h2⟩:=hat i hin;obtain⟨o',h1',h2'⟩:=hat' i hin;have q1:p.ep=0:=(hr.obj (ρ i) p _ hp (hg i o h1)).ep0 (by grind[UE]);have q2:p2.ep=0:=(k2.obj i p2 o' e1 (hm i o' h1')).ep0 (hL' o' h2').1;simp_all
  have hun:∀id p,id<n→pl2 id=some p→pl (ρ id)=some p:=fun id p h1 h2=>by simp_all
  refine⟨pl,M2,k1.unren hun hv,⟨fun k q hk=>by rw[hn];exact hr.dom k q hk,fun k q o hk hgo=>?_,fun k q hk=>FJ (hr.blk k q hk) k3.size,hr.inj,k2.imm,fun k q hk=>?_⟩,⟨nW.refl _,fun _ _ h=>h,k3.mem,k3.size,fun b hb hk=>kept b hb fun i q hin hp e=>?_,fun k q hk=>.inl ⟨q,hk,rfl⟩,fun k q hk hno=>?_,fun _ _ h _=>h,k3.memNew,k3.os,k3.tape,k3.out,k3.drawn⟩,tU hn.symm⟩
  ·rcases hg' k o hgo with⟨i,o',h1,rfl,rfl⟩|⟨hne,hgo⟩
   ·have hin:i<n:=by grind
    have hm':=bi h1;exact(k2.obj i q o' (by simp_all) (hm i o' h1)).unren (hL' o' hm').1 hun (hL' o' hm').2
   ·rw[kept _ (hr.blk k q hk) fun i q' hin hp e=>hne i hin (hr.inj _ _ q q' hk hp e.symm)];exact(hr.obj k q o hk hgo).mono (nW.refl _) k3.mem
  ·cases hM:M2 q.blk with
   |none=>rfl
   |some c2=>
    rcases k3.memNew _ c2 hM with k5|k5
    ·rw[hr.sep k q hk]at k5;grind
    ·have:=hr.blk k q hk;omega
  ·grind
  ·cases hq:h'.get k with
   |none=>rfl
   |some o=>grind
 rcases h0 (jB ρ n pl) M w vs hG1' hr1 hvs1 with⟨h1,h2⟩|⟨cv,w',v1,h1,q1,⟨q2,q3⟩,q4⟩
 ·exact .inl ⟨h1,Calls.mono h2 fun e w' ⟨cv,v1,h1,k1,⟨k2,k3⟩,k4⟩=>⟨cv,Ev.ren ρ v,h',k1,⟨rfl,rfl⟩,by simp_all⟩⟩
 ·exact .inr ⟨cv,w',Ev.ren ρ v,h',q1,⟨rfl,rfl⟩,by simp_all⟩
end Go.Ev
namespace Go.Ev
open Go
section
variable{P:Program}{G:eg}{call:cX}{m:Nat}{c:Code}{d:D}{s s':St}{ops:Array Oper}
theorem Ec(hm:P.follows .mixedOrders=true)(hG:iF G)(hc:cq P G call)(d:D)(e:(WP P G call m c).run d s (fun e _ s=>e=.normal∧s=s')=(AExit.normal=.normal∧s'=s')):aB P G (some m) c s (fun e s=>e=.normal∧s=s'):=V4 hm hG hc c d s _ _ (e▸⟨rfl,rfl⟩) fun _ _ _ _ h=>h
theorem yK(hG:iF G)(hc:cq P G call){id:Nat}{Ψ:St→Prop}(d:D){W:Prop}(p:W)(e:XT P G call m ops ops.toList d s (fun _ s=>Ψ s)=W):aB P G (some m) (.region id ops false) s (fun e s=>e=.normal∧Ψ s):=aB.region (gj hG hc _ d s _ (e▸p) fun _ _ _ h=>⟨rfl,h⟩)
end
section
variable{P:Program}{G:eg}{ops:Array Oper}{o:Oper}{l:List Oper}{s:St}{b:Option Nat}
theorem rE{Y:Type}{I:Y→Prop}{r:Y→AV}{H:Y→AHeap}{Φ:St→Prop}(hg:ed s.tmps (ez ops o)=some true)
  (hO:∀(pl:Pl)(M:dn)(a:Act)(w:World),pb G pl M→cF pl M s.heap w→FrRel pl M s.tmps a→∃y pl' M' cv w',I y∧(execOp a.eval o).run P w=.ok (.value cv) w'∧VRel pl' M' (r y) cv∧cF pl' M' (H y) w'∧cT s.heap pl M w (H y) pl' M' w'∧s.heap.n≤(H y).n)
  (h:∀y,I y→∃A',iI s.tmps o.dst (r y)=some A'∧cb P G b ops l ⟨A',H y⟩ Φ):cb P G b ops (o::l) s Φ:=by
 intro i N h0' pl0 M0 w0 a w Q hb hl' hs hQ;have ho:ops[i]?=some o:=by simpa using hl' 0
 obtain⟨pl,M,g1,g2,g3,g4,g5⟩:=hs.ex;simp only[cP,CK,wpOps,ho];rw[fy g3 hg];simp only[if_true];left;obtain⟨y,pl',M',cv,w',i1,i2,i3,i4,i5,i6⟩:=hO pl M a w g1 g2 g3;obtain⟨A',e1,e2⟩:=h y i1;obtain⟨p1,p2⟩:=nw (g3.mono i5.ext i5.mem) i3 (by rw[hs.n];exact hs.small) e1;have nxt:=e2 (i+1) N h0' pl0 M0 w0 (a.put o.dst cv) w' Q hb (fun j=>by have:=hl' (j+1);grind)
  ⟨⟨pl',M',g1.mono i5.ext i5.mem,i4,p1,g4.trans i5 g5,bR g5 i6⟩,by rw[←hs.n];omega,hs.small⟩ hQ
 unfold Oper.wp;rw[i2];exact nxt
theorem u9{t tx e:TypeId}{i:TypeInfo}{sz bt:Nat}(hsz:i.size=sz)(hbt:i.bytes=bt){z z0:AV}{sO xO:Operand}{dst:Option Tmp}{ty:TypeId}{pos:String}{after:Array Edge}{guard:Option (Nat×Bool)}{xs:List AV}
  (ht:P.underlying t=some (.slice e))(hk:∃e',P.underlying tx=some (.slice e'))(hi:P.info? e=some i)(hz:iS P e=some z0)(hzl:Le z z0)
  (hs:(ct G sO).run s.tmps=some (.ps [] true))(hx:(ct G xO).run s.tmps=some (.ls xs))(hne:xs≠[])(hfit:dc sz xs=true)(hzf:dc sz [z]=true)(hsm:small xs.length bt=true)(hs0:0<sz)
  (pl:Pl)(M:dn)(a:Act)(w:World)(g1:pb G pl M)(g2:cF pl M s.heap w)(g3:FrRel pl M s.tmps a):
  ∃(k:Nat)(pl':Pl)(M':dn)(cv:Value)(w':World),True∧(execOp a.eval ⟨dst,.call ⟨.builtin .append,#[sO,xO],#[t,tx]⟩,ty,pos,after,guard⟩).run P w=.ok (.value cv) w'∧
   VRel pl' M' (.slice s.heap.n 0 0 xs.length (some (xs.length+k))) cv∧cF pl' M' (s.heap.push (.row sz false 0 (xs++List.replicate k z))) w'∧cT s.heap pl M w (s.heap.push (.row sz false 0 (xs++List.replicate k z))) pl' M' w'∧s.heap.n≤(s.heap.push (.row sz false 0 (xs++List.replicate k z))).n:=by
 subst hsz;subst hbt;have hsr:=bW g1 g3 hs;have hxr:=bW g1 g3 hx;obtain⟨news,hsrc⟩:=y8 (P:=P) g2 hxr (show jM s.heap (.ls xs)=some xs from rfl) hne hfit;obtain⟨i2,zv,hz1,hz2,hz3⟩:=me hz;rw[hi]at hz1;cases hz1
 obtain⟨b1,b2⟩:=jf hsm;have hpos:0<xs.length:=pT.2 hne;generalize hq:a.eval sO=cs at hsr;generalize hq2:a.eval xO=cx at hxr hsrc;cases hsr with
 | ps hl htt hm hs2 hc=>
  rename_i ad cap sz c;have hcap:cap=0:=htt rfl;subst hcap;have hzr:=hzl _ _ _ (dM (pl:=pl) (M:=M) hz3);have hzt:=mY hzf z (by simp);have hzsz:zv.cells.size=i.size:=by rw[←hzr.cells.len];omega
  have hrun:=run_append_grow_src (P:=P) w t tx ty e i zv ht hi hz2 (some ad) 0 0 [] (by simp[Builtin.firstCells,loadCells,loadCellsFrom]) cx xs.length news (hsrc.src (.inl hk)) (by omega) (by omega) (growslice_fits (by omega) (by grind));have hge:=grownCap_ge w (0+xs.length) 0 e;obtain⟨C,hC⟩:∃C,C=grownCap w (0+xs.length) 0 e:=⟨_,rfl⟩
  rw[←hC]at hrun hge;have hin:=eR hzr hzt.2 (C-(0+xs.length)) hzt.1 hs0;have hzl:(Builtin.zeroCells zv.cells (C-(0+xs.length))).toList.toArray=(Array.range ((C-(0+xs.length))*i.size)).map (zv.cells[· %zv.cells.size]!):=by grind[Builtin.zeroCells]
  have hnl:(Builtin.zeroCells zv.cells (C-(0+xs.length))).toList.length=(List.replicate (C-(0+xs.length)) z).length *i.size:=by grind[Builtin.zeroCells]
  have hin2:=kX (news:=(Builtin.zeroCells zv.cells (C-(0+xs.length))).toList) hsrc.mem (by grind) hsrc.newsLen hnl #[];have hce:(news++(Builtin.zeroCells zv.cells (C-(0+xs.length))).toList).toArray++#[]=([]++news).toArray++Builtin.zeroCells zv.cells (C-(0+xs.length)):=by grind
  rw[hce]at hin2;have hcs:(([]++news).toArray++Builtin.zeroCells zv.cells (C-(0+xs.length))).size=(xs++List.replicate (C-(0+xs.length)) z).length *i.size:=by simp only[rP,FK,CY,hsrc.newsLen,size_zeroCells,hzsz,dH,pe,js]
  obtain⟨cells,hcells⟩:∃cells,cells=([]++news).toArray++Builtin.zeroCells zv.cells (C-(0+xs.length)):=⟨_,rfl⟩
  rw[←hcells]at hrun hin2 hcs;have hxl:(xs++List.replicate (C-(0+xs.length)) z).length=C:=by grind
  let p:Place:=⟨w.heap.size,0,i.size,C,C*i.size⟩
  have hwd:(w.drew.alloc (.cells cells e)).heap=w.heap.push (.cells cells e):=rfl;obtain⟨r1,r2⟩:=cF.alloc (o:=.row i.size false 0 (xs++List.replicate (C-(0+xs.length)) z)) (p:=p) g2 hwd ⟨rfl,rfl,rfl,nO _⟩ rfl
   ⟨rfl,rfl,hxl.symm,by grind,rfl,hs0,fun _=>hcs,hin2.mono (fun id q hq=>⟨q,by rw[cN (by have:=g2.dom id q hq;omega)];omega,ar _,fun _=>rfl⟩) (fun _ _ h=>h)⟩
  refine⟨C-(0+xs.length),upd pl s.heap.n p,M,.slice (some ⟨w.heap.size,0,none⟩) (0+xs.length) C,w.drew.alloc (.cells cells e),trivial,?_,?_,r1,r2,nO _⟩
  ·simp only[execOp,resolve,invoke,builtin,Sem.run_bind,Sem.run_pure,Result.andThen_ok,List.map_toArray,eh,yo,hq,hq2];show(Sem.run P (Builtin.append_ #[t,tx] ty #[Value.slice (some ad) 0 0,cx]) w).andThen _=_
   rw[hrun];rfl
  ·rw[eE]at hge ⊢;refine .slice (dI _ _ _) (ar _) hge (fun k hk=>by grind) (fun _=>⟨.inr (by grind),by grind,by grind,(fun hk=>by grind),(fun k hk=>by grind)⟩)
end
end Go.Ev
namespace Go.Ev
open Go
section
variable{s id ep off len c l h m a b d sz bt i n k:Nat}{hp H:AHeap}{xs ys zs new:List AV}{lo hi mx cap:Option Nat}{op:Bool}{x z:AV}{vl vh vm:Option AV}
theorem iq(hg:qz s hp id ep=some xs)(h1:iT 0 vl=some l)(h2:iT len vh=some h)(q1:l≤h)(q2:h≤c)(q3:c≠l)(e1:off+l=a)(e2:h-l=b)(e3:c-l=d):
  ba H (dJ s hp (some (.slice id ep off len (some c))) vl vh none)=some (.val (.slice id ep a b (some d)) H):=by
 have p1:Nat.ble l h=true:=qX q1;have p2:Nat.ble h c=true:=qX q2;have p3:Nat.beq c l=false:=by grind[aD]
 simp only[dJ,f8,hg,h1,h2,room,pp,p1,p2,p3,yt,e1,e2,e3,ba]
theorem DB(hg:qz s hp id ep=some xs)(h1:iT 0 vl=some l)(h2:fD x=some h)(h3:fD z=some m)(q1:l≤h)(q2:h≤m)(q3:m≤c)(q4:m≠l)(e1:off+l=a)(e2:h-l=b)(e3:m-l=d):
  ba H (dJ s hp (some (.slice id ep off len (some c))) vl (some x) (some z))=some (.val (.slice id ep a b (some d)) H):=by
 have p1:Nat.ble l h=true:=qX q1;have p2:Nat.ble h m=true:=qX q2;have p3:Nat.beq m l=false:=by grind[aD]
 simp_all[qX,dJ,f8,room,pp,ba]
theorem Kq(hg:qz s hp id ep=some xs)(h1:iT 0 vl=some l)(h2:iT len vh=some h)(q1:l=h)(q3:c=l):
  ba H (dJ s hp (some (.slice id ep off len (some c))) vl vh none)=some (.val (.slice id ep 0 0 (some 0)) H):=by
 subst q1;subst q3;have p1:Nat.ble c c=true:=qX (ar _);have p3:Nat.beq c c=true:=pP _;simp only[dJ,f8,hg,h1,h2,room,pp,p1,p3,yt,ba]
theorem KU(hg:qz s hp id ep=some xs)(h1:iT 0 vl=some l)(h2:iT len vh=some h)(q1:l≤h)(q2:h+off≤xs.length)(e1:off+l=a)(e2:h-l=b):
  ba H (dJ s hp (some (.slice id ep off len none)) vl vh none)=some (.val (.slice id ep a b none) H):=by
 grind[Nat.ble_eq_true_of_le,dJ,f8,room,pp,ba]
theorem y7(hg:H.get id=some (.row sz op ep xs))(e:(xs.drop off).take len=zs):jM H (.slice id ep off len cap)=some zs:=by grind[Nat.beq_refl,jM,kU]
theorem Vl{xs ys:List AV}{n:Nat}(h:xs.length=n):((xs++ys).drop 0).take n=xs:=by simp_all
theorem wo{xs:List AV}{t:Bool}{n:Nat}(h:ax xs=0):Nat.ble (AV.ps xs t).top n=true:=by simp_all[AV.top]
theorem MW(hg:H.get id=some (.row sz op ep xs))(hx:jM H x=some new)(hf:dc sz new=true)(hne:new≠[])(hc:len+new.length≤c)(hl:off+len+new.length≤xs.length)(hs:small (len+new.length) bt=true)(e1:len+new.length=n)(e2:bj xs (off+len) new=ys):
  ec (co sz bt H (some (.slice id ep off len (some c))) (some x))=some (.val (.slice id ep off n (some c)) (H.put id (.row sz op ep ys))):=by
 subst e1;cases new with
 |nil=>simp_all
 |cons y r=>simp_all[qX,co,fu,gV,ec]
theorem Sa(hx:jM H x=some []):ec (co sz bt H (some (.slice id ep off len cap)) (some x))=some (.val (.slice id ep off len cap) H):=by grind[co,fu,gV,ec]
theorem Vj(hg:H.get id=some (.row sz op ep xs))(hx:jM H x=some new)(hf:dc sz new=true)(hne:new≠[])(hc:c<len+new.length)(hs:small (len+new.length) bt=true)(e1:(xs.drop off).take len++new=ys)(e2:ys.length=n):
  ec (co sz bt H (some (.slice id ep off len (some c))) (some x))=some (.val (.slice H.n 0 0 n none) (H.push (.row sz true 0 ys))):=by
 cases new with
 |nil=>simp_all
 |cons y r=>
  have p1:Nat.beq ep ep=true:=pP ep;have p2:Nat.beq sz sz=true:=pP sz;have p3:Nat.ble (len+(y::r).length) c=false:=by grind[bK]
  simp_all[co,fu,gV,gH,ec]
theorem TI(hg:H.get id=some (.row sz op ep xs))(hk:0<k)(hc:c<len+k)(hf:dc sz [z]=true)(hs:small (len+k) bt=true)(hs2:small k bt=true)(e1:(xs.drop off).take len++List.replicate k z=ys)(e2:ys.length=n):
  ec (wN sz bt z H (some (.slice id ep off len (some c))) (some (.int .i64 (.ofNat k))))=some (.val (.slice H.n 0 0 n none) (H.push (.row sz true 0 ys))):=by
 have p1:Nat.beq ep ep=true:=pP ep;have p2:Nat.beq sz sz=true:=pP sz;grind[Nat.ble_eq_true_of_le,Nat.blt,wN,Gx,gH,ec]
theorem LR(hg:H.get id=some (.row sz op ep xs))(hx:jM H x=some zs)(hf:dc sz (zs.take len)=true)(e1:min zs.length len=k)(e2:bj xs off (zs.take len)=ys):
  ec (uG sz H (some (.slice id ep off len cap)) (some x))=some (.val (.int .i64 (.ofNat k)) (H.put id (.row sz op ep ys))):=by
 grind[Nat.beq_refl,uG,LS,ec]
theorem Jp(hg:H.get id=some (.row sz op ep xs))(hf:dc sz [z]=true)(e2:bj xs off (List.replicate len z)=ys):
  ec (wW sz z H (some (.slice id ep off len cap)))=some (.val gU (H.put id (.row sz op ep ys))):=by
 grind[Nat.beq_refl,wW,ec]
theorem rf{sz:Nat}:∀{xs:List AV}{n:Nat},dc sz xs=true→dc sz (xs.take n)=true
 |[],n,h=>by simp_all
 |x::r,0,_=>rfl
 |x::r,n+1,h=>by
  simp only[List.take_succ_cons,dc,bx]at h ⊢;exact⟨h.1,rf h.2⟩
theorem rg{sz:Nat}:∀{xs:List AV}{n:Nat},dc sz xs=true→dc sz (xs.drop n)=true
 |[],n,h=>by simp_all
 |x::r,0,h=>h
 |x::r,n+1,h=>by
  simp only[List.drop_succ_cons,dc,bx]at h ⊢;exact rg h.2
end
theorem BG{P:Program}{G:eg}{f:FuncId}{fn:Func}{tS tR e:TypeId}{n:Nat}(hf:P.funcs[f]?=some fn)(hname:(fn.name== "runtime.NumGoroutine")=false)(hb:fn.body.isNone=true)(hn:Extern.findNext fn=none)(he:Extern.find fn=some (Extern.SlicesOverlaps.overlaps #[tS,tS] #[tR]))
  (ht:P.underlying tS=some (.slice e))(hi:cO P e=some n){xs ys:List AV}{t:Bool}{id off len c sz:Nat}{op:Bool}{h:AHeap}(hne:xs≠[])(hgo:h.get id=some (.row sz op 0 ys)):
  aL P G f [.ps xs t,.slice id 0 off len (some c)] h (fun v h'=>v=.bool false∧h'=h):=by
 intro pl M w vs hG hr hv;right;refine⟨.bool false,w,.bool false,h,?_,⟨rfl,rfl⟩,pl,M,.bool false,hr,cT.refl _ _ _ _,ar _⟩;have v0:=hv.at_ 0 _ rfl;have v1:=hv.at_ 1 _ rfl;have hvs:vs=#[vs.getD 0 undef,vs.getD 1 undef]:=by
  have hl:vs.size=2:=hv.len.symm;apply Array.ext
  ·omega
  ·intro i h1 h2
   match i,h2 with
   |0,_=>simp_all
   |1,_=>simp_all
 rw[run_callFunc_extern hf hname hb hn he,hvs];generalize vs.getD 0 undef=x0 at v0;generalize vs.getD 1 undef=x1 at v1;cases v0 with
 | ps hl htt hm hs hc=>
  rename_i a cap0 sz0 c0;obtain⟨m1,m2,m3,m4⟩:=hm hne;have hpos:0<xs.length:=pT.2 hne;cases v1 with
  | slice hp hep hl1 hk ha=>
   rename_i cap1 b p;have hcap:=hk c rfl;subst hcap;obtain⟨tA,frA,hA⟩:=hr.imm _ _ m2;have ho:=hr.obj id p _ hp hgo;obtain⟨cB,tB,hB,hpe⟩:∃cB tB,w.heap[p.blk]?=some (.cells cB tB (0,0))∧p.ep=0:=by
    cases hb2:w.heap[p.blk]? with
    |none=>rw[hb2]at ho;exact ho.elim
    |some ob=>
     rw[hb2]at ho;cases ob with
     |cells cB tB fr=>obtain⟨h1,_,_,_,h5,_⟩:=ho;grind
     |_=>exact ho.elim
   have hsep:=hr.sep id p hp;have hsz:=cC hi w;have hc0:c0.size≠0:=by
    have:0<xs.length*sz0:=Nat.mul_pos hpos m4;omega
   obtain⟨q1,-⟩:=ha hpe.symm
   suffices hh:(Extern.SlicesOverlaps.overlaps #[tS,tS] #[tR] #[.slice (some a) xs.length cap0,.slice (some b) len cap1]).run P w=.ok (.bool false) w by rw[hh];rfl
   generalize xs.length=la;change Sem.run P (α:=Value) (do
    let some t:=(#[tS,tS]:Array TypeId)[0]?|stuck "slices.overlaps: no parameter types"
    let .slice elem ←underlying t|stuck "slices.overlaps: slice type expected"
    let size ←sizeOf elem
    match(some a:Option Addr),(some b:Option Addr)with
    | some a,some b=>
     if la=0∨len=0∨size=0 then pure (Value.bool false)
     else if a.block !=b.block&&(←frozen a)&&(←frozen b)then unsupported .addressObserved
     else do
      if a.block !=b.block then do
       noView a;noView b
       if ←mayBeOne a b then return Value.bool ((←choose (.extern "sameAddr.stringBytes" 2))==1)
      pure (Value.bool (a.block==b.block&&a.off<b.off+len*size&&b.off<a.off+la*size))
    |_,_=>pure (Value.bool false)) w=_
   by_cases h0:la=0∨len=0∨n=0
   ·simp[run_underlying ht,hsz,h0]
   ·have hbk:b=⟨p.blk,off*p.sz,none⟩:=by grind
    subst hbk;have hnb:a.block≠p.blk:=fun e=>by grind
    have hnb1:(a.block !=p.blk)=true:=by grind
    have hnb2:(a.block==p.blk)=false:=by grind
    have f1:∀o,w.frozen? ⟨p.blk,o,none⟩=false:=fun o=>by grind[World.frozen?]
    have s1:w.shape? a.block=some (tA,c0.size):=by grind[World.shape?]
    have s2:w.shape? p.blk=some (tB,cB.size):=by grind[World.shape?]
    cases hsx:c0.size with
    |zero=>omega
    |succ kA=>
     rw[hsx]at s1;cases hfa:w.frozen? a<;>cases hfb:w.frozen? {block:=a.block,off:=kA+1}<;>
     simp[run_underlying ht,hsz,h0,hnb1,hnb2,frozen,noView,viewAt,mayBeOne,stringish,shape,Sem.run,s1,s2,f1,hfa,hfb]
def Tf(rs:List Nat):AHeap→List AObj→Nat→AHeap
 |h,[],_=>h
 |h,o::r,i=>Tf rs (h.put (fH rs i) (j5 (fH rs) o)) r (i+1)
def XL(rs:List Nat)(h:AHeap):List AObj→Nat→Prop
 |[],_=>True
 |o::r,i=>h.get (fH rs i)=some (j5 (fH rs) o)∧XL rs h r (i+1)
def Q5(h:AHeap):List AObj→Nat→Prop
 |[],_=>True
 |o::r,i=>h.get i=some o∧Q5 h r (i+1)
def Dr(n:Nat):List AObj→Prop
 |[]=>True
 |o::r=>(ep0 o=true∧o.top≤n)∧Dr n r
theorem PC(rs:List Nat):∀(l:List AObj)(h:AHeap)(i:Nat),(Tf rs h l i).n=h.n
 |[],_,_=>rfl
 |_::r,h,i=>PC rs r _ (i+1)
theorem L8{rs:List Nat}{h:AHeap}:∀{l:List AObj}{i j:Nat}{o:AObj},XL rs h l i→l[j]?=some o→h.get (fH rs (i+j))=some (j5 (fH rs) o)
 |x::r,i,0,o,a,e=>by simp at e;subst e;exact a.1
 |x::r,i,j+1,o,a,e=>by
  have:=L8 (i:=i+1) (j:=j) a.2 (by simpa using e);grind
theorem GO{h:AHeap}:∀{l:List AObj}{i j:Nat}{o:AObj},Q5 h l i→l[j]?=some o→h.get (i+j)=some o
 |x::r,i,0,o,a,e=>by simp at e;subst e;exact a.1
 |x::r,i,j+1,o,a,e=>by
  have:=GO (i:=i+1) (j:=j) a.2 (by simpa using e);grind
theorem vv{n:Nat}:∀{l:List AObj},Dr n l→∀o,o∈l→ep0 o=true∧o.top≤n
 |x::r,a,o,e=>by
  rcases fw.1 e with rfl|e
  ·exact a.1
  ·exact vv a.2 o e
theorem FT{rs:List Nat}:∀{l:List AObj}{h:AHeap}{i k:Nat}{o:AObj},(∀j,j<l.length→fH rs (i+j)<1000000)→(Tf rs h l i).get k=some o→
  (∃j o',l[j]?=some o'∧k=fH rs (i+j)∧o=j5 (fH rs) o')∨((∀j,j<l.length→k≠fH rs (i+j))∧h.get k=some o)
 |[],h,i,k,o,_,e=>.inr ⟨fun j hj=>absurd hj (pR _),e⟩
 | x::r,h,i,k,o,hb,e=>by
  rcases FT (l:=r) (i:=i+1) (fun j hj=>by have:=hb (j+1) (by simp_all);grind) e with⟨j,o',h1,h2,h3⟩|⟨h1,h2⟩
  ·exact .inl ⟨j+1,o',by simp_all,by grind,h3⟩
  ·rcases AHeap.get_put (by have:=hb 0 (Nat.zero_lt_succ _);omega) h2 with⟨h3,h4⟩|⟨h3,h4⟩
   ·exact .inl ⟨0,x,rfl,h3,h4⟩
   grind
theorem GE{q:Nat→Bool}:∀{rs:List Nat}{i:Nat},rs.all q=true→i<rs.length→q (fH rs i)=true
 |x::r,0,h,_=>by simp only[List.all_cons,bx]at h;exact h.1
 |x::r,i+1,h,hi=>by
  simp only[List.all_cons,bx]at h;exact GE (rs:=r) (i:=i) h.2 (by simp_all)
theorem pa{P:Program}{G:eg}(hG:iF G){f:FuncId}{args args':List AV}{v v':AV}{L L' os os':List AObj}(rs:List Nat)
  (h0:aL P G f args (ab L) (fun v1 h1=>v1=v∧h1=ab L'))(ea:lE (fH rs) args=args')(ev:Ev.ren (fH rs) v=v')
  (c:(zg rs&&(Nat.beq rs.length L.length&&(Nat.beq L'.length L.length&&rs.all fun x=>Nat.blt x 1000000)))=true)
  (hL:Dr L.length L)(hL':Dr L.length L')(ht:ax args≤L.length)(hv:v.top≤L.length)
  (a1:XL rs (ab os) L 0)(a2:Q5 (ab L') L' 0)(a3:ab os'=Tf rs (ab os) L' 0):aL P G f args' (ab os) (fun v1 h1=>v1=v'∧h1=ab os'):=by
 simp only[bx,aD,decide_eq_true_eq]at c;obtain⟨c1,c2,c3,c4⟩:=c;subst ea;subst ev;rw[a3];refine aL.frame hG (fH rs) c3 (vv hL) (vv hL') (fun i o hi=>by have:=GO a2 hi;simp_all) ht hv (fun i j hi hj=>rq c1 i j (by omega) (by omega)) h0
  (fun i o hi=>by have:=L8 a1 hi;simp_all) (fun k o hk=>?_) (PC rs L' _ 0)
 rcases FT (fun j hj=>by have:=GE c4 (show 0+j<rs.length by omega);simp_all) hk with⟨j,o',h1,h2,h3⟩|⟨h1,h2⟩
 all_goals grind
theorem vn{ρ:Nat→Nat}{sz ep:Nat}{b:Bool}{xs:List AV}(h:ax xs=0):j5 ρ (.row sz b ep xs)=.row sz b ep xs:=by grind[j5,eN]
theorem fz{P:Program}{G:eg}(hG:iF G){f:FuncId}{args args':List AV}{v v':AV}{sz:Nat}{b b':Bool}{xs xs':List AV}{os os':List AObj}(id:Nat)(hx:ax xs=0)(hx':ax xs'=0)
  (h0:aL P G f args (ab [.row sz b 0 xs]) (fun v1 h1=>v1=v∧h1=ab [.row sz b' 0 xs']))(ea:lE (fH [id]) args=args')(ev:Ev.ren (fH [id]) v=v')(c:Nat.blt id 1000000=true)
  (ht:Nat.ble (ax args) 1=true)(hv:Nat.ble v.top 1=true)(a1:(ab os).get id=some (.row sz b 0 xs))(a3:ab os'=(ab os).put id (.row sz b' 0 xs')):aL P G f args' (ab os) (fun v1 h1=>v1=v'∧h1=ab os'):=
 pa hG [id] h0 ea ev (by simp only[zg,io,List.all_cons,List.all_nil,c];rfl) ⟨⟨rfl,by grind[AObj.top]⟩,trivial⟩ ⟨⟨rfl,by grind[AObj.top]⟩,trivial⟩ (vq ht) (vq hv)
  ⟨by rw[vn hx];exact a1,trivial⟩ ⟨rfl,trivial⟩ (by rw[a3];show _=AHeap.put _ _ (j5 _ _);rw[vn hx'];rfl)
end Go.Ev
namespace Go.Ev
open Go
def jl(u:TUnit)(ks:List TUnit):TUnit:=⟨u.act,u.item,u.n,u.kind,u.label,u.head,u.words,ks⟩
def l8(w:List PWord)(u:TUnit):TUnit:=⟨u.act,u.item,u.n,u.kind,u.label,u.head,w,u.kids⟩
def Aw(w:List PWord)(u:TUnit):TUnit:=⟨u.act,u.item,u.n,u.kind,u.label,w,u.words,u.kids⟩
def o9(s:aO)(u:TUnit):TUnit:=⟨u.act,u.item,u.n,u.kind,s,u.head,u.words,u.kids⟩
def xX(i:Nat)(x:TUnit)(l:List TUnit):List TUnit:=l.take i++(x::l.drop i)
def gm(i:Nat)(u:TUnit):TUnit:=jl u (u.kids.eraseIdx i)
def dr(i:Nat)(x:TUnit)(u:TUnit):TUnit:=jl u (xX i x u.kids)
mutual
def dZ(p:PId)(f:TUnit→TUnit):TUnit→TUnit
 |⟨a,i,n,k,l,h,w,ks⟩=>bif fG p ⟨a,i,n,k,l,h,w,ks⟩then f ⟨a,i,n,k,l,h,w,ks⟩else⟨a,i,n,k,l,h,w,eb p f ks⟩
def eb(p:PId)(f:TUnit→TUnit):List TUnit→List TUnit
 |[]=>[]
 |k::r=>bif cV p k then dZ p f k::r else k::eb p f r
end
section
variable{p:PId}{f:TUnit→TUnit}{u w:TUnit}{l r:List TUnit}{i:Nat}
theorem Fx(p:PId)(f:TUnit→TUnit)(u:TUnit):dZ p f u=bif fG p u then f u else jl u (eb p f u.kids):=by cases u;rw[dZ];rfl
theorem sy:eb p f []=[]:=by rw[eb]
theorem jt(k:TUnit)(r:List TUnit):eb p f (k::r)=bif cV p k then dZ p f k::r else k::eb p f r:=by rw[eb]
theorem qS(h:fG p u=true):dZ p f u=f u:=by rw[Fx,h];rfl
theorem ko(h:fG p u=false):dZ p f u=jl u (eb p f u.kids):=by rw[Fx,h];rfl
def jX(p:PId)(f:TUnit→TUnit)(l:List TUnit)(i:Nat)(r:List TUnit):Prop:=eb p f l=l.take i++eb p f r
theorem jX.start:jX p f l 0 l:=rfl
theorem jX.skip(h:jX p f l i (w::r))(hd:l.drop i=w::r)(hw:cV p w=false):jX p f l (i+1) r:=by
 unfold jX at *;have hi:i<l.length:=by grind[List.drop_eq_nil_of_le]
 have e:l[i]=w:=by
  have:=congrArg (·[0]?) hd;grind
 grind[jt]
theorem jX.hit(h:jX p f l i (w::r))(hd:l.drop i=w::r)(hw:cV p w=true):eb p f l=l.set i (dZ p f w):=by
 unfold jX at h;have hi:i<l.length:=by grind[List.drop_eq_nil_of_le]
 rw[h,jt,hw,List.set_eq_take_append_cons_drop,if_pos hi];have:l.drop (i+1)=r:=by rw[←yp,hd];rfl
 simp_all
theorem jX.done(h:jX p f l i [])(hd:l.drop i=[]):eb p f l=l:=by simp_all[jX,sy,CX]
theorem IU:∀(u:TUnit),cV p u=false→dZ p f u=u:=TUnit.ind fun u ih h=>by
 have hw:=Ay h;rw[gv]at hw;cases hi:fG p u with
 |true=>grind
 | false=>
  rw[hi]at hw;simp only[cond_false]at hw;have key:∀(r:List TUnit),(∀k,k∈r→k∈u.kids)→cn p r=[]→eb p f r=r:=by
   intro r;induction r with
   |nil=>grind[sy]
   |cons k r ihr=>
    intro hm hr;cases hk:cV p k with
    |true=>grind[nR,kS]
    |false=>simp_all[iG,jt]
  have hk:cn p u.kids=[]:=by grind
  rw[ko hi,key u.kids (fun _ h=>h) hk];cases u;rfl
end
end Go.Ev
namespace Go.Ev
open Go
noncomputable def bb(n:Nat):AV:=.int .i64 (.ofNat n)
theorem Xy(n:Nat):(bb n).top=0:=rfl
section
variable{l part:List aO}{i:Nat}{acc:List Nat}
def nX(l part:List aO)(i:Nat)(acc:List Nat):Prop:=acc.length≤i∧i≤l.length+part.length∧∃f,uW l part=acc++vD part f l i∧l.length<i+f
theorem nX.start(hp:0<part.length):nX l part 0 []:=by
 refine⟨ar _,bH _,l.length+1,?_,by omega⟩;unfold uW;grind
theorem LZ{f:Nat}(hi:i+part.length≤l.length):vD part (f+1) l i=bif cE dS ((l.take (i+part.length)).drop i) part then i::vD part f l (i+part.length)else vD part f l (i+1):=by
 have e:(l.take (i+part.length)).drop i=(l.drop i).take part.length:=by grind
 rw[vD,qX hi,e];rfl
theorem nX.skip(h:nX l part i acc)(hi:i+part.length≤l.length)(hp:0<part.length)(hm:cE dS ((l.take (i+part.length)).drop i) part=false):nX l part (i+1) acc:=by
 obtain⟨h1,h2,f,h3,h4⟩:=h;cases f with
 |zero=>omega
 |succ f=>rw[LZ hi,hm]at h3;exact⟨by omega,by omega,f,h3,by omega⟩
theorem nX.hit(h:nX l part i acc)(hi:i+part.length≤l.length)(hp:0<part.length)(hm:cE dS ((l.take (i+part.length)).drop i) part=true):nX l part (i+part.length) (acc++[i]):=by
 obtain⟨h1,h2,f,h3,h4⟩:=h;cases f with
 |zero=>omega
 |succ f=>
  rw[LZ hi,hm]at h3;exact⟨by grind,by omega,f,by simp_all,by omega⟩
theorem nX.done(h:nX l part i acc)(hi:l.length<i+part.length):uW l part=acc:=by
 obtain⟨h1,h2,f,h3,h4⟩:=h;cases f with
 |zero=>grind[vD]
 |succ f=>grind[vD,bK]
theorem nX.len(h:nX l part i acc):acc.length≤l.length+part.length:=bR h.1 h.2.1
end
def qR(g:Nat):List Nat→Nat→Nat→Prop
 |[],_,_=>True
 |p::r,lo,n=>lo≤p∧p+g≤n∧qR g r (p+g) n
theorem sB(part:List aO)(hp:0<part.length):∀(f:Nat)(l:List aO)(i:Nat),qR part.length (vD part f l i) i l.length
 |0,l,i=>by rw[vD];trivial
 | f+1,l,i=>by
  rw[vD];have key:∀(m:List Nat)(a b n:Nat),a≤b→qR part.length m b n→qR part.length m a n:=by
   intro m;cases m with
   |nil=>intro _ _ _ _ _;trivial
   |cons p r=>intro a b n h ⟨h1,h2,h3⟩;exact⟨bR h h1,h2,h3⟩
  cases hb:Nat.ble (i+part.length) l.length with
  |false=>trivial
  |true=>
   rw[bK]at hb;have hb:=of_decide_eq_true hb;simp only[cond_true];cases cE dS ((l.drop i).take part.length) part with
   |true=>exact⟨ar _,hb,sB part hp f l _⟩
   |false=>exact key _ _ _ _ (nO i) (sB part hp f l (i+1))
theorem CF(l part:List aO):qR part.length (uW l part) 0 l.length:=by
 unfold uW;cases part with
 |nil=>trivial
 |cons x r=>exact sB (x::r) (pM _) _ l 0
def od(g:Nat)(l:List Nat)(n:Nat):Prop:=∀i,i<l.length→gD l i+g≤n∧∀j,j<i→gD l j+g≤gD l i
theorem Bb{g n:Nat}:∀{l:List Nat}{lo:Nat},qR g l lo n→od g l n
 |[],_,_=>fun i hi=>absurd hi (pR _)
 | p::r,lo,⟨h1,h2,h3⟩=>by
  have low:∀(m:List Nat)(a:Nat),qR g m a n→∀i,i<m.length→a≤gD m i:=by
   intro m;induction m with
   |nil=>simp_all
   |cons q m ih=>
    intro a ⟨k1,k2,k3⟩ i hi;cases i with
    |zero=>exact k1
    |succ i=>have:=ih _ k3 i (by simp_all);grind[gD]
  intro i hi;cases i with
  |zero=>exact⟨h2,fun j hj=>absurd hj (pR _)⟩
  |succ i=>
   have hi':i<r.length:=by simp_all
   obtain⟨k1,k2⟩:=Bb h3 i hi';refine⟨k1,fun j hj=>?_⟩;cases j with
   |zero=>exact low r _ h3 i hi'
   |succ j=>exact k2 j (by omega)
def f9(at_ g:Nat)(m l:List PWord):List PWord:=l.take at_++m++l.drop (at_+g)
def tE(a b:Int)(g:Nat)(ps:List Nat)(fresh:List aO):Nat→List PWord→List PWord
 |0,l=>l
 |i+1,l=>tE a b g ps fresh i (f9 (gD ps i) g (cA a b fresh (i*fresh.length)) l)
theorem NV{at_ g:Nat}{m l:List PWord}(h:at_+g≤l.length):(f9 at_ g m l).length+g=l.length+m.length:=by grind[f9]
structure PutI(a b:Int)(g:Nat)(ps:List Nat)(fresh:List aO)(w:List PWord)(i:Nat)(l:List PWord):Prop where
 le:i≤ps.length
 all:tE a b g ps fresh ps.length w=tE a b g ps fresh i l
 room:∀j,j<i→gD ps j+g≤l.length
 small:l.length≤w.length+(ps.length-i)*fresh.length
theorem PutI.start{a b:Int}{g:Nat}{ps:List Nat}{fresh:List aO}{w:List PWord}(h:od g ps w.length):PutI a b g ps fresh w ps.length w:=⟨ar _,rfl,fun j hj=>(h j hj).1,by omega⟩
theorem PutI.step{a b:Int}{g:Nat}{ps:List Nat}{fresh:List aO}{w l:List PWord}{i:Nat}(hg:od g ps w.length)(h:PutI a b g ps fresh w (i+1) l):PutI a b g ps fresh w i (f9 (gD ps i) g (cA a b fresh (i*fresh.length)) l):=by
 have hr:=h.room i (Nat.lt_succ_self i);have hl:=NV (m:=cA a b fresh (i*fresh.length)) hr;rw[fS]at hl;have hle:=h.le;refine⟨by omega,h.all,fun j hj=>?_,?_⟩
 ·have:=(hg i (by omega)).2 j hj;grind
 ·have hs:=h.small;have e:(ps.length-i)*fresh.length=(ps.length-(i+1))*fresh.length+fresh.length:=by rw[show ps.length-i=(ps.length-(i+1))+1 by omega,qZ]
  omega
theorem PutI.done{a b:Int}{g:Nat}{ps:List Nat}{fresh:List aO}{w l:List PWord}(h:PutI a b g ps fresh w 0 l):tE a b g ps fresh ps.length w=l:=h.all
theorem PutI.len{a b:Int}{g:Nat}{ps:List Nat}{fresh:List aO}{w l:List PWord}{i:Nat}(h:PutI a b g ps fresh w i l)(h1:w.length≤2^18)(h2:ps.length≤2^9)(h3:fresh.length≤2^9):l.length≤2^19:=by
 have:=h.small;have:(ps.length-i)*fresh.length≤2^9*2^9:=Nat.mul_le_mul (by omega) h3;omega
section
variable{sz b id n n' k l h m:Nat}{H:AHeap}{xs ys zs:List AV}{t:Bool}{x z:AV}{vl:Option AV}
theorem Ii(hh:pQ sz xs=true)(h1:iT 0 vl=some l)(h2:fD x=some h)(h3:fD z=some h)(q1:l≤h)(q2:h≤xs.length)(e:(xs.take h).drop l=ys):ba H (dJ sz H (some (.ps xs t)) vl (some x) (some z))=some (.val (.ps ys true) H):=by simp_all[qX,dJ,f8,uB,ba]
theorem Pe(hh:pQ sz xs=true)(h1:fD x=some l)(q1:l≤xs.length)(e:xs.drop l=ys):ba H (dJ sz H (some (.ps xs false)) (some x) none none)=some (.val (.ps ys false) H):=by
 have p2:Nat.ble l xs.length=true:=qX q1;have p3:Nat.ble xs.length xs.length=true:=qX (ar _);simp only[dJ,f8,hh,iT,h1,uB,p2,p3,yt,List.take_length,e,wj,ba]
theorem Za(hf:dc sz xs=true)(hf2:dc sz ys=true)(hne:ys≠[])(hs:small (xs.length+ys.length) b=true)(e:xs++ys=zs)(e2:zs.length=n):ec (co sz b H (some (.ps xs true)) (some (.ls ys)))=some (.val (.slice H.n 0 0 n none) (H.push (.row sz true 0 zs))):=by
 cases ys with
 |nil=>simp_all
 |cons y r=>simp_all[co,fu,jM,kU,gV,gH,ec]
theorem Sy(e:ys=[]):ec (co sz b H (some (.ps xs true)) (some (.ls ys)))=some (.val (.ps xs true) H):=by subst e;rfl
def tw:List AV→Nat
 |[]=>0
 |_::_=>1
theorem Vx(hg:H.get id=some (.row sz true 0 xs))(hp:H.put id (.row sz true 0 xs)=H)(hf:dc sz ys=true)(hl:xs.length=n)(hs:small (n+ys.length) b=true)(e:xs++ys=zs)(e2:zs.length=n'):
  ec (co sz b H (some (.slice id 0 0 n none)) (some (.ps ys t)))=some (.val (.slice id (tw ys) 0 n' none) (H.put id (.row sz true (tw ys) zs))):=by
 cases ys with
 |nil=>
  rw[dG]at e;subst e;simp only[tw,hp,←e2,hl];rfl
 |cons y r=>
  have p1:Nat.beq 0 0=true:=rfl;have p2:Nat.beq sz sz=true:=pP sz;have p4:xs.take n=xs:=CX (by omega);have p5:n+(y::r).length=n':=by grind
  have p3:Nat.ble n' xs.length=false:=by grind[bK]
  rw[p5]at hs;simp only[co,fu,jM,kU,gV,hf,hg,p1,p2,hs,yt,p3,p4,e,p5,tw,ec,eE]
theorem Sv(hf:dc sz xs=true)(hf2:dc sz ys=true)(hne:ys≠[])(hs:small (xs.length+ys.length) b=true)(e:xs++ys=zs)(e2:zs.length=n):ec (co sz b H (some (.ps xs true)) (some (.ps ys t)))=some (.val (.slice H.n 0 0 n none) (H.push (.row sz true 0 zs))):=by
 cases ys with
 |nil=>simp_all
 |cons y r=>simp_all[co,fu,jM,kU,gV,gH,ec]
end
end Go.Ev
namespace Go.Ev
open Go
def nG(l:List Nat)(n:Int):List Nat:=bif al n 0 then l else bif au (Int.ofNat l.length) n then[]else(l.take n.toNat).drop (n.toNat-1)
theorem Uh{l:List Nat}{a b i:Nat}(h:i<((l.take b).drop a).length):gD ((l.take b).drop a) i=gD l (a+i):=by grind[gD]
theorem NH{g n a b:Nat}{l:List Nat}(h:od g l n):od g ((l.take b).drop a) n:=by
 intro i hi;have hl:((l.take b).drop a).length≤l.length-a:=by grind
 obtain⟨h1,h2⟩:=h (a+i) (by omega);grind[Uh]
theorem GS{g n:Nat}{l:List Nat}{k:Int}(h:od g l n):od g (nG l k) n:=by
 unfold nG;cases al k 0 with
 |true=>grind
 |false=>
  cases au (Int.ofNat l.length) k with
  |true=>exact fun i hi=>absurd hi (pR _)
  |false=>exact NH h
theorem GZ(l:List Nat)(k:Int):(nG l k).length≤l.length:=by
 unfold nG;grind
theorem Dh{g n:Nat}(hg:0<g):∀{l:List Nat}{lo:Nat},qR g l lo n→lo≤n→l.length+lo≤n
 |[],lo,_,h=>by simp_all
 |p::r,lo,⟨h1,h2,h3⟩,_=>by have:=Dh hg h3 h2;grind
theorem LQ(l part:List aO):(uW l part).length≤l.length:=by
 cases part with
 |nil=>exact bH _
 |cons x r=>have:=Dh (pM _) (CF l (x::r)) (bH _);omega
theorem GQ(l part:List aO):od part.length (uW l part) l.length:=Bb (CF l part)
def xI(c i:Nat)(l:List Nat):List Nat:=(l.take i).map (· +c)++l.drop i
theorem Sn(c i:Nat)(l:List Nat):(xI c i l).length=l.length:=by grind[xI]
theorem Vy{c i:Nat}{l:List Nat}(h:i<l.length):gD (xI c i l) i=gD l i:=by
 unfold xI gD List.getD;grind
theorem Oh{c i:Nat}{l:List Nat}(h:i<l.length):(xI c i l).set i (gD l i+c)=xI c (i+1) l:=by
 unfold xI;have h1:((l.take i).map (· +c)).length=i:=by grind
 rw[List.set_append_right _ _ (by omega),h1,Nat.sub_self,OH h,List.set_cons_zero,OI h,pL];grind[gD]
theorem Og{c n:Nat}{l m:List Nat}(h:l.length=n):(xI c n (l++m)).take n=l.map (· +c):=by grind[xI]
theorem Jq{c i:Nat}{l:List Nat}(h:i<l.length):gD (l.map (· +c)) i=gD l i+c:=by grind[gD]
theorem Q8{c n:Nat}{l:List Nat}(h:od c l n):od 0 (l.map (· +c)) n:=by
 intro i hi;rw[b9]at hi;obtain⟨h1,h2⟩:=h i hi;grind[Jq]
def vp(l:List PWord):List PWord:=bif au 256 (Int.ofNat l.length)then[]else l
def zb(l:List PWord):Int:=bif au 256 (Int.ofNat l.length)then 6 else 0
def xA(a b:Int)(g:Nat)(ps:List Nat)(fresh:List aO)(w:List PWord):List PWord×Int:=(vp (tE a b g ps fresh ps.length w),zb (tE a b g ps fresh ps.length w))
def FM(a b:Int)(w:List PWord)(old new:List aO)(n:Int):List PWord×Int:=bif al (Int.ofNat old.length) 0 then([],1)else bif al (Int.ofNat (nG (uW (b7 w) old) n).length) 0 then([],4)else xA a b old.length (nG (uW (b7 w) old) n) new w
def Ew(a b:Int)(w:List PWord)(part new:List aO)(n:Int):List PWord×Int:=
 bif al (Int.ofNat new.length) 0||(al (Int.ofNat part.length) 0&&aw (al n 0))then([],1)
 else bif al (Int.ofNat part.length) 0 then xA a b 0 [0] new w
 else bif al (Int.ofNat (nG (uW (b7 w) part) n).length) 0 then([],4)else xA a b 0 ((nG (uW (b7 w) part) n).map (· +part.length)) new w
end Go.Ev
namespace Go.Ev
open Go
def ku(x k:TUnit):Bool:=al k.kind x.kind&&dS k.label x.label
def yN(p x:TUnit):Int:=bif jJ p.kind x.kind then(bif p.kids.any (ku x)then 10 else 0)else 9
def RH(u:TUnit)(p:PId)(x:TUnit):Bool:=au 8 (Int.ofNat ((pF p u).length+1+mT x))
abbrev pG:=TUnit×Int
def ND(u:TUnit)(te:Int)(full cf:Bool)(u2:TUnit):pG:=bif al te 0 then(bif full then(u,6)else bif cf then(u,5)else(u2,0))else(u,te)
def Fq(u:TUnit)(e:Int)(u2:TUnit):pG:=bif al e 0 then(u2,0)else(u,e)
def Ta(u:TUnit)(te:Int)(u2:TUnit):pG:=bif al te 10 then(u,10)else(u2,0)
def Qk(u:TUnit)(te:Int)(full:Bool)(u2:TUnit):pG:=bif al te 0 then(bif full then(u,6)else(u2,0))else(u,te)
def Hf(e1 e2:Int)(sp:PSpot)(e3:Int):PSpot×Int:=bif al e1 0 then(bif al e2 0 then(bif al e3 0 then(sp,0)else(dC,e3))else(dC,e2))else(dC,e1)
noncomputable def eA(r:pG):AV:=.tuple [eU r.1,.int .i64 r.2]
end Go.Ev
namespace Go.Ev
open Go
theorem vt{p:PId}{u:TUnit}(h:cV p u=true):ej p u∈bp u∧bz (ej p u)=p:=by grind[O5,SM,DQ]
theorem ra(l m:List TUnit):ia (l++m)=ia l++ia m:=by
 induction l with
 |nil=>rw[ry];rfl
 |cons k r ih=>grind[gz]
theorem qp(u:TUnit)(l:List TUnit):dY (jl u l)=bz u::ia l:=by rw[nb];rfl
theorem lG(u:TUnit):nU u=(dY u).length:=(ud u).symm
theorem wF(u:TUnit)(l:List TUnit):bp (jl u l)=jl u l::dm l:=by rw[dq];rfl
theorem sk{q:PId}:∀(u:TUnit),cV q u=true→∃v C,v∈bp u∧bz v=q∧(dY u).Perm (C++dY v)∧∀f,(dY (dZ q f u)).Perm (C++dY (f v))∧
  ∀x,x∈bp (dZ q f u)→x∈bp (f v)∨∃y,y∈bp u∧bz x=bz y∧x.kids.length=y.kids.length∧x.head=y.head∧x.words=y.words:=TUnit.ind fun u ih h=>by
 cases hi:fG q u with
 |true=>
  refine⟨u,[],dK u,(gg q u).1 hi,List.Perm.refl _,fun f=>?_⟩;grind[qS]
 | false=>
  have key:∀(r:List TUnit),(∀k,k∈r→k∈u.kids)→cn q r≠[]→∃v C,v∈dm r∧bz v=q∧(ia r).Perm (C++dY v)∧∀f,(ia (eb q f r)).Perm (C++dY (f v))∧(eb q f r).length=r.length∧
    ∀x,x∈dm (eb q f r)→x∈bp (f v)∨∃y,y∈dm r∧bz x=bz y∧x.kids.length=y.kids.length∧x.head=y.head∧x.words=y.words:=by
   intro r;induction r with
   |nil=>grind[kp]
   | cons k r ihr=>
    intro hm hw;cases hk:cV q k with
    | true=>
     obtain⟨v,C,h1,h2,h3,h4⟩:=ih k (hm k (eT ..)) hk;refine⟨v,C++ia r,by grind[bL],h2,?_,fun f=>?_⟩
     ·grind[gz]
     ·have e:eb q f (k::r)=dZ q f k::r:=by rw[jt,hk];rfl
      rw[e];refine⟨?_,rfl,fun x hx=>?_⟩
      ·grind[gz]
      ·rw[bL]at hx;rcases iR.1 hx with hx|hx
       ·grind[bL]
       ·exact .inr ⟨x,by grind[bL],rfl,rfl,rfl,rfl⟩
    |false=>
     rw[iG hk]at hw;obtain⟨v,C,h1,h2,h3,h4⟩:=ihr (fun x hx=>hm x (e9 _ hx)) hw;refine⟨v,dY k++C,by grind[bL],h2,by grind[gz],fun f=>?_⟩;have e:eb q f (k::r)=k::eb q f r:=by rw[jt,hk];rfl
     rw[e];refine⟨by grind[gz],by simp_all,fun x hx=>?_⟩;rw[bL]at hx;rcases iR.1 hx with hx|hx
     ·exact .inr ⟨x,by grind[bL],rfl,rfl,rfl,rfl⟩
     grind[bL]
  have hw:cn q u.kids≠[]:=by
   intro e;have:=kS h;rw[gv,hi,e]at this;simp_all
  obtain⟨v,C,h1,h2,h3,h4⟩:=key u.kids (fun _ h=>h) hw;refine⟨v,bz u::C,by grind[dq],h2,by grind[nb],fun f=>?_⟩;rw[ko hi];refine⟨by grind[qp],fun x hx=>?_⟩;rw[wF]at hx;rcases fw.1 hx with rfl|hx
  ·exact .inr ⟨u,dK u,rfl,(h4 f).2.1,rfl,rfl⟩
  grind[dq]
theorem vA{p:PId}:∀(u:TUnit),iQ p u=true→∃q i,q∈bp u∧su p u=bz q∧qa p u=Int.ofNat i∧i<q.kids.length∧bz (gD q.kids i)=p:=TUnit.ind fun u ih h=>by
 have hh:cV p u=true:=by
  cases e:cV p u with
  |true=>rfl
  |false=>grind[Q0]
 cases hi:fG p u with
 |true=>
  unfold iQ at h;rw[qT hi]at h;cases h
 | false=>
  have key:∀(r:List TUnit),cn p r≠[]→∃j k,j<r.length∧gD r j=k∧cV p k=true∧cn p r=aH p k∧∀n,dt (cV p) r n=Int.ofNat (n+j):=by
   intro r;induction r with
   |nil=>grind[kp]
   | cons k r ihr=>
    intro hw;cases hk:cV p k with
    |true=>
     refine⟨0,k,pM _,rfl,hk,nR hk,fun n=>?_⟩;unfold dt;simp_all
    | false=>
     rw[iG hk]at hw;obtain⟨j,k2,h1,h2,h3,h4,h5⟩:=ihr hw;refine⟨j+1,k2,by simp_all,h2,h3,by grind[iG],fun n=>?_⟩;have e:dt (cV p) (k::r) n=dt (cV p) r (n+1):=by
      show(bif cV p k then _ else _)=_
      simp_all
     grind
  have hw:cn p u.kids≠[]:=by
   intro e;have:=kS hh;rw[gv,hi,e]at this;simp_all
  obtain⟨j,k,h1,h2,h3,h4,h5⟩:=key u.kids hw;obtain⟨y,t,e⟩:=vS h3;have hway:aH p u=u::aH p k:=by rw[gv,hi,h4,e];rfl
  have hkm:k∈u.kids:=h2▸fI h1;rw[IH h,II h];cases hk:iQ p k with
  | true=>
   obtain⟨q,i,q1,q2,q3,q4,q5⟩:=ih k hkm hk;rw[IH hk]at q2;rw[II hk]at q3;have e2:Ik p u=Ik p k:=by
    unfold Ik;rw[hway];have:2≤(aH p k).length:=by
     unfold iQ at hk;cases hl:au (Int.ofNat (aH p k).length) 2 with
     |true=>grind
     |false=>have:=aF hl;grind
    show gD (u::aH p k) ((aH p k).length+1-2)=_
    rw[show(aH p k).length+1-2=((aH p k).length -2)+1 by omega];rfl
   grind[bA]
  | false=>
   have hl:(aH p k).length=1:=by
    unfold iQ at hk;cases hl:au (Int.ofNat (aH p k).length) 2 with
    |false=>grind
    |true=>have:=an hl;grind
   have hik:fG p k=true:=by
    cases hik:fG p k with
    |true=>rfl
    |false=>
     rw[gv,hik]at hl e;grind
   have e2:Ik p u=u:=by
    unfold Ik;rw[hway];show gD (u::aH p k) ((aH p k).length+1-2)=_
    rw[hl];rfl
   rw[e2,h5 0,eE];exact⟨u,j,dK u,rfl,rfl,h1,by grind[gg]⟩
theorem Uf{p:PId}{u:TUnit}(h:cV p u=true)(hi:fG p u=false):iQ p u=true:=by
 have hw:aH p u≠[]:=kS h;have e:aH p u=match cn p u.kids with|[]=>[]|y::t=>u::y::t:=by rw[gv,hi];rfl
 unfold iQ;rw[e]at hw ⊢;cases ew:cn p u.kids with
 |nil=>simp_all
 |cons y t=>
  show aw (au (Int.ofNat (u::y::t).length) 2)=true
  rw[jx (by grind)];rfl
theorem Ub{v:TUnit}{i:Nat}(h:i<v.kids.length):(dY v).Perm (dY (gm i v)++dY (gD v.kids i)):=by
 unfold gm;rw[nb v,qp,OE,ra];have e:v.kids=v.kids.take i++(gD v.kids i::v.kids.drop (i+1)):=by grind[gD,List.drop_eq_getElem_cons,List.take_append_drop]
 grind[ra,gz]
theorem Ua{v x:TUnit}{i:Nat}:(dY (dr i x v)).Perm (dY v++dY x):=by
 unfold dr xX;rw[nb v,qp,ra,gz,yA];grind[List.take_append_drop,ra]
end Go.Ev
namespace Go.Ev
open Go
section
variable{P:Program}{G:eg}{call:cX}{m:Nat}{c:Code}{d:D}{s s':St}{ops:Array Oper}{h h':AHeap}{o:AObj}{f:FuncId}{args:List AV}{v u:AV}{pl pl':Pl}{M M':dn}{w w':World}
theorem cF.psh(g2:cF pl M h w):cF pl M (h.push o) w:=
 ⟨fun id p hp=>Nat.lt_succ_of_lt (g2.dom id p hp),(fun id p o' hp hg=>by
  rcases dX hg with⟨rfl,_⟩|⟨_,h2⟩
  ·exact absurd (g2.dom _ p hp) (wv _)
  ·exact g2.obj id p o' hp h2),g2.blk,g2.inj,g2.imm,g2.sep⟩
theorem cT.psh(g2:cF pl M h w)(g4:cT h pl M w h' pl' M' w')(g2':cF pl' M' h' w'):cT h pl M w (h'.push o) pl' M' w':=
 ⟨g4.ext,g4.new,g4.mem,g4.size,g4.kept,g4.blks,(fun id p hp hg=>by
  have:=g4.live id p hp hg;cases hh:(h'.push o).get id with
  |none=>rfl
  |some o'=>
   rcases dX hh with⟨rfl,_⟩|⟨_,h2⟩
   ·obtain⟨p',e1,_⟩:=g4.ext _ p hp;exact absurd (g2'.dom _ p' e1) (wv _)
   simp_all),g4.stay,g4.memNew,g4.os,g4.tape,g4.out,g4.drawn⟩
theorem aL.psh(h0:aL P G f args h (fun v1 h1=>v1=v∧h1=h'))(hl:Le u v):aL P G f args h (fun v1 h1=>v1=u∧h1=h'.push o):=by
 intro pl M w vs hg hr hv;have key:∀{cv w'},iX pl M h w v h' cv w'→iX pl M h w u (h'.push o) cv w':=fun⟨pl',M',k1,k2,k3,k4⟩=>⟨pl',M',hl _ _ _ k1,cF.psh k2,cT.psh hr k3 k2,Nat.le_succ_of_le k4⟩
 rcases h0 pl M w vs hg hr hv with⟨h1,h2⟩|⟨cv,w',v',h'',h1,⟨rfl,rfl⟩,h3⟩
 ·exact .inl ⟨h1,Calls.mono h2 fun e w' ⟨cv,v',h'',k1,⟨k2,k2'⟩,k3⟩=>⟨cv,u,h'.push o,k1,⟨rfl,rfl⟩,by simp_all⟩⟩
 ·exact .inr ⟨cv,w',u,_,h1,⟨rfl,rfl⟩,key h3⟩
theorem JN{Ψ Ψ':AV→AHeap→Prop}(o:AObj)(h0:aL P G f args h Ψ)(hΨ:∀v h',Ψ v h'→∃u,Le u v∧Ψ' u (h'.push o)):aL P G f args h Ψ':=by
 intro pl M w vs hg hr hv;have key:∀{v u h' cv w'},Le u v→iX pl M h w v h' cv w'→iX pl M h w u (h'.push o) cv w':=fun hl ⟨pl',M',k1,k2,k3,k4⟩=>⟨pl',M',hl _ _ _ k1,cF.psh k2,cT.psh hr k3 k2,Nat.le_succ_of_le k4⟩
 rcases h0 pl M w vs hg hr hv with⟨h1,h2⟩|⟨cv,w',v',h'',h1,h2,h3⟩
 ·refine .inl ⟨h1,Calls.mono h2 fun e w' ⟨cv,v',h'',k1,k2,k3⟩=>?_⟩;grind
 ·obtain⟨u,q1,q2⟩:=hΨ _ _ h2;exact .inr ⟨cv,w',u,_,h1,q2,key q1 h3⟩
theorem Pt(pl:Pl)(M:dn)(p:Place)(x:Option Obj):bu pl M p .dead x:=by cases x<;>trivial
theorem aL.dead{i:Nat}{Ψ Ψ':AV→AHeap→Prop}(h0:aL P G f args h Ψ)(hi:h.n≤i)(hm:i<1000000)(hΨ:∀v h',Ψ v h'→Ψ' v (h'.put i .dead)):aL P G f args h Ψ':=by
 intro pl M w vs hg hr hv;have key:∀{v h' cv w'},iX pl M h w v h' cv w'→iX pl M h w v (h'.put i .dead) cv w':=fun⟨pl',M',k1,k2,k3,k4⟩=>⟨pl',M',k1,⟨k2.dom,(fun id p o hp hg=>by
  rcases AHeap.get_put hm hg with⟨_,rfl⟩|⟨_,h2⟩
  ·grind[Pt]
  ·exact k2.obj id p o hp h2),k2.blk,k2.inj,k2.imm,k2.sep⟩,⟨k3.ext,k3.new,k3.mem,k3.size,k3.kept,k3.blks,(fun id p hp hg=>by
   have hl:=hr.dom id p hp;have hn:=k3.live id p hp hg;cases hh:AHeap.get (AHeap.put _ i .dead) id with
   |none=>rfl
   |some o'=>grind[AHeap.get_put]),k3.stay,k3.memNew,k3.os,k3.tape,k3.out,k3.drawn⟩,k4⟩
 rcases h0 pl M w vs hg hr hv with⟨h1,h2⟩|⟨cv,w',v',h'',h1,h2,h3⟩
 ·exact .inl ⟨h1,Calls.mono h2 fun e w' ⟨cv,v',h'',k1,k2,k3⟩=>⟨cv,v',h''.put i .dead,k1,hΨ _ _ k2,key k3⟩⟩
 ·exact .inr ⟨cv,w',v',_,h1,hΨ _ _ h2,key h3⟩
end
section
variable{P:Program}{G:eg}{ops:Array Oper}{o:Oper}{l:List Oper}{s:St}{b:Option Nat}
theorem xi{t tx e:TypeId}{i:TypeInfo}{sz bt:Nat}(hsz:i.size=sz)(hbt:i.bytes=bt){z z0:AV}{sO xO:Operand}{dst:Option Tmp}{ty:TypeId}{pos:String}{after:Array Edge}{guard:Option (Nat×Bool)}{xs:List AV}
  (ht:P.underlying t=some (.slice e))(hk:∃e',P.underlying tx=some (.slice e'))(hi:P.info? e=some i)(hz:iS P e=some z0)(hzl:Le z z0)
  (hs:(ct G sO).run s.tmps=some (.ps [] true))(hx:(ct G xO).run s.tmps=some (.ls xs))(hne:xs≠[])(hfit:dc sz xs=true)(hzf:dc sz [z]=true)(hsm:small xs.length bt=true)(hs0:0<sz)
  (pl:Pl)(M:dn)(a:Act)(w:World)(g1:pb G pl M)(g2:cF pl M s.heap w)(g3:FrRel pl M s.tmps a):
  ∃(k:Nat)(pl':Pl)(M':dn)(cv:Value)(w':World),k=0∧(execOp a.eval ⟨dst,.call ⟨.builtin .append,#[sO,xO],#[t,tx]⟩,ty,pos,after,guard⟩).run P w=.ok (.value cv) w'∧
   VRel pl' M' (.slice s.heap.n 0 0 xs.length none) cv∧cF pl' M' (s.heap.push (.row sz true 0 xs)) w'∧cT s.heap pl M w (s.heap.push (.row sz true 0 xs)) pl' M' w'∧s.heap.n≤(s.heap.push (.row sz true 0 xs)).n:=by
 subst hsz;subst hbt;have hsr:=bW g1 g3 hs;have hxr:=bW g1 g3 hx;obtain⟨news,hsrc⟩:=y8 (P:=P) g2 hxr (show jM s.heap (.ls xs)=some xs from rfl) hne hfit;obtain⟨i2,zv,hz1,hz2,hz3⟩:=me hz;rw[hi]at hz1;cases hz1
 obtain⟨b1,b2⟩:=jf hsm;have hpos:0<xs.length:=pT.2 hne;generalize hq:a.eval sO=cs at hsr;generalize hq2:a.eval xO=cx at hxr hsrc;cases hsr with
 | ps hl htt hm hs2 hc=>
  rename_i ad cap sz c;have hcap:cap=0:=htt rfl;subst hcap;have hzr:=hzl _ _ _ (dM (pl:=pl) (M:=M) hz3);have hzt:=mY hzf z (by simp);have hzsz:zv.cells.size=i.size:=by rw[←hzr.cells.len];omega
  have hrun:=run_append_grow_src (P:=P) w t tx ty e i zv ht hi hz2 (some ad) 0 0 [] (by simp[Builtin.firstCells,loadCells,loadCellsFrom]) cx xs.length news (hsrc.src (.inl hk)) (by omega) (by omega) (growslice_fits (by omega) (by grind));have hge:=grownCap_ge w (0+xs.length) 0 e;obtain⟨C,hC⟩:∃C,C=grownCap w (0+xs.length) 0 e:=⟨_,rfl⟩
  rw[←hC]at hrun hge;have hin:=eR hzr hzt.2 (C-(0+xs.length)) hzt.1 hs0;have hzl:(Builtin.zeroCells zv.cells (C-(0+xs.length))).toList.toArray=(Array.range ((C-(0+xs.length))*i.size)).map (zv.cells[· %zv.cells.size]!):=by grind[Builtin.zeroCells]
  have hnl:(Builtin.zeroCells zv.cells (C-(0+xs.length))).toList.length=(List.replicate (C-(0+xs.length)) z).length *i.size:=by grind[Builtin.zeroCells]
  have hin2:=kX (news:=(Builtin.zeroCells zv.cells (C-(0+xs.length))).toList) hsrc.mem (by grind) hsrc.newsLen hnl #[];have hce:(news++(Builtin.zeroCells zv.cells (C-(0+xs.length))).toList).toArray++#[]=([]++news).toArray++Builtin.zeroCells zv.cells (C-(0+xs.length)):=by grind
  rw[hce]at hin2;have hcs:(([]++news).toArray++Builtin.zeroCells zv.cells (C-(0+xs.length))).size=(xs++List.replicate (C-(0+xs.length)) z).length *i.size:=by simp only[rP,FK,CY,hsrc.newsLen,size_zeroCells,hzsz,dH,pe,js]
  obtain⟨cells,hcells⟩:∃cells,cells=([]++news).toArray++Builtin.zeroCells zv.cells (C-(0+xs.length)):=⟨_,rfl⟩
  rw[←hcells]at hrun hin2 hcs;have hxC:xs.length≤C:=by omega
  have hszc:cells.size=C*i.size:=by grind
  have hin3:InMem pl M cells 0 i.size xs:=⟨by rw[eE,hszc];exact ee _ hxC,fun x hx=>hin2.elem x (pd _ hx),fun i x j y h1 h2=>hin2.cell i x j y (by grind) h2⟩
  let p:Place:=⟨w.heap.size,0,i.size,xs.length,C*i.size⟩
  have hwd:(w.drew.alloc (.cells cells e)).heap=w.heap.push (.cells cells e):=rfl;obtain⟨r1,r2⟩:=cF.alloc (o:=.row i.size true 0 xs) (p:=p) g2 hwd ⟨rfl,rfl,rfl,nO _⟩ rfl
   ⟨rfl,rfl,rfl,hszc.symm,rfl,hs0,fun h=>(by grind),hin3.mono (fun id q hq=>⟨q,by rw[cN (by have:=g2.dom id q hq;omega)];omega,ar _,fun _=>rfl⟩) (fun _ _ h=>h)⟩
  refine⟨0,upd pl s.heap.n p,M,.slice (some ⟨w.heap.size,0,none⟩) (0+xs.length) C,w.drew.alloc (.cells cells e),rfl,?_,?_,r1,r2,nO _⟩
  ·simp only[execOp,resolve,invoke,builtin,Sem.run_bind,Sem.run_pure,Result.andThen_ok,List.map_toArray,eh,yo,hq,hq2];show(Sem.run P (Builtin.append_ #[t,tx] ty #[Value.slice (some ad) 0 0,cx]) w).andThen _=_
   rw[hrun];rfl
  ·rw[eE]at hge ⊢;refine .slice (dI _ _ _) (ar _) hge (fun k hk=>by grind) (fun _=>⟨.inr (by grind),by grind,by grind,(fun _=>by grind),(fun k hk=>by grind)⟩)
end
end Go.Ev
namespace Go.Ev
open Go
theorem iN{s u:List UInt8}{H:AHeap}(h:s.length+u.length≤2^62):ba H (Vv (.str s) (.str u))=some (.val (.str (s++u)) H):=by grind[Nat.ble_eq_true_of_le,Vv,ba]
def N4(s:aO):aO:=bif al (.ofNat (gD s 0).toNat) 124 then[92]else bif al (.ofNat (gD s 0).toNat) 92 then[92]else[]
def B6(s:aO)(w:PWord):aO:=s++[32]++N4 w.text++w.text
def lO(s:aO)(l:List PWord):aO:=l.foldl B6 s
theorem ov(s:aO)(w:PWord)(r:List PWord):lO s (w::r)=lO (B6 s w) r:=rfl
theorem E1{x:aO}{w:PWord}(h1:al (.ofNat (gD w.text 0).toNat) 124=true):B6 x w=x++[32]++[92]++w.text:=by grind[B6,N4]
theorem E0{x:aO}{w:PWord}(h1:al (.ofNat (gD w.text 0).toNat) 124=false)(h2:al (.ofNat (gD w.text 0).toNat) 92=true):B6 x w=x++[32]++[92]++w.text:=by grind[B6,N4]
theorem ET{x:aO}{w:PWord}(h1:al (.ofNat (gD w.text 0).toNat) 124=false)(h2:al (.ofNat (gD w.text 0).toNat) 92=false):B6 x w=x++[32]++w.text:=by grind[B6,N4]
theorem Wl(d:Nat):au (.ofNat d) 0=false:=rfl
def td(u:TUnit):TUnit:=⟨0,0,0,u.kind,u.label,u.head,u.words,[]⟩
def EK(u:TUnit)(d:Nat):Bool:=aw (au (.ofNat d) 0)&&(aw (au 8 (.ofNat d))&&kr (cG (td u)))
def gX(u:TUnit)(d:Nat):aO:=
 bif aw (EK u d)then[]else
  let a:=Lib.repeatL [32,32] d++c8 u.kind
  let b:=bif aw (al u.kind 0)then a++([32]++u.label)else a
  let c:=bif au 0 (.ofNat u.head.length)then lO (b++[58]) u.head else b
  bif au 0 (.ofNat u.words.length)then lO (c++[32,124]) u.words else c
mutual
def eZ:Nat→TUnit→List aO
 |d,⟨a,i,n,k,l,h,w,ks⟩=>gX ⟨a,i,n,k,l,h,w,ks⟩ d::dQ (d+1) ks
def dQ:Nat→List TUnit→List aO
 |_,[]=>[]
 |d,k::r=>eZ d k++dQ d r
end
theorem CR(d:Nat)(u:TUnit):eZ d u=gX u d::dQ (d+1) u.kids:=by cases u;rw[eZ];rfl
theorem wP(d:Nat):dQ d []=[]:=by rw[dQ]
theorem mW(d:Nat)(k:TUnit)(r:List TUnit):dQ d (k::r)=eZ d k++dQ d r:=by rw[dQ]
def xB(u:TUnit):aO×Int:=
 bif aw (kr (cG u))then([],1)else
  bif au 16384 (.ofNat (Lib.join (eZ 0 u) [10]++[10]).length)then([],6)else(Lib.join (eZ 0 u) [10]++[10],0)
theorem Rc(s:aO):(N4 s).length≤1:=by grind[N4]
theorem So(s:aO)(w:PWord):(B6 s w).length≤s.length+(w.text.length+2):=by grind[Rc,B6]
theorem vJ{l:List PWord}(h:∀w,w∈l→w.text.length≤24)(s:aO):(lO s l).length≤s.length+26*l.length:=by
 induction l generalizing s with
 |nil=>exact ar _
 |cons w r ih=>grind[So,ov]
theorem AJ(k:Int):(c8 k).length≤16:=by
 unfold c8;split<;>decide
theorem ge{a b:Int}(h:aw (au a b)=true):b≤a:=aF (by cases q:au a b<;>rw[q]at h<;>first|rfl|grind)
theorem I8{s:aO}(h:kZ s=true):s.length≤7:=by
 unfold kZ at h;simp only[bx]at h;have h1:=ge h.2.1;have h2:=ge h.2.2.2.1;grind
theorem Mu{s:aO}(h:rS s=true):1≤s.length∧s.length≤24:=by
 unfold rS at h;simp only[bx]at h;have h1:=ge h.1;have h2:=ge h.2.1;grind
theorem IV{l:List PWord}(h:og l=true):l.length≤256∧∀w,w∈l→1≤w.text.length∧w.text.length≤24:=by
 unfold og qk at h;simp only[bx,nK]at h;have h1:=ge h.1;simp only[aP]at h1;exact⟨by omega,fun w hw=>Mu (h.2.2 _ (ka.2 ⟨w,hw,rfl⟩))⟩
theorem Oc{u:TUnit}(h:lL u=true):u.label.length≤7∧(u.head.length≤256∧∀w,w∈u.head→1≤w.text.length∧w.text.length≤24)∧(u.words.length≤256∧∀w,w∈u.words→1≤w.text.length∧w.text.length≤24):=by
 unfold lL at h;simp only[bx]at h;have h:=h.1;cases hk:al u.kind 0 with
 |true=>
  rw[hk]at h;simp only[cond_true,bx]at h;have h1:u.label=[]:=Rl h.1;have h2:=ge h.2;grind
 |false=>grind[I8,IV]
theorem Pm{q:TUnit→Bool}{u:TUnit}(h:wY q u=true):q u=true:=by grind[yl]
theorem LU{u:TUnit}{d:Nat}(h:EK u d=true):d≤8∧u.label.length≤7∧(u.head.length≤256∧∀w,w∈u.head→1≤w.text.length∧w.text.length≤24)∧(u.words.length≤256∧∀w,w∈u.words→1≤w.text.length∧w.text.length≤24):=by
 unfold EK kr at h;simp only[bx]at h;have h1:=ge h.2.1;simp only[aP]at h1;have h2:=Oc (Pm h.2.2.1);rw[mU]at h2;obtain⟨e1,⟨e2,e3⟩,e4,e5⟩:=h2;refine⟨by omega,e1,⟨by grind[td,TUnit.head],fun w hw=>?_⟩,⟨by grind[td,TUnit.words],fun w hw=>?_⟩⟩
 ·exact e3 (gG w) (ka.2 ⟨w,hw,rfl⟩)
 ·exact e5 (gG w) (ka.2 ⟨w,hw,rfl⟩)
theorem EL{b:Bool}{x y:aO}{n:Nat}(h1:x.length≤n)(h2:y.length≤n):(bif b then x else y).length≤n:=by grind
theorem Qc(u:TUnit)(d:Nat):(gX u d).length≤2^14:=by
 unfold gX;cases h:EK u d with
 |false=>simp_all
 |true=>
  obtain⟨h1,h2,⟨h3,h4⟩,h5,h6⟩:=LU h;have k:=AJ u.kind;have r:=Lib.repeatL_length [32,32] d;simp only[cP,gp]at r;have ha:(Lib.repeatL [32,32] d++c8 u.kind).length≤32:=by grind
  have hh:∀w,w∈u.head→w.text.length≤24:=fun w hw=>(h4 w hw).2
  have hw:∀w,w∈u.words→w.text.length≤24:=fun w hw=>(h6 w hw).2
  simp only[aw,cond_false];have hb:∀x:aO,x.length≤32→(bif aw (al u.kind 0)then x++([32]++u.label)else x).length≤40:=fun x hx=>EL (by grind) (by omega)
  have hc:∀x:aO,x.length≤40→(bif au 0 (.ofNat u.head.length)then lO (x++[58]) u.head else x).length≤6700:=fun x hx=>EL (by grind[vJ]) (by omega)
  have hd:∀x:aO,x.length≤6700→(bif au 0 (.ofNat u.words.length)then lO (x++[32,124]) u.words else x).length≤2^14:=fun x hx=>EL (by have:=vJ hw (x++[32,124]);grind) (by omega)
  grind
mutual
theorem kE(d:Nat):∀u:TUnit,(eZ d u).length=nU u
 |⟨a,i,n,k,l,h,w,ks⟩=>by rw[eZ,cP,wS (d+1) ks,nU];omega
theorem wS(d:Nat):∀l:List TUnit,(dQ d l).length=eQ l
 |[]=>by rw[dQ,eQ];rfl
 |k::r=>by rw[dQ,eQ,dH,kE d k,wS d r]
end
mutual
theorem AZ(d:Nat):∀(u:TUnit)(s:aO),s∈eZ d u→s.length≤2^14
 |⟨a,i,n,k,l,h,w,ks⟩,s,hs=>by
  rw[eZ]at hs;rcases fw.1 hs with rfl|hs
  ·exact Qc _ _
  ·exact wR (d+1) ks s hs
theorem wR(d:Nat):∀(l:List TUnit)(s:aO),s∈dQ d l→s.length≤2^14
 |[],s,hs=>by rw[dQ]at hs;cases hs
 |k::r,s,hs=>by
  rw[dQ]at hs;rcases iR.1 hs with hs|hs
  ·exact AZ d k s hs
  ·exact wR d r s hs
end
theorem uv{sep:aO}{B:Nat}:∀{l:List aO},(∀s,s∈l→s.length≤B)→(Lib.joinTail sep l).length≤l.length*(sep.length+B)
 |[],_=>bH _
 |x::r,h=>by
  have h1:=h x eT;have h2:=uv (sep:=sep) (l:=r) fun s hs=>h s (e9 _ hs)
  grind[Lib.joinTail,Nat.succ_mul]
theorem Qm{sep:aO}{B:Nat}{l:List aO}(h:∀s,s∈l→s.length≤B):(Lib.join l sep).length≤l.length*(sep.length+B):=by
 cases l with
 |nil=>exact bH _
 |cons x r=>
  have h1:=h x eT;have h2:=uv (sep:=sep) (l:=r) fun s hs=>h s (e9 _ hs)
  grind[Lib.join_cons,Nat.succ_mul]
theorem wB:∀(l:List TUnit),(∀k,k∈l→nU (cG k)=nU k∧∀x,x∈bp (cG k)→∃y,y∈bp k∧x=cG y)→eQ (l.map cG)=eQ l∧∀x,x∈dm (l.map cG)→∃y,y∈dm l∧x=cG y
 |[],_=>⟨rfl,fun x hx=>by grind[fR]⟩
 |k::r,h=>by
  obtain⟨a1,a2⟩:=h k eT;obtain⟨b1,b2⟩:=wB r fun k hk=>h k (e9 _ hk)
  grind[eQ,bL]
theorem MI:∀u:TUnit,nU (cG u)=nU u∧∀x,x∈bp (cG u)→∃y,y∈bp u∧x=cG y:=by
 refine TUnit.ind fun u ih=>?_
 obtain⟨h1,h2⟩:=wB u.kids ih;refine⟨?_,fun x hx=>?_⟩
 ·rw[i7 (cG u),i7 u,mU];exact congrArg (1+ ·) h1
 ·rw[dq,mU]at hx;rcases fw.1 hx with rfl|hx
  ·grind[dq,List.mem_cons_self,mU]
  ·obtain⟨y,h3,h4⟩:=h2 x hx;grind[dq]
end Go.Ev
namespace Go.Ev
open Go
structure OkB(u:TUnit):Prop where
 nd:(dY u).Nodup
 n:nU u≤1024
 w:∀x,x∈bp u→x.head.length≤300∧x.words.length≤300
theorem OkB.uni{u v x:TUnit}(h:OkB u)(hv:v∈bp u)(hx:x∈bp u)(e:bz v=bz x):v=x:=CH h.nd hv hx e
theorem sT{u x:TUnit}(hx:x∈bp u):cV (bz x) u=true:=Lp u ⟨x,hx,rfl⟩
theorem mj:∀{l:List TUnit}{x:TUnit},x∈dm l→∃k,k∈l∧x∈bp k
 |[],x,h=>by grind[fR]
 |k::r,x,h=>by
  rw[bL]at h;rcases iR.1 h with h|h
  ·simp_all
  ·obtain⟨k',h1,h2⟩:=mj h;grind
theorem Cc{u:TUnit}:∀(p:List PStep)(l:List TUnit),(∀x,x∈l→x∈bp u)→∀x,x∈gc p l→x∈bp u
 |[],l,h,x,hx=>h x hx
 |s::r,l,h,x,hx=>by
  refine Cc r _ (fun y hy=>?_) x hx;grind[iL,bA,dK]
theorem NI{u:TUnit}{p:List PStep}{x:TUnit}(h:x∈dR u p):x∈bp u:=by
 unfold dR at h;grind[dK,Cc]
theorem qC{u:TUnit}{p:List PStep}(h:(aG u p).2=0):cV (aG u p).1 u=true:=by
 unfold aG at h ⊢;split at h
 ·omega
 ·rename_i x e;exact sT (NI (by rw[e];simp_all))
 omega
def E8(u:TUnit)(sp:PSpot):Prop:=∃n:Nat,sp.at_=Int.ofNat n∧n≤2^20∧∀v,v∈bp u→fG sp.id v=true→n≤v.kids.length
theorem PO{u:TUnit}(hu:OkB u){p:PId}(h:iQ p u=true){n:Nat}(hn:n≤1):E8 u ⟨su p u,qa p u+Int.ofNat n⟩:=by
 obtain⟨q,i,h1,h2,h3,h4,h5⟩:=vA u h;have hk:=bf q;have:=dL h1;have:=hu.n;refine⟨i+n,by simp_all,by omega,fun v hv hi=>?_⟩;have hi:fG (su p u) v=true:=hi;rw[gg,h2]at hi;rw[hu.uni hv h1 hi];omega
theorem Ga{u:TUnit}(hu:OkB u){p:PId}(hp:cV p u=true){w:Int}(he:(dz w u p).2=0):E8 u (dz w u p).1:=by
 unfold dz at he ⊢;cases h0:al w 0 with
 |true=>exact⟨0,rfl,bH _,fun v _ _=>bH _⟩
 | false=>
  rw[h0]at he;simp only[cond_false]at he ⊢;cases h1:al w 1 with
  |true=>
   obtain⟨a,b⟩:=vt hp;have hk:=bf (ej p u);have:=dL a;have:=hu.n;refine⟨_,rfl,by omega,fun v hv hi=>?_⟩;rw[gg]at hi;rw[hu.uni hv a (hi.trans b.symm)];omega
  |false=>
   rw[h1]at he;simp only[cond_false]at he ⊢;have key:∀n:Nat,n≤1→(ni u p (Int.ofNat n)).2=0→E8 u (ni u p (Int.ofNat n)).1:=fun n hn he=>by grind[ni,PO]
   cases h2:al w 2 with
   |true=>grind
   |false=>rw[h2]at he;exact key 0 (bH _) he
theorem OkB.with{u:TUnit}(hu:OkB u){q:PId}{f:TUnit→TUnit}
  (hf:∀v C,v∈bp u→bz v=q→(dY u).Perm (C++dY v)→(C++dY (f v)).Nodup∧(C++dY (f v)).length≤1024∧∀x,x∈bp (f v)→x.head.length≤300∧x.words.length≤300):OkB (dZ q f u):=by
 cases hq:cV q u with
 |false=>grind[IU]
 |true=>
  obtain⟨v,C,h1,h2,h3,h4⟩:=sk u hq;obtain⟨h5,h6⟩:=h4 f;obtain⟨a,b,c⟩:=hf v C h1 h2 h3;refine⟨h5.nodup_iff.2 a,by rw[lG,h5.length_eq];omega,fun x hx=>?_⟩;grind[cases OkB]
theorem OkB.keep{u:TUnit}(hu:OkB u){q:PId}{f:TUnit→TUnit}(h1:∀v,bz (f v)=bz v∧(f v).kids=v.kids)(h2:∀v,v∈bp u→(f v).head.length≤300∧(f v).words.length≤300):OkB (dZ q f u):=by
 refine hu.with fun v C hv hq hp=>?_
 have e:dY (f v)=dY v:=by grind[nb]
 rw[e];refine⟨hp.nodup_iff.1 hu.nd,by rw[←hp.length_eq,←lG];exact hu.n,fun x hx=>?_⟩;rw[dq]at hx;rcases fw.1 hx with rfl|hx
 ·simp_all
 ·rw[(h1 v).2]at hx;obtain⟨k,k1,k2⟩:=mj hx;grind[iL,bA,cases OkB]
theorem Ti{v x y:TUnit}{i:Nat}(h:y∈bp (dr i x v)):y=dr i x v∨y∈bp x∨y∈bp v:=by
 rw[dq]at h;rcases fw.1 h with rfl|h
 ·simp_all
 ·obtain⟨k,k1,k2⟩:=mj h;have k1:k∈v.kids.take i++(x::v.kids.drop i):=k1;rcases iR.1 k1 with q|q
  ·grind[bA]
  ·grind[bA]
theorem OkB.ins{u x:TUnit}(hu:OkB u){q:PId}{i:Nat}(hx:(dY x).Nodup)(hd:∀p,p∈dY x→p∉dY u)(hn:nU u+nU x≤1024)(hw:∀y,y∈bp x→y.head.length≤300∧y.words.length≤300):OkB (dZ q (dr i x) u):=by
 refine hu.with fun v C hv hq hp=>?_
 have h1:(C++dY (dr i x v)).Perm (dY u++dY x):=((List.Perm.append_left C Ua).trans (by grind))
 refine⟨h1.nodup_iff.2 (List.nodup_append.2 ⟨hu.nd,hx,fun a ha b hb e=>hd b hb (e▸ha)⟩),by rw[h1.length_eq,dH,←lG,←lG];omega,fun y hy=>?_⟩;rcases Ti hy with rfl|h|h
 ·exact hu.w v hv
 all_goals grind[iL,cases OkB]
theorem K4{v y:TUnit}{i:Nat}(h:y∈bp (gm i v)):y=gm i v∨y∈bp v:=by
 rw[dq]at h;rcases fw.1 h with rfl|h
 ·simp_all
 ·obtain⟨k,k1,k2⟩:=mj h;exact .inr (bA (List.mem_of_mem_eraseIdx (show k∈v.kids.eraseIdx i from k1)) k2)
theorem OkB.del{u v:TUnit}(hu:OkB u){i:Nat}(hv:v∈bp u)(hi:i<v.kids.length):OkB (dZ (bz v) (gm i) u)∧(dY u).Perm (dY (dZ (bz v) (gm i) u)++dY (gD v.kids i)):=by
 obtain⟨v',C,h1,h2,h3,h4⟩:=sk u (sT hv);obtain rfl:=hu.uni h1 hv h2;obtain⟨h5,h6⟩:=h4 (gm i);have h7:(dY u).Perm (dY (dZ (bz v') (gm i) u)++dY (gD v'.kids i)):=h3.trans ((List.Perm.append_left C (Ub hi)).trans (by grind));have hnd:=h7.nodup_iff.1 hu.nd;refine⟨⟨(List.nodup_append.1 hnd).1,?_,fun x hx=>?_⟩,h7⟩
 ·have:=h7.length_eq;grind[lG,cases OkB]
 ·rcases h6 x hx with h|⟨y,y1,y2,y3,y4,y5⟩
  ·rcases K4 h with rfl|h
   ·exact hu.w v' hv
   grind[iL,cases OkB]
  grind[cases OkB]
theorem OS{q:PId}{f:TUnit→TUnit}:∀u:TUnit,cV q u=true→∃v,v∈bp u∧bz v=q∧f v∈bp (dZ q f u):=by
 refine TUnit.ind fun u ih h=>?_
 cases hi:fG q u with
 |true=>grind[dK,gg,qS]
 | false=>
  rw [ko hi];have key:∀r:List TUnit,(∀k,k∈r→k∈u.kids)→(∃k,k∈r∧cV q k=true)→∃v,v∈dm r∧bz v=q∧f v∈dm (eb q f r):=by
   intro r;induction r with
   |nil=>grind
   | cons k r ihr=>
    intro hs ⟨y,hy,hyq⟩;rw[jt,bL];cases hk:cV q k with
    |true=>grind[bL]
    |false=>
     rcases fw.1 hy with rfl|hy
     ·grind
     ·obtain⟨v,a,b,c⟩:=ihr (fun k hk=>hs k (e9 _ hk)) ⟨y,hy,hyq⟩;grind[bL]
  have hx:=vt h;have hne:ej q u≠u:=fun e=>by grind[gg]
  have hm:ej q u∈dm u.kids:=by grind[dq]
  obtain⟨k,k1,k2⟩:=mj hm;obtain⟨v,a,b,c⟩:=key u.kids (fun _ h=>h) ⟨k,k1,Lp k ⟨_,k2,hx.2⟩⟩;grind[dq,wF]
theorem Q2{u q:TUnit}(hu:OkB u){i:Nat}(hq:q∈bp u)(hi:i<q.kids.length){p t:PId}{w:Int}{anc bs:Bool}(ht:cV t u=true){ok:Bool}
  (he:(nI p t (bz q) (Int.ofNat i) ok anc bs (dz w u t).1 (dz w u t).2).2=0):
  E8 (dZ (bz q) (gm i) u) (nI p t (bz q) (Int.ofNat i) ok anc bs (dz w u t).1 (dz w u t).2).1:=by
 obtain⟨hr,_⟩:=hu.del hq hi;obtain⟨v',C,h1,h2,h3,h4⟩:=sk u (sT hq);obtain rfl:=hu.uni h1 hq h2;obtain⟨_,h6⟩:=h4 (gm i);have hlen:(gm i v').kids.length=v'.kids.length-1:=List.length_eraseIdx_of_lt hi;have own:∀v,v∈bp (dZ (bz v') (gm i) u)→bz v=bz v'→v.kids.length=v'.kids.length-1:=fun v hv e=>by
  obtain⟨z,z1,z2,z3⟩:=OS (q:=bz v') (f:=gm i) u (sT hq);obtain rfl:=hu.uni z1 hq z2;rw[hr.uni hv z3 (e.trans rfl)];omega
 have oth:∀v,v∈bp (dZ (bz v') (gm i) u)→bz v≠bz v'→∃y,y∈bp u∧bz v=bz y∧v.kids.length=y.kids.length:=fun v hv hne=>by
  rcases h6 v hv with h|⟨y,y1,y2,y3,_⟩
  ·rcases K4 h with rfl|h
   ·exact absurd rfl hne
   ·exact⟨v,iL hq h,rfl,rfl⟩
  grind
 have hk:=bf v';have hb:=dL hq;have hn:=hu.n;unfold nI at he ⊢;cases c1:(aw ok||((aw (bg t p)&&anc)||(bg t p&&aw bs)))with
 |true=>grind
 | false=>
  rw[c1]at he;simp only[cond_false]at he ⊢;cases c2:bg t p with
  |true=>
   refine⟨i,rfl,by omega,fun v hv hid=>?_⟩;grind[gg]
  | false=>
   rw[c2]at he;simp only[cond_false]at he ⊢;have e0:(dz w u t).2=0:=by grind
   obtain⟨n,n1,n2,n3⟩:=Ga hu ht e0;rw[e0,n1];cases c4:bg (dz w u t).1.id (bz v')with
   |false=>
    have hne:(dz w u t).1.id≠bz v':=fun e=>by grind[mM]
    rw[show(al 0 0&&(false&&au (Int.ofNat i) (Int.ofNat n)))=false from rfl];refine⟨n,n1,n2,fun v hv hid=>?_⟩;grind[gg]
   | true=>
    have heq:=yc c4;have hn':=n3 v' hq ((gg _ v').2 heq.symm);cases c5:au (Int.ofNat i) (Int.ofNat n)with
    |true=>
     have c5:=an c5;simp only[aP]at c5;rw[show(al 0 0&&(true&&true))=true from rfl];refine⟨n-1,by grind,by omega,fun v hv hid=>?_⟩;grind[gg]
    |false=>
     have c5:=aF c5;simp only[aP]at c5;rw[show(al 0 0&&(true&&false))=false from rfl];refine⟨n,n1,n2,fun v hv hid=>?_⟩;grind[gg]
def y6(a i:Int)(n k:Nat):List PId:=(List.range' (n+1) k).map fun j=>⟨a,i,Int.ofNat j⟩
mutual
theorem va(a i:Int):∀(u:TUnit)(n w:Nat),dY (cR a i u n w)=y6 a i n (nU u)
 |⟨a',i',n',k,l,h,ws,ks⟩,n,w=>by
  rw[nb,cR,nU];show _::ia (fW a i ks (n+1) _)=_
  rw[yT a i ks (n+1)];unfold y6;rw[Nat.add_comm 1 (eQ ks),CK,eh];rfl
theorem yT(a i:Int):∀(l:List TUnit)(n w:Nat),ia (fW a i l n w)=y6 a i n (eQ l)
 |[],n,w=>by rw[fW,eQ,ry];rfl
 |k::r,n,w=>by
  rw[fW,eQ,gz,va a i k n w,yT a i r (n+nU k)];unfold y6;rw[←pL,show n+nU k+1=n+1+nU k by omega,←List.range'_append_1]
end
theorem Pa(a i:Int)(n k:Nat):(y6 a i n k).Nodup:=by
 unfold y6;exact List.Pairwise.map _ (fun x y hne e=>hne (Int.ofNat.inj (congrArg PId.n e))) List.nodup_range'
mutual
theorem KJ(a i:Int)(B:Nat):∀(u:TUnit)(n w:Nat),(∀x,x∈bp u→x.head.length≤B∧x.words.length≤B)→∀x,x∈bp (cR a i u n w)→x.head.length≤B∧x.words.length≤B
 |⟨a',i',n',k,l,h,ws,ks⟩,n,w,hB,x,hx=>by
  rw[cR,bp]at hx;rcases fw.1 hx with rfl|hx
  ·have:=hB _ (by rw[bp];exact eT);exact⟨by show(cA _ _ _ _).length≤B;rw[fS,b7,b9];exact this.1,by show(cA _ _ _ _).length≤B;rw[fS,b7,b9];exact this.2⟩
  ·exact Fh a i B ks _ _ (fun y hy=>hB y (by rw[bp];exact e9 _ hy)) x hx
theorem Fh(a i:Int)(B:Nat):∀(l:List TUnit)(n w:Nat),(∀x,x∈dm l→x.head.length≤B∧x.words.length≤B)→∀x,x∈dm (fW a i l n w)→x.head.length≤B∧x.words.length≤B
 |[],n,w,hB,x,hx=>by rw[fW,dm]at hx;cases hx
 |k::r,n,w,hB,x,hx=>by
  rw[fW,dm]at hx;rcases iR.1 hx with hx|hx
  ·exact KJ a i B k _ _ (fun y hy=>hB y (by rw[dm];exact pd _ hy)) x hx
  ·exact Fh a i B r _ _ (fun y hy=>hB y (by rw[dm];exact pO _ hy)) x hx
end
theorem Pv(a i:Int)(u:TUnit)(n w:Nat):nU (cR a i u n w)=nU u:=by grind[lG,va,y6]
end Go.Ev
namespace Go.Ev
open Go
def Rt(u v:TUnit):Prop:=jl v []=jl u []
variable{q:PId}{f:TUnit→TUnit}{u:TUnit}
theorem KH(h:∀v,jl (f v) []=jl v [])(u:TUnit):Rt u (dZ q f u):=by
 unfold Rt;cases hi:fG q u with
 |true=>grind[qS]
 |false=>rw[ko hi];rfl
theorem KG(h:iQ q u=true):Rt u (dZ q f u):=by
 cases hi:fG q u with
 |true=>unfold iQ at h;rw[qT hi]at h;cases h
 |false=>unfold Rt;rw[ko hi];rfl
end Go.Ev
