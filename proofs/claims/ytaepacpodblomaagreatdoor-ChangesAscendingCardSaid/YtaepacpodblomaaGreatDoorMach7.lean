/- An abstract machine for runs of the program, proved sound against the model: part 7. No conditions. -/
import Derived.Test.YtaepacpodblomaaGreatDoorMach6
import Derived.Laws.Externs
import Derived.Lib.Join
import Derived.Lib.Repeat
namespace Go.Ev
open Go
section
variable{a i:Int}{l r x:List aO}{s:aO}{m:List PWord}{j n k:Nat}
theorem sm(h1:l.drop j=x)(h2:x=s::r)(h3:s::r=l):1=[(⟨s,a,i,.ofNat (n+j)⟩:PWord)].length∧0<[(⟨s,a,i,.ofNat (n+j)⟩:PWord)].length∧[(⟨s,a,i,.ofNat (n+j)⟩:PWord)]++cp a i r (n+[(⟨s,a,i,.ofNat (n+j)⟩:PWord)].length)=cp a i l n∧[(⟨s,a,i,.ofNat (n+j)⟩:PWord)].length+r.length=l.length:=by
 have e:=congrArg List.length (h1.trans h2);have e2:=congrArg List.length h3;simp only[vT,cO]at e e2;have:j=0:=by omega
 subst this;refine⟨rfl,Nat.one_pos,?_,by grind⟩;rw[←h3,cp];rfl
theorem ve(h1:l.drop j=x)(h2:x=s::r)(h:k=m.length∧0<m.length∧m++cp a i (s::r) (n+m.length)=cp a i l n∧m.length+(s::r).length=l.length):
  k+1=(m++[(⟨s,a,i,.ofNat (n+j)⟩:PWord)]).length∧0<(m++[(⟨s,a,i,.ofNat (n+j)⟩:PWord)]).length∧(m++[(⟨s,a,i,.ofNat (n+j)⟩:PWord)])++cp a i r (n+(m++[(⟨s,a,i,.ofNat (n+j)⟩:PWord)]).length)=cp a i l n∧(m++[(⟨s,a,i,.ofNat (n+j)⟩:PWord)]).length+r.length=l.length:=by
 have e:=congrArg List.length (h1.trans h2);obtain⟨q1,q2,q3,q4⟩:=h;simp only[vT,cO]at e q4;have:j=m.length:=by omega
 subst this;simp only[eX,cO,gm];refine⟨by omega,by omega,?_,by omega⟩;rw[←q3,cp,nH];rfl
end
theorem gE(l:List PWord):(b6 l).length=l.length:=cX ..
structure StampI(a i:Int)(ks:List TUnit)(n0 w0:Nat)(k n w:Nat)(m:List TUnit):Prop where
 len:m.length=k
 le:k≤ks.length
 all:m++fV a i (ks.drop k) n w=fV a i ks n0 w0
 num:n+eW (ks.drop k)=n0+eW ks
 wd:w+(kf (ks.drop k)).length=w0+(kf ks).length
theorem StampI.start(a i:Int)(ks:List TUnit)(n0 w0:Nat):StampI a i ks n0 w0 0 n0 w0 []:=⟨rfl,bG _,rfl,rfl,rfl⟩
theorem StampI.step{a i:Int}{ks:List TUnit}{n0 w0 k n w:Nat}{m:List TUnit}(h:StampI a i ks n0 w0 k n w m)(hk:k<ks.length):
  StampI a i ks n0 w0 (k+1) (n+nU (gD ks k)) (w+(mS (gD ks k)).length) (m++[cP a i (gD ks k) n w]):=by
 have e:=yW hk;obtain⟨h1,h2,h3,h4,h5⟩:=h;rw[e,Dz]at h3;rw[e,bf]at h4;rw[e,sS,eX]at h5;exact⟨by simp_all,hk,by simp_all,by omega,by omega⟩
theorem StampI.done{a i:Int}{ks:List TUnit}{n0 w0 k n w:Nat}{m:List TUnit}(h:StampI a i ks n0 w0 k n w m)(hk:¬k<ks.length):m=fV a i ks n0 w0∧n=n0+eW ks∧w=w0+(kf ks).length:=by grind[Fq,l0,DW,cases StampI]
theorem WE{α:Type}[Inhabited α]{m r:List α}{k:Nat}(h:m.length=k):gD (m++r) k=gD r 0:=by grind[gD]
theorem UJ{α:Type}[Inhabited α]{l:List α}{k:Nat}:gD (l.drop k) 0=gD l k:=by simp_all[gD]
theorem SO{α:Type}{m r:List α}{k:Nat}{x y:α}(h:m.length=k):(m++x::r).set k y=(m++[y])++r:=by simp_all
def gU(a i:Int)(ks:List TUnit)(n0 w0 k n w:Nat)(L:List TUnit):Prop:=∃m,L=m++ks.drop k∧StampI a i ks n0 w0 k n w m
section
variable{a i:Int}{ks L:List TUnit}{n0 w0 k n w:Nat}
theorem gU.start(a i:Int)(ks:List TUnit)(n0 w0:Nat):gU a i ks n0 w0 0 n0 w0 ks:=⟨[],rfl,StampI.start ..⟩
theorem gU.len(h:gU a i ks n0 w0 k n w L):L.length=ks.length:=by
 obtain⟨m,rfl,hI⟩:=h;grind[cases StampI]
theorem gU.at_(h:gU a i ks n0 w0 k n w L):gD L k=gD ks k:=by
 obtain⟨m,rfl,hI⟩:=h;rw[WE hI.len,UJ]
theorem gU.step(h:gU a i ks n0 w0 k n w L)(hk:k<ks.length):gU a i ks n0 w0 (k+1) (n+nU (gD L k)) (w+(mS (gD L k)).length) (L.set k (cP a i (gD L k) n w)):=by
 rw[h.at_];obtain⟨m,rfl,hI⟩:=h;exact⟨m++[cP a i (gD ks k) n w],by rw[yW hk,SO hI.len],hI.step hk⟩
theorem gU.num(h:gU a i ks n0 w0 k n w L):n+eW (ks.drop k)=n0+eW ks∧w+(kf (ks.drop k)).length=w0+(kf ks).length:=by
 obtain⟨m,rfl,hI⟩:=h;grind[cases StampI]
theorem gU.done(h:gU a i ks n0 w0 k n w L)(hk:¬k<ks.length):L=fV a i ks n0 w0∧n=n0+eW ks∧w=w0+(kf ks).length:=by
 obtain⟨m,rfl,hI⟩:=h;rw[EN (by omega),ec];exact hI.done hk
theorem gU.room(h:gU a i ks n0 w0 k n w L)(hk:k<ks.length):n+nU (gD L k)≤n0+eW ks∧w+(mS (gD L k)).length≤w0+(kf ks).length:=by
 have h1:=h.num;rw[h.at_];grind[yW,bf,sS]
end
end Go.Ev
namespace Go.Ev
open Go
section
variable{α:Type}
structure TotB(lt:α→α→Bool):Prop where
 trans:∀x y z,lt y x=false→lt z y=false→lt z x=false
 asym:∀x y,lt x y=true→lt y x=false
variable{lt:α→α→Bool}
theorem TotB.down(T:TotB lt){x y z:α}(h1:lt z y=false)(h2:lt z x=true):lt y x=true:=by
 cases h:lt y x with
 |true=>rfl
 |false=>grind[cases TotB]
theorem TotB.up(T:TotB lt){x y z:α}(h1:lt x y=true)(h2:lt z y=false):lt x z=true:=by
 cases h:lt x z with
 |true=>rfl
 |false=>grind[cases TotB]
end
section
variable{α:Type}[Inhabited α]{lt:α→α→Bool}{l x y z w:List α}{a b m n i j k s e p d:Nat}
theorem vt(h:l.length≤i):gD l i=default:=by grind[gD]
theorem WD{v:α}(h:i<l.length):gD (l.set i v) k=if k=i then v else gD l k:=by
 unfold gD;grind
theorem qR(hi:i<l.length)(hj:j<l.length):((l.set i (gD l j)).set j (gD l i)).Perm l:=by grind[gD,List.set_set_perm]
theorem xA(hi:i<l.length)(hj:j<l.length)(q:Nat):gD ((l.set i (gD l j)).set j (gD l i)) q=if q=j then gD l i else if q=i then gD l j else gD l q:=by grind[WD]
def dm(lt:α→α→Bool)(l:List α)(a b:Nat):Prop:=∀i j,a≤i→i<j→j<b→lt (gD l j) (gD l i)=false
structure SSeg(lt:α→α→Bool)(l x:List α)(a b:Nat):Prop where
 perm:x.Perm l
 out:∀i,i<a∨b≤i→gD x i=gD l i
 src:∀i,a≤i→i<b→∃j,a≤j∧j<b∧gD x i=gD l j
 srt:dm lt x a b
theorem SSeg.len(h:SSeg lt l x a b):x.length=l.length:=h.perm.length_eq
theorem mw(h:dm lt l a b):SSeg lt l l a b:=⟨.refl _,fun _ _=>rfl,fun i h1 h2=>⟨i,h1,h2,rfl⟩,h⟩
theorem SSeg.cast{p q:Nat}(h:SSeg lt l x p q)(hp:p=a)(hq:q=b):SSeg lt l x a b:=by simp_all
theorem dm.nil(h:b≤a+1):dm lt l a b:=fun i j _ _ _=>by omega
theorem dm.sub(h:dm lt l a b)(h1:a≤i)(h2:j≤b):dm lt l i j:=fun p q e1 e2 e3=>h p q (by omega) e2 (by omega)
theorem dm.le(T:TotB lt)(h:dm lt l a b)(h1:a≤i)(h2:i≤j)(h3:j<b):lt (gD l j) (gD l i)=false:=by
 rcases fZ i j with q|q
 ·exact h i j h1 q h3
 grind[cases TotB]
structure InsI(lt:α→α→Bool)(l x:List α)(a i j:Nat):Prop where
 perm:x.Perm l
 out:∀q,q<a∨i+1≤q→gD x q=gD l q
 src:∀q,a≤q→q<i+1→∃p,a≤p∧p<i+1∧gD x q=gD l p
 mid:∀p q,a≤p→p<q→q≤i→q≠j→lt (gD x q) (gD x p)=false
theorem InsI.start(h:SSeg lt l x a (min i b))(h1:i<b):InsI lt l x a i i:=by
 rw[show min i b=i by omega]at h;refine⟨h.perm,fun q hq=>h.out q (by omega),fun q h1 h2=>?_,fun p q h1 h2 h3 h4=>h.srt p q h1 h2 (by omega)⟩;grind[cases SSeg]
theorem InsI.step(T:TotB lt)(h:InsI lt l x a i j)(hi:i<l.length)(h1:a<j)(h2:j≤i)(hk:k+1=j)(hl:lt (gD x j) (gD x k)=true):InsI lt l ((x.set j (gD x k)).set k (gD x j)) a i k:=by
 have hx:x.length=l.length:=h.perm.length_eq;have hj:j<x.length:=by omega
 have hkx:k<x.length:=by omega
 have g:=xA hj hkx;refine⟨(qR hj hkx).trans h.perm,fun q hq=>?_,fun q q1 q2=>?_,fun p q h3 h4 h5 h6=>?_⟩
 ·rw[g,if_neg (by omega),if_neg (by omega)];exact h.out q hq
 ·rw[g];split
  ·grind[cases InsI]
  ·split
   ·grind[cases InsI]
   ·exact h.src q q1 q2
 ·rw[g,g];rw[if_neg (show ¬q=k by omega)];by_cases c1:q=j
  ·rw[if_pos c1];by_cases c2:p=k
   ·rw[if_pos c2];exact T.asym _ _ hl
   ·grind[cases InsI]
  ·rw[if_neg c1];by_cases c2:p=k
   ·grind[cases InsI]
   ·rw[if_neg c2];by_cases c3:p=j
    ·grind[cases InsI]
    ·rw[if_neg c3];exact h.mid p q h3 h4 h5 c1
theorem InsI.stop(T:TotB lt)(h:InsI lt l x a i j)(ha:a≤j)(h2:j≤i)(hb:i<b)(hs:s=i+1)(hl:j=a∨∃k,k+1=j∧lt (gD x j) (gD x k)=false):SSeg lt l x a (min s b):=by
 rw[show min s b=i+1 by omega];refine⟨h.perm,h.out,h.src,fun p q h3 h4 h5=>?_⟩;grind[cases TotB,cases InsI]
theorem Nb(hab:a≤b):SSeg lt l l a (min (a+1) b):=mw (dm.nil (by omega))
theorem Qg(h:SSeg lt l x a (min i b))(hi:b≤i):SSeg lt l x a b:=by simp_all
def sw(a b m i:Nat):Nat:=if a≤i∧i<a+m then i-a+b else if b≤i∧i<b+m then i-b+a else i
structure SwP(l x:List α)(a b m:Nat):Prop where
 perm:x.Perm l
 at_:∀i,i<l.length→gD x i=gD l (sw a b m i)
theorem SwP.len(h:SwP l x a b m):x.length=l.length:=h.perm.length_eq
theorem SwP.start:SwP l l a b 0:=⟨.refl _,fun i _=>by simp_all[sw,if_neg]⟩
theorem SwP.step(h:SwP l x a b k)(hk:k<m)(ha:a+m≤b)(hb:b+m≤l.length)(hi:i=a+k)(hj:j=b+k)(hs:s=k+1):SwP l ((x.set i (gD x j)).set j (gD x i)) a b s:=by
 subst hi hj hs;have hx:x.length=l.length:=h.perm.length_eq;have h1:a+k<x.length:=by omega
 have h2:b+k<x.length:=by omega
 refine⟨(qR h1 h2).trans h.perm,fun q hq=>?_⟩;rw[xA h1 h2];by_cases c1:q=b+k
 ·rw[if_pos c1,h.at_ _ (by omega)];congr 1;unfold sw;grind
 ·rw[if_neg c1];by_cases c2:q=a+k
  ·rw[if_pos c2,h.at_ _ (by omega)];congr 1;unfold sw;grind
  ·rw[if_neg c2,h.at_ _ (by omega)];congr 1;unfold sw;grind
theorem SwP.done(h:SwP l x a b k)(hk:k=m):SwP l x a b m:=hk▸h
def ro(a m b i:Nat):Nat:=if a≤i∧i<a+(b-m)then i-a+m else if a+(b-m)≤i∧i<b then i-(b-m)else i
structure RoP(l x:List α)(a m b:Nat):Prop where
 perm:x.Perm l
 at_:∀q,q<l.length→gD x q=gD l (ro a m b q)
theorem RoP.len(h:RoP l x a m b):x.length=l.length:=h.perm.length_eq
theorem RoP.cast{p q r:Nat}(h:RoP l x p q r)(hp:p=a)(hq:q=m)(hr:r=b):RoP l x a m b:=by simp_all
structure RoI(l x:List α)(a m b i j:Nat):Prop where
 perm:x.Perm l
 i0:0<i
 j0:0<j
 im:i≤m
 jn:m+j≤l.length
 at_:∀q,q<l.length→gD x (ro (m-i) m (m+j) q)=gD l (ro a m b q)
theorem RoI.len(h:RoI l x a m b i j):x.length=l.length:=h.perm.length_eq
theorem RoI.start(ha:a<m)(hm:m<b)(hb:b≤l.length)(hi:i=m-a)(hj:j=b-m):RoI l l a m b i j:=by
 subst hi hj;refine⟨.refl _,by omega,by omega,by omega,by omega,fun q _=>?_⟩;grind
theorem Vq(ham:a≤m)(hmb:m≤b)(hb:b≤n)(hi:i<n):ro a m b i<n:=by grind[ro]
theorem RoI.left{p q r:Nat}(h:RoI l x a m b i j)(hs:SwP x y p q r)(hp:p=m-i)(hq:q=m)(hr:r=j)(hij:j<i)(hk:k=i-j):RoI l y a m b k j:=by
 subst hk;subst hp;have hq:=hq.symm;subst hq;have hr:=hr.symm;subst hr;have hi:=h.im;have hj:=h.jn;have h0:=h.j0;refine⟨hs.perm.trans h.perm,by omega,h0,by omega,hj,fun q hq=>?_⟩;rw[hs.at_ _ (by rw[h.len];simp_all[Vq]),←h.at_ q hq];congr 1;unfold sw ro;grind
theorem RoI.right{p q r:Nat}(h:RoI l x a m b i j)(hs:SwP x y p q r)(hp:p=m-i)(hq:q=m+j-i)(hr:r=i)(hij:i<j)(hk:k=j-i):RoI l y a m b i k:=by
 subst hk;subst hp;have hq:=hq.symm;subst hq;have hr:=hr.symm;subst hr;have hi:=h.im;have hj:=h.jn;have h0:=h.i0;refine⟨hs.perm.trans h.perm,h0,by omega,hi,by omega,fun q hq=>?_⟩;rw[hs.at_ _ (by rw[h.len];exact Vq (by omega) (by omega) (by omega) hq),←h.at_ q hq];congr 1;unfold sw ro;by_cases c1:m-i≤q∧q<m-i+(m+(j-i)-m)
 ·grind
 ·rw[if_neg c1];by_cases c2:m-i+(m+(j-i)-m)≤q∧q<m+(j-i)
  ·grind
  ·rw[if_neg c2];grind
theorem RoI.stop{p q r:Nat}(h:RoI l x a m b i j)(hs:SwP x y p q r)(hp:p=m-i)(hq:q=m)(hr:r=i)(hij:i=j):RoP l y a m b:=by
 subst hij;subst hp;have hq:=hq.symm;subst hq;have hr:=hr.symm;subst hr;have hi:=h.im;have hj:=h.jn;refine⟨hs.perm.trans h.perm,fun q hq=>?_⟩;rw[hs.at_ _ (by rw[h.len];omega),←h.at_ q hq];congr 1;unfold sw ro;grind
theorem RoP.none(h:m≤a∨b≤m)(ham:a≤m)(hmb:m≤b):RoP l l a m b:=⟨.refl _,fun q _=>by
 congr 1;unfold ro;grind⟩
structure FstI(lt:α→α→Bool)(l:List α)(a m b i j:Nat):Prop where
 mi:m≤i
 ij:i≤j
 jb:j≤b
 lo:∀q,m≤q→q<i→lt (gD l q) (gD l a)=true
 hi:∀q,j≤q→q<b→lt (gD l q) (gD l a)=false
theorem FstI.start(h:m≤b):FstI lt l a m b m b:=⟨by omega,by omega,by omega,fun q _ _=>by omega,fun q _ _=>by omega⟩
theorem FstI.more(T:TotB lt)(h:FstI lt l a m b i j)(hs:dm lt l m b)(hl:lt (gD l k) (gD l a)=true)(h1:i≤k)(h2:k<j)(hk:e=k+1):FstI lt l a m b e j:=by
 subst hk;have:=h.mi;have:=h.jb;refine⟨by omega,by omega,h.jb,fun q q1 q2=>?_,h.hi⟩;exact T.down (hs.le T q1 (by omega) (by omega)) hl
theorem FstI.less(T:TotB lt)(h:FstI lt l a m b i j)(hs:dm lt l m b)(hl:lt (gD l k) (gD l a)=false)(h1:i≤k)(h2:k<j):FstI lt l a m b i k:=by
 have:=h.mi;have:=h.jb;refine⟨h.mi,by omega,by omega,h.lo,fun q q1 q2=>?_⟩;exact T.trans _ _ _ hl (hs.le T (by omega) q1 q2)
structure UpI(l x:List α)(a k:Nat):Prop where
 perm:x.Perm l
 at_:∀q,q<l.length→gD x q=gD l (if a≤q∧q<k then q+1 else if q=k then a else q)
theorem UpI.len(h:UpI l x a k):x.length=l.length:=h.perm.length_eq
theorem UpI.start:UpI l l a a:=⟨.refl _,fun q _=>by grind⟩
theorem UpI.step(h:UpI l x a k)(hk:a≤k)(hn:k+1<l.length)(he:e=k+1):UpI l ((x.set k (gD x e)).set e (gD x k)) a e:=by
 subst he;have hx:=h.len;have h1:k<x.length:=by omega
 have h2:k+1<x.length:=by omega
 refine⟨(qR h1 h2).trans h.perm,fun q hq=>?_⟩;rw[xA h1 h2];by_cases c1:q=k+1
 ·rw[if_pos c1,h.at_ _ (by omega),if_neg (by omega),if_pos rfl,if_neg (by omega),if_pos c1]
 ·rw[if_neg c1];by_cases c2:q=k
  ·rw[if_pos c2,h.at_ _ (by omega),if_neg (by omega),if_neg (by omega),if_pos (by omega),c2]
  ·rw[if_neg c2,h.at_ _ hq];grind
theorem UpI.stop(T:TotB lt)(h:UpI l x a k)(hf:FstI lt l a m b i j)(hs:dm lt l m b)(hma:m=a+1)(hij:j≤i)(hk:k+1=i)(hb:b≤l.length):SSeg lt l x a b:=by
 have q1:=hf.mi;have q2:=hf.ij;have q3:=hf.jb;refine⟨h.perm,fun q hq=>?_,fun q h1 h2=>?_,fun p q h1 h2 h3=>?_⟩
 ·rcases fZ q l.length with c|c
  ·rw[h.at_ q c,if_neg (by omega),if_neg (by omega)]
  ·rw[vt (by rw[h.len];omega),vt c]
 ·rw[h.at_ q (by omega)];grind
 ·rw[h.at_ p (by omega),h.at_ q (by omega)];by_cases c1:p<k
  ·rw[if_pos (show a≤p∧p<k by omega)];by_cases c2:q<k
   ·rw[if_pos (show a≤q∧q<k by omega)];exact hs _ _ (by omega) (by omega) (by omega)
   ·rw[if_neg (show ¬(a≤q∧q<k) by omega)];by_cases c3:q=k
    ·grind[cases TotB,cases FstI]
    ·grind[cases TotB,cases FstI]
  ·rw[if_neg (show ¬(a≤p∧p<k) by omega),if_neg (show ¬(a≤q∧q<k) by omega),if_neg (show ¬q=k by omega)];by_cases c3:p=k
   ·rw[if_pos c3];exact hf.hi _ (by omega) (by omega)
   ·rw[if_neg c3];exact hs _ _ (by omega) (by omega) (by omega)
structure LstI(lt:α→α→Bool)(l:List α)(a m i j:Nat):Prop where
 ai:a≤i
 ij:i≤j
 jm:j≤m
 lo:∀q,a≤q→q<i→lt (gD l m) (gD l q)=false
 hi:∀q,j≤q→q<m→lt (gD l m) (gD l q)=true
theorem LstI.start(h:a≤m):LstI lt l a m a m:=⟨by omega,by omega,by omega,fun q _ _=>by omega,fun q _ _=>by omega⟩
theorem LstI.more(T:TotB lt)(h:LstI lt l a m i j)(hs:dm lt l a m)(hl:lt (gD l m) (gD l k)=false)(h1:i≤k)(h2:k<j)(hk:e=k+1):LstI lt l a m e j:=by
 subst hk;have:=h.ai;have:=h.jm;refine⟨by omega,by omega,h.jm,fun q q1 q2=>?_,h.hi⟩;exact T.trans _ _ _ (hs.le T q1 (by omega) (by omega)) hl
theorem LstI.less(T:TotB lt)(h:LstI lt l a m i j)(hs:dm lt l a m)(hl:lt (gD l m) (gD l k)=true)(h1:i≤k)(h2:k<j):LstI lt l a m i k:=by
 have:=h.ai;have:=h.jm;refine⟨h.ai,by omega,by omega,h.lo,fun q q1 q2=>?_⟩;exact T.up hl (hs.le T (by omega) q1 q2)
structure DnI(l x:List α)(m k:Nat):Prop where
 perm:x.Perm l
 at_:∀q,q<l.length→gD x q=gD l (if k<q∧q≤m then q-1 else if q=k then m else q)
theorem DnI.len(h:DnI l x m k):x.length=l.length:=h.perm.length_eq
theorem DnI.start:DnI l l m m:=⟨.refl _,fun q _=>by grind⟩
theorem DnI.step(h:DnI l x m k)(hk:k≤m)(hn:m<l.length)(he:e+1=k):DnI l ((x.set k (gD x e)).set e (gD x k)) m e:=by
 subst he;have hx:=h.len;have h1:e+1<x.length:=by omega
 have h2:e<x.length:=by omega
 refine⟨(qR h1 h2).trans h.perm,fun q hq=>?_⟩;rw[xA h1 h2];by_cases c1:q=e
 ·rw[if_pos c1,h.at_ _ (by omega),if_neg (by omega),if_pos rfl,if_neg (by omega),if_pos c1]
 ·rw[if_neg c1];by_cases c2:q=e+1
  ·rw[if_pos c2,h.at_ _ (by omega),if_neg (by omega),if_neg (by omega),if_pos (by omega)];simp_all
  ·rw[if_neg c2,h.at_ _ hq];grind
theorem DnI.stop(T:TotB lt)(h:DnI l x m k)(hf:LstI lt l a m i j)(hs:dm lt l a m)(hmb:b=m+1)(hij:j≤i)(hk:k=i)(hb:b≤l.length):SSeg lt l x a b:=by
 have q1:=hf.ai;have q2:=hf.ij;have q3:=hf.jm;refine⟨h.perm,fun q hq=>?_,fun q h1 h2=>?_,fun p q h1 h2 h3=>?_⟩
 ·rcases fZ q l.length with c|c
  ·rw[h.at_ q c,if_neg (by omega),if_neg (by omega)]
  ·rw[vt (by rw[h.len];omega),vt c]
 ·rw[h.at_ q (by omega)];grind
 ·rw[h.at_ p (by omega),h.at_ q (by omega)];by_cases c1:q≤k
  ·rw[if_neg (show ¬(k<q∧q≤m) by omega),if_neg (show ¬(k<p∧p≤m) by omega),if_neg (show ¬p=k by omega)];by_cases c3:q=k
   ·rw[if_pos c3];exact hf.lo _ h1 (by omega)
   ·rw[if_neg c3];exact hs _ _ h1 h2 (by omega)
  ·rw[if_pos (show k<q∧q≤m by omega)];by_cases c2:k<p
   ·rw[if_pos (show k<p∧p≤m by omega)];exact hs _ _ (by omega) (by omega) (by omega)
   ·rw[if_neg (show ¬(k<p∧p≤m) by omega)];by_cases c3:p=k
    ·grind[cases TotB,cases LstI]
    ·rw[if_neg c3];exact hs _ _ h1 (by omega) (by omega)
structure CutI(lt:α→α→Bool)(l:List α)(lo hi p i j:Nat):Prop where
 li:lo≤i
 ij:i≤j
 jh:j≤hi
 low:∀c,lo≤c→c<i→lt (gD l (p-c)) (gD l c)=false
 high:∀c,j≤c→c<hi→lt (gD l (p-c)) (gD l c)=true
variable{lo hi:Nat}
theorem CutI.start(h:lo≤hi):CutI lt l lo hi p lo hi:=⟨by omega,by omega,by omega,fun q _ _=>by omega,fun q _ _=>by omega⟩
theorem CutI.more(T:TotB lt)(h:CutI lt l lo hi p i j)(hA:dm lt l a m)(hB:dm lt l m b)(hl:lt (gD l s) (gD l k)=false)(b1:a≤lo)(b2:hi≤m)(b3:m+hi≤p+1)(b4:p<b+lo)(h1:i≤k)(h2:k<j)(hk:e=k+1)(hs:s=p-k):CutI lt l lo hi p e j:=by
 subst hk hs;have:=h.li;have:=h.jh;refine⟨by omega,by omega,h.jh,fun c c1 c2=>?_,h.high⟩;exact T.trans _ _ _ (hA.le T (i:=c) (j:=k) (by omega) (by omega) (by omega)) (T.trans _ _ _ hl (hB.le T (i:=p-k) (j:=p-c) (by omega) (by omega) (by omega)))
theorem CutI.less(T:TotB lt)(h:CutI lt l lo hi p i j)(hA:dm lt l a m)(hB:dm lt l m b)(hl:lt (gD l s) (gD l k)=true)(b1:a≤lo)(b2:hi≤m)(b3:m+hi≤p+1)(b4:p<b+lo)(h1:i≤k)(h2:k<j)(hs:s=p-k):CutI lt l lo hi p i k:=by
 subst hs;have:=h.li;have:=h.jh;refine⟨h.li,by omega,by omega,h.low,fun c c1 c2=>?_⟩;exact T.down (hB.le T (i:=p-c) (j:=p-k) (by omega) (by omega) (by omega)) (T.up hl (hA.le T (i:=k) (j:=c) (by omega) (by omega) (by omega)))
theorem NI(T:TotB lt)(h:CutI lt l lo hi p s s)(hA:dm lt l a m)(hB:dm lt l m b)(hr:RoP l y s m e)(hab:b≤l.length)
  (d1:d+m=p+1)(e1:e+s=p+1)(f1:a≤s)(f2:s≤m)(f3:m≤e)(f4:e≤b)(f5:lo<s∨s=a∨e=b)(f6:s<hi∨s=m∨e=m):
  ∀i j,a≤i→i<d→d≤j→j<b→lt (gD y j) (gD y i)=false:=by
 intro i j h1 h2 h3 h4;rw[hr.at_ i (by omega),hr.at_ j (by omega)];unfold ro;by_cases c1:i<s
 ·rw[if_neg (show ¬(s≤i∧i<s+(e-m)) by omega),if_neg (show ¬(s+(e-m)≤i∧i<e) by omega)];rw[if_neg (show ¬(s≤j∧j<s+(e-m)) by omega)];by_cases c2:j<e
  ·rw[if_pos (show s+(e-m)≤j∧j<e by omega)];exact hA.le T h1 (by omega) (by omega)
  ·rw[if_neg (show ¬(s+(e-m)≤j∧j<e) by omega)];have hc:=h.low (s-1) (by omega) (by omega);rw[show p-(s-1)=e by omega]at hc;exact T.trans _ _ _ (hA.le T (i:=i) (j:=s-1) h1 (by omega) (by omega)) (T.trans _ _ _ hc (hB.le T (i:=e) (j:=j) (by omega) (by omega) h4))
 ·rw[if_pos (show s≤i∧i<s+(e-m) by omega),if_neg (show ¬(s≤j∧j<s+(e-m)) by omega)];by_cases c2:j<e
  ·rw[if_pos (show s+(e-m)≤j∧j<e by omega)];have hc:=h.high s (by omega) (by omega);rw[show p-s=e-1 by omega]at hc;refine T.asym _ _ (T.up (T.down (hB.le T (i:=i-s+m) (j:=e-1) (by omega) (by omega) (by omega)) hc) (hA.le T (i:=s) (j:=j-(e-m)) (by omega) (by omega) (by omega)))
  ·rw[if_neg (show ¬(s+(e-m)≤j∧j<e) by omega)];exact hB.le T (by omega) (by omega) h4
theorem RoP.left(hr:RoP l y s m e)(hA:dm lt l a m)(f2:s≤m)(f3:m≤e)(f4:e≤l.length):dm lt y a s:=fun i j h1 h2 h3=>by
 rw[hr.at_ i (by omega),hr.at_ j (by omega)];unfold ro;rw[if_neg (by omega),if_neg (by omega),if_neg (by omega),if_neg (by omega)];exact hA i j h1 h2 (by omega)
theorem RoP.mid1(hr:RoP l y s m e)(hB:dm lt l m b)(f3:m≤e)(f4:e≤b)(f2:s≤m)(hb:b≤l.length)(hd:d=s+(e-m)):dm lt y s d:=fun i j h1 h2 h3=>by
 rw[hr.at_ i (by omega),hr.at_ j (by omega)];unfold ro;rw[if_pos (by omega),if_pos (by omega)];exact hB _ _ (by omega) (by omega) (by omega)
theorem RoP.mid2(hr:RoP l y s m e)(hA:dm lt l a m)(f1:a≤s)(f2:s≤m)(f3:m≤e)(f4:e≤l.length)(hd:d=s+(e-m)):dm lt y d e:=fun i j h1 h2 h3=>by
 rw[hr.at_ i (by omega),hr.at_ j (by omega)];unfold ro;rw[if_neg (by omega),if_pos (by omega),if_neg (by omega),if_pos (by omega)];exact hA _ _ (by omega) (by omega) (by omega)
theorem RoP.right(hr:RoP l y s m e)(hB:dm lt l m b)(f2:s≤m)(f3:m≤e)(hb:b≤l.length):dm lt y e b:=fun i j h1 h2 h3=>by
 rw[hr.at_ i (by omega),hr.at_ j (by omega)];unfold ro;rw[if_neg (by omega),if_neg (by omega),if_neg (by omega),if_neg (by omega)];exact hB i j (by omega) h2 h3
theorem RoP.lower(hr:RoP l y s m e)(hA:dm lt l a m)(hB:dm lt l m b)(hd:d+m=s+e)(h:s≤a∨d≤s)(f1:a≤s)(f2:s≤m)(f3:m≤e)(f4:e≤b)(hb:b≤l.length):dm lt y a d:=by
 rcases h with h|h
 ·have:=hr.mid1 hB f3 f4 f2 hb (d:=d) (by omega);grind
 ·have:=hr.left hA f2 f3 (by omega);grind
theorem RoP.upper(hr:RoP l y s m e)(hA:dm lt l a m)(hB:dm lt l m b)(hd:d+m=s+e)(h:b≤e∨e≤d)(f1:a≤s)(f2:s≤m)(f3:m≤e)(f4:e≤b)(hb:b≤l.length):dm lt y d b:=by
 rcases h with h|h
 ·have:=hr.mid2 hA f1 f2 f3 (by omega) (d:=d) (by omega);grind
 ·have:=hr.right hB f2 f3 hb;grind
theorem Wu(hr:RoP l y s m e)(hz:SSeg lt y z a d)(hw:SSeg lt z w d b)(had:a≤d)(hdb:d≤b)(hb:b≤l.length)(f1:a≤s)(f2:s≤m)(f3:m≤e)(f4:e≤b)
  (hx:∀i j,a≤i→i<d→d≤j→j<b→lt (gD y j) (gD y i)=false):SSeg lt l w a b:=by
 have hro:∀q,a≤q→q<b→a≤ro s m e q∧ro s m e q<b:=fun q h1 h2=>by grind[ro]
 have hy:∀q,q<a∨b≤q→gD y q=gD l q:=fun q hq=>by
  rcases fZ q l.length with c|c
  ·rw[hr.at_ q c];congr 1;unfold ro;grind
  ·rw[vt (by rw[hr.len];omega),vt c]
 refine⟨hw.perm.trans (hz.perm.trans hr.perm),fun q hq=>?_,fun q h1 h2=>?_,fun i j h1 h2 h3=>?_⟩
 ·grind[cases SSeg]
 ·rcases fZ q d with c|c
  ·obtain⟨j,j1,j2,j3⟩:=hz.src q h1 c;have:=hro j j1 (by omega);exact⟨_,this.1,this.2,by rw[hw.out q (.inl c),j3,hr.at_ j (by omega)]⟩
  ·obtain⟨j,j1,j2,j3⟩:=hw.src q c h2;have:=hro j (by omega) j2;exact⟨_,this.1,this.2,by rw[j3,hz.out j (.inr j1),hr.at_ j (by omega)]⟩
 ·rcases fZ j d with c|c
  ·rw[hw.out i (.inl (by omega)),hw.out j (.inl c)];exact hz.srt i j h1 h2 c
  ·rcases fZ i d with c2|c2
   ·obtain⟨i',i1,i2,i3⟩:=hz.src i h1 c2;obtain⟨j',j1,j2,j3⟩:=hw.src j c h3;rw[hw.out i (.inl c2),i3,j3,hz.out j' (.inr j1)];simp_all
   ·exact hw.srt i j c2 h2 h3
theorem vd(T:TotB lt)(h:CutI lt l lo hi p i s)(hA:dm lt l a m)(hB:dm lt l m b)(hr:RoP l y i m e)(hz:SSeg lt y z a d)(hw:SSeg lt z w d b)(his:s≤i)(hd:d+m=p+1)(he:e+i=p+1)(had:a≤d)(hdb:d≤b)(hb:b≤l.length)(f1:a≤i)(f2:i≤m)(f3:m≤e)(f4:e≤b)(f5:lo<i∨i=a∨e=b)(f6:i<hi∨i=m∨e=m):SSeg lt l w a b:=by
 have:i=s:=Nat.le_antisymm h.ij his;grind[Wu,NI]
theorem SSeg.keep(h:SSeg lt l x a b)(hs:dm lt l i j)(hd:j≤a∨b≤i):dm lt x i j:=fun p q h1 h2 h3=>by rw[h.out p (by omega),h.out q (by omega)];exact hs p q h1 h2 h3
def Ox(lt:α→α→Bool)(x:List α)(s n:Nat):Prop:=∀c,dm lt x (c*s) (min ((c+1)*s) n)
theorem rb{t c d:Nat}(h:a=d*t):(c+1)*t≤a∨c=d∨a+t≤c*t:=by
 subst h;rcases Nat.lt_trichotomy c d with q|q|q
 ·exact .inl (eA _ q)
 ·omega
 ·refine .inr (.inr ?_);have:=eA t q;grind
structure BlkA(lt:α→α→Bool)(l x:List α)(s a:Nat):Prop where
 perm:x.Perm l
 dv:∃c,a=c*s
 ok:∀c,dm lt x (c*s) (min ((c+1)*s) a)
theorem BlkA.len(h:BlkA lt l x s a):x.length=l.length:=h.perm.length_eq
theorem BlkA.start:BlkA lt l l s 0:=⟨.refl _,⟨0,by omega⟩,fun c=>dm.nil (by omega)⟩
theorem BlkA.step(h:BlkA lt l x s a)(hy:SSeg lt x y a b)(hb:b=a+s):BlkA lt l y s b:=by
 obtain⟨d,hd⟩:=h.dv;subst hb;refine⟨hy.perm.trans h.perm,⟨d+1,by grind⟩,fun c=>?_⟩;rcases rb (c:=c) hd with q|q|q
 ·have:=h.ok c;rw[show min ((c+1)*s) a=(c+1)*s by omega]at this;rw[show min ((c+1)*s) (a+s)=(c+1)*s by omega];exact hy.keep this (.inl q)
 all_goals grind[dm.nil,cases SSeg]
theorem BlkA.last(h:BlkA lt l x s a)(hy:SSeg lt x y a n)(hn:n<a+s)(ha:a≤n):y.Perm l∧Ox lt y s n:=by
 obtain⟨d,hd⟩:=h.dv;refine⟨hy.perm.trans h.perm,fun c=>?_⟩;rcases rb (c:=c) hd with q|q|q
 ·have:=h.ok c;rw[show min ((c+1)*s) a=(c+1)*s by omega]at this;rw[show min ((c+1)*s) n=(c+1)*s by omega];exact hy.keep this (.inl q)
 all_goals grind[dm.nil,cases SSeg]
structure BlkB(lt:α→α→Bool)(l x:List α)(s a n:Nat):Prop where
 perm:x.Perm l
 dv:∃c,a=c*(2*s)
 ok:∀c,dm lt x (c*(2*s)) (min ((c+1)*(2*s)) a)
 rest:∀c,a≤c*s→dm lt x (c*s) (min ((c+1)*s) n)
theorem BlkB.len(h:BlkB lt l x s a n):x.length=l.length:=h.perm.length_eq
theorem BlkB.start(h:x.Perm l∧Ox lt x s n):BlkB lt l x s 0 n:=⟨h.1,⟨0,by omega⟩,fun c=>dm.nil (by omega),fun c _=>h.2 c⟩
theorem BlkB.pre1(h:BlkB lt l x s a n)(hm:m=a+s)(hn:m≤n):dm lt x a m:=by
 obtain⟨d,hd⟩:=h.dv;have e:a=(d*2)*s:=by grind
 have:=h.rest (d*2) (by omega);grind
theorem BlkB.pre2(h:BlkB lt l x s a n)(hm:m=a+s)(hb:b≤m+s)(hn:b≤n):dm lt x m b:=by
 obtain⟨d,hd⟩:=h.dv;have e:a=(d*2)*s:=by grind
 have e2:m=(d*2+1)*s:=by grind
 have:=h.rest (d*2+1) (by omega);rw[←e2,pM,←e2]at this;exact this.sub (au _) (by omega)
theorem BlkB.step(h:BlkB lt l x s a n)(hy:SSeg lt x y a b)(hb:b=a+2*s):BlkB lt l y s b n:=by
 obtain⟨d,hd⟩:=h.dv;subst hb;refine⟨hy.perm.trans h.perm,⟨d+1,by grind⟩,fun c=>?_,fun c hc=>hy.keep (h.rest c (by omega)) (.inr hc)⟩;rcases rb (c:=c) hd with q|q|q
 ·have:=h.ok c;rw[show min ((c+1)*(2*s)) a=(c+1)*(2*s) by omega]at this;rw[show min ((c+1)*(2*s)) (a+2*s)=(c+1)*(2*s) by omega];exact hy.keep this (.inl q)
 all_goals grind[dm.nil,cases SSeg]
theorem BlkB.last(h:BlkB lt l x s a n)(hy:SSeg lt x y a n)(hn:n<a+2*s)(ht:d=2*s)(ha:a≤n):y.Perm l∧Ox lt y d n:=by
 subst ht;obtain⟨d,hd⟩:=h.dv;refine⟨hy.perm.trans h.perm,fun c=>?_⟩;rcases rb (c:=c) hd with q|q|q
 ·have:=h.ok c;rw[show min ((c+1)*(2*s)) a=(c+1)*(2*s) by omega]at this;rw[show min ((c+1)*(2*s)) n=(c+1)*(2*s) by omega];exact hy.keep this (.inl q)
 all_goals grind[dm.nil,cases SSeg]
theorem BlkB.one(h:BlkB lt l x s a n)(hn:n≤a+s):SSeg lt x x a n:=by
 obtain⟨d,hd⟩:=h.dv;have e:a=(d*2)*s:=by grind
 have:=h.rest (d*2) (by omega);simp_all[pM,mw]
theorem Ox.all(h:Ox lt x s n)(hn:n≤s):dm lt x 0 n:=by
 have:=h 0;simp_all
theorem dm.pair:∀{x:List α},dm lt x 0 x.length→x.Pairwise fun u v=>lt v u=false
 |[],_=>.nil
 | u::r,h=>ic.2 ⟨fun v hv=>by
   obtain⟨i,hi,rfl⟩:=EP hv;have:=h 0 (i+1) (by omega) (by omega) (by simp_all);have e:gD (u::r) (i+1)=r[i]:=by grind[gD]
   rw[e]at this;exact this,dm.pair fun i j _ h2 h3=>h (i+1) (j+1) (by omega) (by omega) (by simp_all)⟩
end
section
variable{α:Type}{lt:α→α→Bool}
theorem CV:∀{x y:List α},x.Pairwise (fun u v=>lt v u=false)→y.Pairwise (fun u v=>lt v u=false)→x.Perm y→(∀u v,u∈x→v∈x→lt u v=false→lt v u=false→u=v)→x=y
 |[],y,_,_,hp,_=>hp.nil_eq
 |u::r,[],_,_,hp,_=>by simp_all
 |u::r,v::t,hx,hy,hp,H=>by
  obtain⟨x1,x2⟩:=ic.1 hx;obtain⟨y1,y2⟩:=ic.1 hy;have hv:v∈u::r:=hp.mem_iff.2 (eu ..);have hu:u∈v::t:=hp.mem_iff.1 (eu ..);have e:u=v:=by grind
  subst e;rw[CV x2 y2 ((List.perm_cons u).1 hp) fun a b ha hb=>H a b (eN _ ha) (eN _ hb)]
def DP(lt:α→α→Bool)(a:α):List α→List α
 |[]=>[a]
 |b::r=>match lt b a with|true=>b::DP lt a r|false=>a::b::r
def PQ(lt:α→α→Bool)(l:List α):List α:=l.foldl (fun o a=>DP lt a o) []
theorem vo(a:α):∀(l:List α),(DP lt a l).Perm (a::l)
 |[]=>.refl _
 |b::r=>by
  unfold DP;cases lt b a with
  |true=>exact((vo a r).cons b).trans (.swap a b r)
  |false=>simp_all
theorem Cn(T:TotB lt)(a:α):∀{l:List α},l.Pairwise (fun u v=>lt v u=false)→(DP lt a l).Pairwise (fun u v=>lt v u=false)
 |[],_=>List.pairwise_singleton ..
 | b::r,h=>by
  obtain⟨h1,h2⟩:=ic.1 h;unfold DP;cases q:lt b a with
  |true=>
   refine ic.2 ⟨fun v hv=>?_,Cn T a h2⟩;grind[vo,cases TotB]
  |false=>
   refine ic.2 ⟨fun v hv=>?_,h⟩;grind[cases TotB]
theorem yF(T:TotB lt):∀(l o:List α),o.Pairwise (fun u v=>lt v u=false)→((l.foldl (fun o a=>DP lt a o) o).Perm (o++l)∧(l.foldl (fun o a=>DP lt a o) o).Pairwise fun u v=>lt v u=false)
 |[],o,h=>⟨by simp_all,h⟩
 |a::r,o,h=>by
  obtain⟨h1,h2⟩:=yF T r (DP lt a o) (Cn T a h);refine⟨h1.trans ?_,h2⟩;exact((vo a o).append_right r).trans (List.perm_middle.symm)
theorem yE(T:TotB lt)(l:List α):(PQ lt l).Perm l:=(yF T l [] .nil).1
theorem O9(T:TotB lt){l x:List α}(hp:x.Perm l)(hs:x.Pairwise fun u v=>lt v u=false)(H:∀u v,u∈l→v∈l→lt u v=false→lt v u=false→u=v):x=PQ lt l:=CV hs (yF T l [] .nil).2 (hp.trans (yE T l).symm) fun u v hu hv=>H u v (hp.mem_iff.1 hu) (hp.mem_iff.1 hv)
end
end Go.Ev
namespace Go.Ev
open Go
theorem VRel.unren{ρ:Nat→Nat}{n:Nat}{pl pl2:Pl}{M:dt}{v:AV}{x:Value}(h:VRel pl2 M v x)(hp:∀id p,id<n→pl2 id=some p→pl (ρ id)=some p)(ht:v.top≤n):VRel pl M (Ev.ren ρ v) x:=by
 have gt:∀{xs:List AV}{i:Nat}{z:AV},(xs.map (Ev.ren ρ))[i]?=some z→∃y,xs[i]?=some y∧z=Ev.ren ρ y:=by grind
 have tp:∀{xs:List AV}{i j:Nat}{z y:AV},aq xs≤n→xs[i]?=some z→z.cells[j]?=some y→y.top≤n:=by
  intro xs i j x y h1 h2 h3;exact kG (dD.1 h1 x (bg h2)) (bg h3)
 have sc:∀{xs:List AV}{sz:Nat},(∀x,x∈xs→x.cells.length=sz∧Sc x)→∀x,x∈xs.map (Ev.ren ρ)→x.cells.length=sz∧Sc x:=by
  intro xs sz h x hx;obtain⟨y,hy,rfl⟩:=kw.1 hx;obtain⟨h1,h2⟩:=h y hy;rw[fL];refine⟨by simp_all,fun u hu=>?_⟩;rw[fL]at hu;obtain⟨z,hz,rfl⟩:=kw.1 hu;rw[nN];exact h2 z hz
 have cel:∀{xs:List AV}{c:Array Value}{o sz:Nat},aq xs≤n→(∀i x j y,xs[i]?=some x→x.cells[j]?=some y→y.top≤n→VRel pl M (Ev.ren ρ y) (c.getD (o+i*sz+j) undef))→
   ∀i x j y,(xs.map (Ev.ren ρ))[i]?=some x→x.cells[j]?=some y→VRel pl M y (c.getD (o+i*sz+j) undef):=by
  intro xs c o sz ht h i x j y h1 h2;obtain⟨x0,e1,rfl⟩:=gt h1;rw[fL]at h2;grind
 induction h with
 |bool b=>exact .bool b
 |int k n=>exact .int k n
 |str s=>exact .str s
 |nilp=>exact .nilp
 |ptr h1 h2 h3=>simp only[AV.top]at ht;exact .ptr (hp _ _ (by omega) h1) h2 h3
 |pptr hm hs hi hc ih=>
  simp only[AV.top]at ht;simp only[Ev.ren,fJ];exact .pptr ⟨hm.1,hm.2.1,by simp_all,hm.2.2.2⟩ (sc hs) (by simp_all) (cel ht fun i x j y h1 h2 h3=>ih i x j y h1 h2 h3)
 |nils=>exact .nils
 |slice h1 h2 h3 h4 h5=>simp only[AV.top]at ht;exact .slice (hp _ _ (by omega) h1) h2 h3 h4 h5
 |sl0n _ ih=>exact .sl0n (ih (bG _))
 |sl0s _ ih=>exact .sl0s (ih ht)
 |ps hl ht' hm hs hc ih=>
  simp only[AV.top]at ht;simp only[Ev.ren,fJ];have:=VRel.ps (pl:=pl) (xs:=_) (by simpa using hl) (by simpa using ht') (by simp_all) (sc hs) (cel ht fun i x j y h1 h2 h3=>ih i x j y h1 h2 h3);simp_all
 |lsn=>exact .lsn
 |lsp h ht0 ih=>
  have:=ih (by grind[AV.top]);simp only[Ev.ren,eS ρ _ ht0]at this;exact .lsp this ht0
 |nilm=>exact .nilm
 |map h1 h2=>simp only[AV.top]at ht;exact .map (hp _ _ (by omega) h1) h2
 |func h1 h2 _ _ ih1 ih2=>
  simp only[AV.top,qj]at ht;simp only[Ev.ren,fJ];refine .func (by simp_all) (by simp_all) (fun j y hj=>?_) (fun j y hj=>?_)
  ·obtain⟨z,e,rfl⟩:=gt hj;exact ih1 j z e (dD.1 ht.1 z (bg e))
  ·obtain⟨z,e,rfl⟩:=gt hj;exact ih2 j z e (dD.1 ht.2 z (bg e))
 |nilf=>exact .nilf
 |iface _ ih=>simp only[AV.top]at ht;exact .iface (ih ht)
 |nili=>exact .nili
 |agg h1 h2 _ ih=>
  simp only[AV.top]at ht;simp only[Ev.ren,fJ];refine .agg (by simp_all) (fun y hy=>?_) (fun j y hj=>?_)
  ·grind[nN]
  ·obtain⟨z,e,rfl⟩:=gt hj;exact ih j z e (dD.1 ht z (bg e))
 |tuple h1 _ ih=>
  simp only[AV.top]at ht;simp only[Ev.ren,fJ];refine .tuple (by simp_all) (fun j y hj=>?_);obtain⟨z,e,rfl⟩:=gt hj;exact ih j z e (dD.1 ht z (bg e))
def ep0:AObj→Bool
 | .row _ _ e _=>Nat.beq e 0
 | .map _ _=>true
 |_=>false
theorem bp.ep0{pl:Pl}{M:dt}{p:Place}{o:AObj}{x:Option Obj}(h:bp pl M p o x)(he:Ev.ep0 o=true):p.ep=0:=by
 match o,x with
 | .row sz op ep xs,some (.cells c t fr)=>rw[h.1];exact pE he
 | .map es clock,some (.map entries clock')=>exact h.1
theorem Ua{ρ:Nat→Nat}{o:AObj}:ep0 (j6 ρ o)=ep0 o:=by cases o<;>rfl
theorem bp.unren{ρ:Nat→Nat}{n:Nat}{pl pl2:Pl}{M:dt}{o:AObj}{p:Place}{x:Option Obj}(h:bp pl2 M p o x)(he:Ev.ep0 o=true)(hp:∀id p,id<n→pl2 id=some p→pl (ρ id)=some p)(ht:o.top≤n):bp pl M p (j6 ρ o) x:=by
 match o,x with
 | .row sz op ep xs,some (.cells c t fr)=>
  obtain⟨h1,h2,h3,h4,h5,h6,h7,h8⟩:=h;simp only[AObj.top]at ht;have gt:∀{xs:List AV}{i:Nat}{z:AV},(xs.map (Ev.ren ρ))[i]?=some z→∃y,xs[i]?=some y∧z=Ev.ren ρ y:=by grind
  simp only[j6,fJ];refine⟨h1,h2,by simp_all,h4,h5,h6,by simp_all,⟨by simpa using h8.fit,fun y hy=>?_,fun i z j y k1 k2=>?_⟩⟩
  ·obtain⟨z,hz,rfl⟩:=kw.1 hy;obtain⟨q1,q2⟩:=h8.elem z hz;rw[fL];refine⟨by simp_all,fun u hu=>?_⟩;rw[fL]at hu;obtain⟨z,hz,rfl⟩:=kw.1 hu;rw[nN];exact q2 z hz
  ·obtain⟨z0,e1,rfl⟩:=gt k1;rw[fL]at k2;obtain⟨y0,e2,rfl⟩:=gt k2;exact(h8.cell i z0 j y0 e1 e2).unren hp (kG (dD.1 ht z0 (bg e1)) (bg e2))
 | .map es clock,some (.map entries clock')=>
  obtain⟨h1,h2,h3,h4⟩:=h;simp only[AObj.top]at ht;simp only[j6,qV];refine⟨h1,h2,by simp_all,fun i e hi=>?_⟩;rw[pL]at hi;cases hx:es[i]? with
  |none=>grind
  |some e0=>
   rw[hx]at hi;cases hi
   obtain⟨e',k1,k2,k3,k4⟩:=h4 i e0 hx;have:=pZ.1 ht e0 (bg hx);exact⟨e',k1,k2.unren hp this.1,k3.unren hp this.2,k4⟩
theorem aI.frame{P:Program}{G:eC}(hG:iP G){f:FuncId}{args:List AV}{v:AV}(ρ:Nat→Nat){L L':List AObj}(hl:L'.length=L.length)
  (hL:∀o,o∈L→ep0 o=true∧o.top≤L.length)(hL':∀o,o∈L'→ep0 o=true∧o.top≤L.length)(hm:∀i o,L'[i]?=some o→(av L').get i=some o)(ht:aq args≤L.length)(hv:v.top≤L.length)
  (hi:∀i j,i<L.length→j<L.length→ρ i=ρ j→i=j)
  (h0:aI P G f args (av L) (fun v1 h1=>v1=v∧h1=av L')){h h':AHeap}(hg:∀i o,L[i]?=some o→h.get (ρ i)=some (j6 ρ o))
  (hg':∀k o,h'.get k=some o→(∃i o',L'[i]?=some o'∧k=ρ i∧o=j6 ρ o')∨((∀i,i<L.length→k≠ρ i)∧h.get k=some o))(hn:h'.n=h.n):
  aI P G f (lp ρ args) h (fun v1 h1=>v1=Ev.ren ρ v∧h1=h'):=by
 intro pl M w vs hG1 hr hvs;obtain⟨n,en⟩:∃n,n=L.length:=⟨_,rfl⟩
 rw[←en]at hL hL' ht hi hg' hv;have hat:∀i,i<n→∃o,L[i]?=some o∧o∈L:=fun i h=>⟨L[i],lh (by omega),DK _⟩
 have hat':∀i,i<n→∃o,L'[i]?=some o∧o∈L':=fun i h=>⟨L'[i]'(by omega),lh (by omega),DK _⟩
 have hpl1:∀k q,jC ρ n pl k=some q→k<n∧pl (ρ k)=some q:=fun k q hk=>by grind[jC]
 have hnH:(av L).n=n:=en.symm;have hnH':(av L').n=n:=hl.trans en.symm;have hr1:cD (jC ρ n pl) M (av L) w:=by
  refine⟨fun k q hk=>?_,fun k q o hk hgo=>?_,fun k q hk=>?_,fun k k' q q' hk hk' e=>?_,hr.imm,fun k q hk=>?_⟩
  ·simp_all
  ·obtain⟨hk1,hk2⟩:=hpl1 k q hk;have:=nK hgo;exact(hr.obj (ρ k) q _ hk2 (hg k o this)).ren (hL o (bg this)).2
  ·exact hr.blk _ q (hpl1 k q hk).2
  ·obtain⟨a1,a2⟩:=hpl1 k q hk;obtain⟨b1,b2⟩:=hpl1 k' q' hk';exact hi k k' a1 b1 (hr.inj _ _ q q' a2 b2 e)
  ·exact hr.sep _ q (hpl1 k q hk).2
 have hvs1:VRels (jC ρ n pl) M args vs:=⟨by rw[←hvs.len,fJ,cX],fun j y hj=>(hvs.at_ j (Ev.ren ρ y) (by grind[fJ])).ren rfl (dD.1 ht y (bg hj))⟩
 have hG1':pj G (jC ρ n pl) M:=hG1.none hG;have fin:∀cv w',iZ (jC ρ n pl) M (av L) w v (av L') cv w'→iZ pl M h w (Ev.ren ρ v) h' cv w':=by
  intro cv w' ⟨pl2,M2,k1,k2,k3,k4⟩;have kept:∀b,b<w.heap.size→(∀i q,i<n→pl (ρ i)=some q→q.blk≠b)→w'.heap[b]?=w.heap[b]?:=fun b hb hne=>k3.kept b hb fun k q hk _=>hne k q (hpl1 k q hk).1 (hpl1 k q hk).2
  have same:∀i,i<n→pl2 i=pl (ρ i):=by
   intro i hin;cases hp:pl (ρ i)with
   |none=>exact k3.new i (by omega) (by simp_all[jC])
   |some p=>
    obtain⟨p2,e1,e2,e3⟩:=k3.ext i p (tk hin hp);obtain⟨o,h1,h2⟩:=hat i hin;obtain⟨o',h1',h2'⟩:=hat' i hin;have q1:p.ep=0:=(hr.obj (ρ i) p _ hp (hg i o h1)).ep0 (by grind[Ua]);have q2:p2.ep=0:=(k2.obj i p2 o' e1 (hm i o' h1')).ep0 (hL' o' h2').1;simp_all
  have hun:∀id p,id<n→pl2 id=some p→pl (ρ id)=some p:=fun id p h1 h2=>by simp_all
  refine⟨pl,M2,k1.unren hun hv,⟨fun k q hk=>by rw[hn];exact hr.dom k q hk,fun k q o hk hgo=>?_,fun k q hk=>ET (hr.blk k q hk) k3.size,hr.inj,k2.imm,fun k q hk=>?_⟩,⟨m8.refl _,fun _ _ h=>h,k3.mem,k3.size,fun b hb hk=>kept b hb fun i q hin hp e=>?_,fun k q hk=>.inl ⟨q,hk,rfl⟩,fun k q hk hno=>?_,fun _ _ h _=>h,k3.memNew,k3.os,k3.tape,k3.out,k3.drawn⟩,v9 hn.symm⟩
  ·rcases hg' k o hgo with⟨i,o',h1,rfl,rfl⟩|⟨hne,hgo⟩
   ·have hin:i<n:=by grind
    have hm':=bg h1;exact(k2.obj i q o' (by simp_all) (hm i o' h1)).unren (hL' o' hm').1 hun (hL' o' hm').2
   ·rw[kept _ (hr.blk k q hk) fun i q' hin hp e=>hne i hin (hr.inj _ _ q q' hk hp e.symm)];exact(hr.obj k q o hk hgo).mono (m8.refl _) k3.mem
  ·cases hM:M2 q.blk with
   |none=>rfl
   |some c2=>
    rcases k3.memNew _ c2 hM with k5|k5
    ·rw[hr.sep k q hk]at k5;grind
    ·have:=hr.blk k q hk;omega
  ·grind
  ·cases hq:h'.get k with
   |none=>rfl
   |some o=>grind
 rcases h0 (jC ρ n pl) M w vs hG1' hr1 hvs1 with⟨h1,h2⟩|⟨cv,w',v1,h1,q1,⟨q2,q3⟩,q4⟩
 ·exact .inl ⟨h1,Calls.mono h2 fun e w' ⟨cv,v1,h1,k1,⟨k2,k3⟩,k4⟩=>⟨cv,Ev.ren ρ v,h',k1,⟨rfl,rfl⟩,by simp_all⟩⟩
 ·exact .inr ⟨cv,w',Ev.ren ρ v,h',q1,⟨rfl,rfl⟩,by simp_all⟩
end Go.Ev
namespace Go.Ev
open Go
section
variable{P:Program}{G:eC}{call:cZ}{m:Nat}{c:Code}{d:D}{s s':St}{ops:Array Oper}
theorem DS(hm:P.follows .mixedOrders=true)(hG:iP G)(hc:cL P G call)(d:D)(e:(WP P G call m c).run d s (fun e _ s=>e=.normal∧s=s')=(AExit.normal=.normal∧s'=s')):aA P G (some m) c s (fun e s=>e=.normal∧s=s'):=VB hm hG hc c d s _ _ (e▸⟨rfl,rfl⟩) fun _ _ _ _ h=>h
theorem xG(hG:iP G)(hc:cL P G call){id:Nat}{Ψ:St→Prop}(d:D){W:Prop}(p:W)(e:Xr P G call m ops ops.toList d s (fun _ s=>Ψ s)=W):aA P G (some m) (.region id ops false) s (fun e s=>e=.normal∧Ψ s):=aA.region (gY hG hc _ d s _ (e▸p) fun _ _ _ h=>⟨rfl,h⟩)
end
section
variable{P:Program}{G:eC}{ops:Array Oper}{o:Oper}{l:List Oper}{s:St}{b:Option Nat}
theorem rm{Y:Type}{I:Y→Prop}{r:Y→AV}{H:Y→AHeap}{Φ:St→Prop}(hg:ei s.tmps (ee ops o)=some true)
  (hO:∀(pl:Pl)(M:dt)(a:Act)(w:World),pj G pl M→cD pl M s.heap w→FrRel pl M s.tmps a→∃y pl' M' cv w',I y∧(execOp a.eval o).run P w=.ok (.value cv) w'∧VRel pl' M' (r y) cv∧cD pl' M' (H y) w'∧cS s.heap pl M w (H y) pl' M' w'∧s.heap.n≤(H y).n)
  (h:∀y,I y→∃A',iG s.tmps o.dst (r y)=some A'∧cj P G b ops l ⟨A',H y⟩ Φ):cj P G b ops (o::l) s Φ:=by
 intro i N h0' pl0 M0 w0 a w Q hb hl' hs hQ;have ho:ops[i]?=some o:=by simpa using hl' 0
 obtain⟨pl,M,g1,g2,g3,g4,g5⟩:=hs.ex;simp only[cO,BA,wpOps,ho];rw[fc g3 hg];simp only[if_true];left;obtain⟨y,pl',M',cv,w',i1,i2,i3,i4,i5,i6⟩:=hO pl M a w g1 g2 g3;obtain⟨A',e1,e2⟩:=h y i1;obtain⟨p1,p2⟩:=nW (g3.mono i5.ext i5.mem) i3 (by rw[hs.n];exact hs.small) e1;have nxt:=e2 (i+1) N h0' pl0 M0 w0 (a.put o.dst cv) w' Q hb (fun j=>by have:=hl' (j+1);grind)
  ⟨⟨pl',M',g1.mono i5.ext i5.mem,i4,p1,g4.trans i5 g5,b0 g5 i6⟩,by rw[←hs.n];omega,hs.small⟩ hQ
 unfold Oper.wp;rw[i2];exact nxt
theorem uF{t tx e:TypeId}{i:TypeInfo}{sz bt:Nat}(hsz:i.size=sz)(hbt:i.bytes=bt){z z0:AV}{sO xO:Operand}{dst:Option Tmp}{ty:TypeId}{pos:String}{after:Array Edge}{guard:Option (Nat×Bool)}{xs:List AV}
  (ht:P.underlying t=some (.slice e))(hk:∃e',P.underlying tx=some (.slice e'))(hi:P.info? e=some i)(hz:iR P e=some z0)(hzl:Le z z0)
  (hs:(co G sO).run s.tmps=some (.ps [] true))(hx:(co G xO).run s.tmps=some (.ls xs))(hne:xs≠[])(hfit:dC sz xs=true)(hzf:dC sz [z]=true)(hsm:small xs.length bt=true)(hs0:0<sz)
  (pl:Pl)(M:dt)(a:Act)(w:World)(g1:pj G pl M)(g2:cD pl M s.heap w)(g3:FrRel pl M s.tmps a):
  ∃(k:Nat)(pl':Pl)(M':dt)(cv:Value)(w':World),True∧(execOp a.eval ⟨dst,.call ⟨.builtin .append,#[sO,xO],#[t,tx]⟩,ty,pos,after,guard⟩).run P w=.ok (.value cv) w'∧
   VRel pl' M' (.slice s.heap.n 0 0 xs.length (some (xs.length+k))) cv∧cD pl' M' (s.heap.push (.row sz false 0 (xs++List.replicate k z))) w'∧cS s.heap pl M w (s.heap.push (.row sz false 0 (xs++List.replicate k z))) pl' M' w'∧s.heap.n≤(s.heap.push (.row sz false 0 (xs++List.replicate k z))).n:=by
 subst hsz;subst hbt;have hsr:=bJ g1 g3 hs;have hxr:=bJ g1 g3 hx;obtain⟨news,hsrc⟩:=yD (P:=P) g2 hxr (show kj s.heap (.ls xs)=some xs from rfl) hne hfit;obtain⟨i2,zv,hz1,hz2,hz3⟩:=mb hz;rw[hi]at hz1;cases hz1
 obtain⟨b1,b2⟩:=jf hsm;have hpos:0<xs.length:=pI.2 hne;generalize hq:a.eval sO=cs at hsr;generalize hq2:a.eval xO=cx at hxr hsrc;cases hsr with
 | ps hl htt hm hs2 hc=>
  rename_i ad cap sz c;have hcap:cap=0:=htt rfl;subst hcap;have hzr:=hzl _ _ _ (dN (pl:=pl) (M:=M) hz3);have hzt:=mX hzf z (by simp);have hzsz:zv.cells.size=i.size:=by rw[←hzr.cells.len];omega
  have hrun:=run_append_grow_src (P:=P) w t tx ty e i zv ht hi hz2 (some ad) 0 0 [] (by simp[Builtin.firstCells,loadCells,loadCellsFrom]) cx xs.length news (hsrc.src (.inl hk)) (by omega) (by omega) (growslice_fits (by omega) (by grind));have hge:=grownCap_ge w (0+xs.length) 0 e;obtain⟨C,hC⟩:∃C,C=grownCap w (0+xs.length) 0 e:=⟨_,rfl⟩
  rw[←hC]at hrun hge;have hin:=fQ hzr hzt.2 (C-(0+xs.length)) hzt.1 hs0;have hzl:(Builtin.zeroCells zv.cells (C-(0+xs.length))).toList.toArray=(Array.range ((C-(0+xs.length))*i.size)).map (zv.cells[· %zv.cells.size]!):=by grind[Builtin.zeroCells]
  have hnl:(Builtin.zeroCells zv.cells (C-(0+xs.length))).toList.length=(List.replicate (C-(0+xs.length)) z).length *i.size:=by grind[Builtin.zeroCells]
  have hin2:=kW (news:=(Builtin.zeroCells zv.cells (C-(0+xs.length))).toList) hsrc.mem (by grind) hsrc.newsLen hnl #[];have hce:(news++(Builtin.zeroCells zv.cells (C-(0+xs.length))).toList).toArray++#[]=([]++news).toArray++Builtin.zeroCells zv.cells (C-(0+xs.length)):=by grind
  rw[hce]at hin2;have hcs:(([]++news).toArray++Builtin.zeroCells zv.cells (C-(0+xs.length))).size=(xs++List.replicate (C-(0+xs.length)) z).length *i.size:=by simp only[wX,E1,BC,hsrc.newsLen,size_zeroCells,hzsz,eX,pH,jt]
  obtain⟨cells,hcells⟩:∃cells,cells=([]++news).toArray++Builtin.zeroCells zv.cells (C-(0+xs.length)):=⟨_,rfl⟩
  rw[←hcells]at hrun hin2 hcs;have hxl:(xs++List.replicate (C-(0+xs.length)) z).length=C:=by grind
  let p:Place:=⟨w.heap.size,0,i.size,C,C*i.size⟩
  have hwd:(w.drew.alloc (.cells cells e)).heap=w.heap.push (.cells cells e):=rfl;obtain⟨r1,r2⟩:=cD.alloc (o:=.row i.size false 0 (xs++List.replicate (C-(0+xs.length)) z)) (p:=p) g2 hwd ⟨rfl,rfl,rfl,nG _⟩ rfl
   ⟨rfl,rfl,hxl.symm,by grind,rfl,hs0,fun _=>hcs,hin2.mono (fun id q hq=>⟨q,by rw[cM (by have:=g2.dom id q hq;omega)];omega,au _,fun _=>rfl⟩) (fun _ _ h=>h)⟩
  refine⟨C-(0+xs.length),upd pl s.heap.n p,M,.slice (some ⟨w.heap.size,0,none⟩) (0+xs.length) C,w.drew.alloc (.cells cells e),trivial,?_,?_,r1,r2,nG _⟩
  ·simp only[execOp,resolve,invoke,builtin,Sem.run_bind,Sem.run_pure,Result.andThen_ok,List.map_toArray,eD,yz,hq,hq2];show(Sem.run P (Builtin.append_ #[t,tx] ty #[Value.slice (some ad) 0 0,cx]) w).andThen _=_
   rw[hrun];rfl
  ·rw[fw]at hge ⊢;refine .slice (dL _ _ _) (au _) hge (fun k hk=>by grind) (fun _=>⟨.inr (by grind),by grind,by grind,(fun hk=>by grind),(fun k hk=>by grind)⟩)
end
end Go.Ev
namespace Go.Ev
open Go
section
variable{s id ep off len c l h m a b d sz bt i n k:Nat}{hp H:AHeap}{xs ys zs new:List AV}{lo hi mx cap:Option Nat}{op:Bool}{x z:AV}{vl vh vm:Option AV}
theorem iU(hg:qZ s hp id ep=some xs)(h1:iS 0 vl=some l)(h2:iS len vh=some h)(q1:l≤h)(q2:h≤c)(q3:c≠l)(e1:off+l=a)(e2:h-l=b)(e3:c-l=d):
  bv H (dU s hp (some (.slice id ep off len (some c))) vl vh none)=some (.val (.slice id ep a b (some d)) H):=by
 have p1:Nat.ble l h=true:=s9 q1;have p2:Nat.ble h c=true:=s9 q2;have p3:Nat.beq c l=false:=by grind[aC]
 simp only[dU,fR,hg,h1,h2,room,pg,p1,p2,p3,yk,e1,e2,e3,bv]
theorem Dw(hg:qZ s hp id ep=some xs)(h1:iS 0 vl=some l)(h2:fu x=some h)(h3:fu z=some m)(q1:l≤h)(q2:h≤m)(q3:m≤c)(q4:m≠l)(e1:off+l=a)(e2:h-l=b)(e3:m-l=d):
  bv H (dU s hp (some (.slice id ep off len (some c))) vl (some x) (some z))=some (.val (.slice id ep a b (some d)) H):=by
 have p1:Nat.ble l h=true:=s9 q1;have p2:Nat.ble h m=true:=s9 q2;have p3:Nat.beq m l=false:=by grind[aC]
 simp_all[s9,dU,fR,room,pg,bv]
theorem KZ(hg:qZ s hp id ep=some xs)(h1:iS 0 vl=some l)(h2:iS len vh=some h)(q1:l=h)(q3:c=l):
  bv H (dU s hp (some (.slice id ep off len (some c))) vl vh none)=some (.val (.slice id ep 0 0 (some 0)) H):=by
 subst q1;subst q3;have p1:Nat.ble c c=true:=s9 (au _);have p3:Nat.beq c c=true:=pF _;simp only[dU,fR,hg,h1,h2,room,pg,p1,p3,yk,bv]
theorem KQ(hg:qZ s hp id ep=some xs)(h1:iS 0 vl=some l)(h2:iS len vh=some h)(q1:l≤h)(q2:h+off≤xs.length)(e1:off+l=a)(e2:h-l=b):
  bv H (dU s hp (some (.slice id ep off len none)) vl vh none)=some (.val (.slice id ep a b none) H):=by
 grind[Nat.ble_eq_true_of_le,dU,fR,room,pg,bv]
theorem yC(hg:H.get id=some (.row sz op ep xs))(e:(xs.drop off).take len=zs):kj H (.slice id ep off len cap)=some zs:=by grind[Nat.beq_refl,kj,kU]
theorem VK{xs ys:List AV}{n:Nat}(h:xs.length=n):((xs++ys).drop 0).take n=xs:=by simp_all
theorem wx{xs:List AV}{t:Bool}{n:Nat}(h:aq xs=0):Nat.ble (AV.ps xs t).top n=true:=by simp_all[AV.top]
theorem LM(hg:H.get id=some (.row sz op ep xs))(hx:kj H x=some new)(hf:dC sz new=true)(hne:new≠[])(hc:len+new.length≤c)(hl:off+len+new.length≤xs.length)(hs:small (len+new.length) bt=true)(e1:len+new.length=n)(e2:bL xs (off+len) new=ys):
  fX (dW sz bt H (some (.slice id ep off len (some c))) (some x))=some (.val (.slice id ep off n (some c)) (H.put id (.row sz op ep ys))):=by
 subst e1;cases new with
 |nil=>simp_all
 |cons y r=>simp_all[s9,dW,gx,gP,fX]
theorem SQ(hx:kj H x=some []):fX (dW sz bt H (some (.slice id ep off len cap)) (some x))=some (.val (.slice id ep off len cap) H):=by grind[dW,gx,gP,fX]
theorem U0(hg:H.get id=some (.row sz op ep xs))(hx:kj H x=some new)(hf:dC sz new=true)(hne:new≠[])(hc:c<len+new.length)(hs:small (len+new.length) bt=true)(e1:(xs.drop off).take len++new=ys)(e2:ys.length=n):
  fX (dW sz bt H (some (.slice id ep off len (some c))) (some x))=some (.val (.slice H.n 0 0 n none) (H.push (.row sz true 0 ys))):=by
 cases new with
 |nil=>simp_all
 |cons y r=>
  have p1:Nat.beq ep ep=true:=pF ep;have p2:Nat.beq sz sz=true:=pF sz;have p3:Nat.ble (len+(y::r).length) c=false:=by grind[bV]
  simp_all[dW,gx,gP,iy,fX]
theorem Tf(hg:H.get id=some (.row sz op ep xs))(hk:0<k)(hc:c<len+k)(hf:dC sz [z]=true)(hs:small (len+k) bt=true)(hs2:small k bt=true)(e1:(xs.drop off).take len++List.replicate k z=ys)(e2:ys.length=n):
  fX (Cg sz bt z H (some (.slice id ep off len (some c))) (some (.int .i64 (.ofNat k))))=some (.val (.slice H.n 0 0 n none) (H.push (.row sz true 0 ys))):=by
 have p1:Nat.beq ep ep=true:=pF ep;have p2:Nat.beq sz sz=true:=pF sz;grind[Nat.ble_eq_true_of_le,Nat.blt,Cg,K3,iy,fX]
theorem Ls(hg:H.get id=some (.row sz op ep xs))(hx:kj H x=some zs)(hf:dC sz (zs.take len)=true)(e1:min zs.length len=k)(e2:bL xs off (zs.take len)=ys):
  fX (ug sz H (some (.slice id ep off len cap)) (some x))=some (.val (.int .i64 (.ofNat k)) (H.put id (.row sz op ep ys))):=by
 grind[Nat.beq_refl,ug,Lt,fX]
theorem Jh(hg:H.get id=some (.row sz op ep xs))(hf:dC sz [z]=true)(e2:bL xs off (List.replicate len z)=ys):
  fX (vG sz z H (some (.slice id ep off len cap)))=some (.val gX (H.put id (.row sz op ep ys))):=by
 grind[Nat.beq_refl,vG,fX]
theorem rz{sz:Nat}:∀{xs:List AV}{n:Nat},dC sz xs=true→dC sz (xs.take n)=true
 |[],n,h=>by simp_all
 |x::r,0,_=>rfl
 |x::r,n+1,h=>by
  simp only[List.take_succ_cons,dC,bx]at h ⊢;exact⟨h.1,rz h.2⟩
theorem rx{sz:Nat}:∀{xs:List AV}{n:Nat},dC sz xs=true→dC sz (xs.drop n)=true
 |[],n,h=>by simp_all
 |x::r,0,h=>h
 |x::r,n+1,h=>by
  simp only[List.drop_succ_cons,dC,bx]at h ⊢;exact rx h.2
end
theorem Bx{P:Program}{G:eC}{f:FuncId}{fn:Func}{tS tR e:TypeId}{n:Nat}(hf:P.funcs[f]?=some fn)(hname:(fn.name== "runtime.NumGoroutine")=false)(hb:fn.body.isNone=true)(hn:Extern.findNext fn=none)(he:Extern.find fn=some (Extern.SlicesOverlaps.overlaps #[tS,tS] #[tR]))
  (ht:P.underlying tS=some (.slice e))(hi:cN P e=some n){xs ys:List AV}{t:Bool}{id off len c sz:Nat}{op:Bool}{h:AHeap}(hne:xs≠[])(hgo:h.get id=some (.row sz op 0 ys)):
  aI P G f [.ps xs t,.slice id 0 off len (some c)] h (fun v h'=>v=.bool false∧h'=h):=by
 intro pl M w vs hG hr hv;right;refine⟨.bool false,w,.bool false,h,?_,⟨rfl,rfl⟩,pl,M,.bool false,hr,cS.refl _ _ _ _,au _⟩;have v0:=hv.at_ 0 _ rfl;have v1:=hv.at_ 1 _ rfl;have hvs:vs=#[vs.getD 0 undef,vs.getD 1 undef]:=by
  have hl:vs.size=2:=hv.len.symm;apply Array.ext
  ·omega
  ·intro i h1 h2
   match i,h2 with
   |0,_=>simp_all
   |1,_=>simp_all
 rw[run_callFunc_extern hf hname hb hn he,hvs];generalize vs.getD 0 undef=x0 at v0;generalize vs.getD 1 undef=x1 at v1;cases v0 with
 | ps hl htt hm hs hc=>
  rename_i a cap0 sz0 c0;obtain⟨m1,m2,m3,m4⟩:=hm hne;have hpos:0<xs.length:=pI.2 hne;cases v1 with
  | slice hp hep hl1 hk ha=>
   rename_i cap1 b p;have hcap:=hk c rfl;subst hcap;obtain⟨tA,frA,hA⟩:=hr.imm _ _ m2;have ho:=hr.obj id p _ hp hgo;obtain⟨cB,tB,hB,hpe⟩:∃cB tB,w.heap[p.blk]?=some (.cells cB tB (0,0))∧p.ep=0:=by
    cases hb2:w.heap[p.blk]? with
    |none=>rw[hb2]at ho;exact ho.elim
    |some ob=>
     rw[hb2]at ho;cases ob with
     |cells cB tB fr=>obtain⟨h1,_,_,_,h5,_⟩:=ho;grind
     |_=>exact ho.elim
   have hsep:=hr.sep id p hp;have hsz:=ct hi w;have hc0:c0.size≠0:=by
    have:0<xs.length*sz0:=Nat.mul_pos hpos m4;omega
   obtain⟨q1,-⟩:=ha hpe.symm
   suffices hh:(Extern.SlicesOverlaps.overlaps #[tS,tS] #[tR] #[.slice (some a) xs.length cap0,.slice (some b) len cap1]).run P w=.ok (.bool false) w by rw[hh];rfl
   generalize xs.length=la;change Sem.run P (α:=Value) (do
    let some t:=(#[tS,tS]:Array TypeId)[0]?|stuck "slices.overlaps: no parameter types"
    let .slice elem ←underlying t|stuck "slices.overlaps: slice type expected"
    let size ←sizeOf elem
    match(some a:Option Addr),(some b:Option Addr)with
    | some a,some b=>
     if la=0∨len=0∨size=0 then pure (Value.bool false)
     else if a.block !=b.block&&(←frozen a)&&(←frozen b)then unsupported .addressObserved
     else do
      if a.block !=b.block then do
       noView a;noView b
       if ←mayBeOne a b then return Value.bool ((←choose (.extern "sameAddr.stringBytes" 2))==1)
      pure (Value.bool (a.block==b.block&&a.off<b.off+len*size&&b.off<a.off+la*size))
    |_,_=>pure (Value.bool false)) w=_
   by_cases h0:la=0∨len=0∨n=0
   ·simp[run_underlying ht,hsz,h0]
   ·have hbk:b=⟨p.blk,off*p.sz,none⟩:=by grind
    subst hbk;have hnb:a.block≠p.blk:=fun e=>by grind
    have hnb1:(a.block !=p.blk)=true:=by grind
    have hnb2:(a.block==p.blk)=false:=by grind
    have f1:∀o,w.frozen? ⟨p.blk,o,none⟩=false:=fun o=>by grind[World.frozen?]
    have s1:w.shape? a.block=some (tA,c0.size):=by grind[World.shape?]
    have s2:w.shape? p.blk=some (tB,cB.size):=by grind[World.shape?]
    cases hsx:c0.size with
    |zero=>omega
    |succ kA=>
     rw[hsx]at s1;cases hfa:w.frozen? a<;>cases hfb:w.frozen? {block:=a.block,off:=kA+1}<;>
     simp[run_underlying ht,hsz,h0,hnb1,hnb2,frozen,noView,viewAt,mayBeOne,stringish,shape,Sem.run,s1,s2,f1,hfa,hfb]
def TX(rs:List Nat):AHeap→List AObj→Nat→AHeap
 |h,[],_=>h
 |h,o::r,i=>TX rs (h.put (fF rs i) (j6 (fF rs) o)) r (i+1)
def Xg(rs:List Nat)(h:AHeap):List AObj→Nat→Prop
 |[],_=>True
 |o::r,i=>h.get (fF rs i)=some (j6 (fF rs) o)∧Xg rs h r (i+1)
def QG(h:AHeap):List AObj→Nat→Prop
 |[],_=>True
 |o::r,i=>h.get i=some o∧QG h r (i+1)
def DY(n:Nat):List AObj→Prop
 |[]=>True
 |o::r=>(ep0 o=true∧o.top≤n)∧DY n r
theorem Py(rs:List Nat):∀(l:List AObj)(h:AHeap)(i:Nat),(TX rs h l i).n=h.n
 |[],_,_=>rfl
 |_::r,h,i=>Py rs r _ (i+1)
theorem LG{rs:List Nat}{h:AHeap}:∀{l:List AObj}{i j:Nat}{o:AObj},Xg rs h l i→l[j]?=some o→h.get (fF rs (i+j))=some (j6 (fF rs) o)
 |x::r,i,0,o,a,e=>by simp at e;subst e;exact a.1
 |x::r,i,j+1,o,a,e=>by
  have:=LG (i:=i+1) (j:=j) a.2 (by simpa using e);grind
theorem GD{h:AHeap}:∀{l:List AObj}{i j:Nat}{o:AObj},QG h l i→l[j]?=some o→h.get (i+j)=some o
 |x::r,i,0,o,a,e=>by simp at e;subst e;exact a.1
 |x::r,i,j+1,o,a,e=>by
  have:=GD (i:=i+1) (j:=j) a.2 (by simpa using e);grind
theorem u9{n:Nat}:∀{l:List AObj},DY n l→∀o,o∈l→ep0 o=true∧o.top≤n
 |x::r,a,o,e=>by
  rcases eM.1 e with rfl|e
  ·exact a.1
  ·exact u9 a.2 o e
theorem FD{rs:List Nat}:∀{l:List AObj}{h:AHeap}{i k:Nat}{o:AObj},(∀j,j<l.length→fF rs (i+j)<1000000)→(TX rs h l i).get k=some o→
  (∃j o',l[j]?=some o'∧k=fF rs (i+j)∧o=j6 (fF rs) o')∨((∀j,j<l.length→k≠fF rs (i+j))∧h.get k=some o)
 |[],h,i,k,o,_,e=>.inr ⟨fun j hj=>absurd hj (nF _),e⟩
 | x::r,h,i,k,o,hb,e=>by
  rcases FD (l:=r) (i:=i+1) (fun j hj=>by have:=hb (j+1) (by simp_all);grind) e with⟨j,o',h1,h2,h3⟩|⟨h1,h2⟩
  ·exact .inl ⟨j+1,o',by simp_all,by grind,h3⟩
  ·rcases AHeap.get_put (by have:=hb 0 (Nat.zero_lt_succ _);omega) h2 with⟨h3,h4⟩|⟨h3,h4⟩
   ·exact .inl ⟨0,x,rfl,h3,h4⟩
   grind
theorem Gr{q:Nat→Bool}:∀{rs:List Nat}{i:Nat},rs.all q=true→i<rs.length→q (fF rs i)=true
 |x::r,0,h,_=>by simp only[List.all_cons,bx]at h;exact h.1
 |x::r,i+1,h,hi=>by
  simp only[List.all_cons,bx]at h;exact Gr (rs:=r) (i:=i) h.2 (by simp_all)
theorem px{P:Program}{G:eC}(hG:iP G){f:FuncId}{args args':List AV}{v v':AV}{L L' os os':List AObj}(rs:List Nat)
  (h0:aI P G f args (av L) (fun v1 h1=>v1=v∧h1=av L'))(ea:lp (fF rs) args=args')(ev:Ev.ren (fF rs) v=v')
  (c:(zW rs&&(Nat.beq rs.length L.length&&(Nat.beq L'.length L.length&&rs.all fun x=>Nat.blt x 1000000)))=true)
  (hL:DY L.length L)(hL':DY L.length L')(ht:aq args≤L.length)(hv:v.top≤L.length)
  (a1:Xg rs (av os) L 0)(a2:QG (av L') L' 0)(a3:av os'=TX rs (av os) L' 0):aI P G f args' (av os) (fun v1 h1=>v1=v'∧h1=av os'):=by
 simp only[bx,aC,decide_eq_true_eq]at c;obtain⟨c1,c2,c3,c4⟩:=c;subst ea;subst ev;rw[a3];refine aI.frame hG (fF rs) c3 (u9 hL) (u9 hL') (fun i o hi=>by have:=GD a2 hi;simp_all) ht hv (fun i j hi hj=>rZ c1 i j (by omega) (by omega)) h0
  (fun i o hi=>by have:=LG a1 hi;simp_all) (fun k o hk=>?_) (Py rs L' _ 0)
 rcases FD (fun j hj=>by have:=Gr c4 (show 0+j<rs.length by omega);simp_all) hk with⟨j,o',h1,h2,h3⟩|⟨h1,h2⟩
 all_goals grind
theorem vY{ρ:Nat→Nat}{sz ep:Nat}{b:Bool}{xs:List AV}(h:aq xs=0):j6 ρ (.row sz b ep xs)=.row sz b ep xs:=by grind[j6,eS]
theorem fj{P:Program}{G:eC}(hG:iP G){f:FuncId}{args args':List AV}{v v':AV}{sz:Nat}{b b':Bool}{xs xs':List AV}{os os':List AObj}(id:Nat)(hx:aq xs=0)(hx':aq xs'=0)
  (h0:aI P G f args (av [.row sz b 0 xs]) (fun v1 h1=>v1=v∧h1=av [.row sz b' 0 xs']))(ea:lp (fF [id]) args=args')(ev:Ev.ren (fF [id]) v=v')(c:Nat.blt id 1000000=true)
  (ht:Nat.ble (aq args) 1=true)(hv:Nat.ble v.top 1=true)(a1:(av os).get id=some (.row sz b 0 xs))(a3:av os'=(av os).put id (.row sz b' 0 xs')):aI P G f args' (av os) (fun v1 h1=>v1=v'∧h1=av os'):=
 px hG [id] h0 ea ev (by simp only[zW,i9,List.all_cons,List.all_nil,c];rfl) ⟨⟨rfl,by grind[AObj.top]⟩,trivial⟩ ⟨⟨rfl,by grind[AObj.top]⟩,trivial⟩ (uP ht) (uP hv)
  ⟨by rw[vY hx];exact a1,trivial⟩ ⟨rfl,trivial⟩ (by rw[a3];show _=AHeap.put _ _ (j6 _ _);rw[vY hx'];rfl)
end Go.Ev
namespace Go.Ev
open Go
def jl(u:TUnit)(ks:List TUnit):TUnit:=⟨u.act,u.item,u.n,u.kind,u.label,u.head,u.words,ks⟩
def lO(w:List PWord)(u:TUnit):TUnit:=⟨u.act,u.item,u.n,u.kind,u.label,u.head,w,u.kids⟩
def zM(w:List PWord)(u:TUnit):TUnit:=⟨u.act,u.item,u.n,u.kind,u.label,w,u.words,u.kids⟩
def o4(s:aO)(u:TUnit):TUnit:=⟨u.act,u.item,u.n,u.kind,s,u.head,u.words,u.kids⟩
def wG(i:Nat)(x:TUnit)(l:List TUnit):List TUnit:=l.take i++(x::l.drop i)
def gh(i:Nat)(u:TUnit):TUnit:=jl u (u.kids.eraseIdx i)
def du(i:Nat)(x:TUnit)(u:TUnit):TUnit:=jl u (wG i x u.kids)
mutual
def dJ(p:PId)(f:TUnit→TUnit):TUnit→TUnit
 |⟨a,i,n,k,l,h,w,ks⟩=>bif fE p ⟨a,i,n,k,l,h,w,ks⟩then f ⟨a,i,n,k,l,h,w,ks⟩else⟨a,i,n,k,l,h,w,eg p f ks⟩
def eg(p:PId)(f:TUnit→TUnit):List TUnit→List TUnit
 |[]=>[]
 |k::r=>bif cV p k then dJ p f k::r else k::eg p f r
end
section
variable{p:PId}{f:TUnit→TUnit}{u w:TUnit}{l r:List TUnit}{i:Nat}
theorem E7(p:PId)(f:TUnit→TUnit)(u:TUnit):dJ p f u=bif fE p u then f u else jl u (eg p f u.kids):=by cases u;rw[dJ];rfl
theorem sJ:eg p f []=[]:=by rw[eg]
theorem ju(k:TUnit)(r:List TUnit):eg p f (k::r)=bif cV p k then dJ p f k::r else k::eg p f r:=by rw[eg]
theorem qH(h:fE p u=true):dJ p f u=f u:=by rw[E7,h];rfl
theorem km(h:fE p u=false):dJ p f u=jl u (eg p f u.kids):=by rw[E7,h];rfl
def jX(p:PId)(f:TUnit→TUnit)(l:List TUnit)(i:Nat)(r:List TUnit):Prop:=eg p f l=l.take i++eg p f r
theorem jX.start:jX p f l 0 l:=rfl
theorem jX.skip(h:jX p f l i (w::r))(hd:l.drop i=w::r)(hw:cV p w=false):jX p f l (i+1) r:=by
 unfold jX at *;have hi:i<l.length:=by grind[List.drop_eq_nil_of_le]
 have e:l[i]=w:=by
  have:=congrArg (·[0]?) hd;grind
 grind[ju]
theorem jX.hit(h:jX p f l i (w::r))(hd:l.drop i=w::r)(hw:cV p w=true):eg p f l=l.set i (dJ p f w):=by
 unfold jX at h;have hi:i<l.length:=by grind[List.drop_eq_nil_of_le]
 rw[h,ju,hw,List.set_eq_take_append_cons_drop,if_pos hi];have:l.drop (i+1)=r:=by rw[←Bs,hd];rfl
 simp_all
theorem jX.done(h:jX p f l i [])(hd:l.drop i=[]):eg p f l=l:=by simp_all[jX,sJ,Br]
theorem IQ:∀(u:TUnit),cV p u=false→dJ p f u=u:=TUnit.ind fun u ih h=>by
 have hw:=zP h;rw[gz]at hw;cases hi:fE p u with
 |true=>grind
 | false=>
  rw[hi]at hw;simp only[cond_false]at hw;have key:∀(r:List TUnit),(∀k,k∈r→k∈u.kids)→ch p r=[]→eg p f r=r:=by
   intro r;induction r with
   |nil=>grind[sJ]
   |cons k r ihr=>
    intro hm hr;cases hk:cV p k with
    |true=>grind[nL,kR]
    |false=>simp_all[iE,ju]
  have hk:ch p u.kids=[]:=by grind
  rw[km hi,key u.kids (fun _ h=>h) hk];cases u;rfl
end
end Go.Ev
namespace Go.Ev
open Go
noncomputable def ba(n:Nat):AV:=.int .i64 (.ofNat n)
theorem W6(n:Nat):(ba n).top=0:=rfl
section
variable{l part:List aO}{i:Nat}{acc:List Nat}
def m7(l part:List aO)(i:Nat)(acc:List Nat):Prop:=acc.length≤i∧i≤l.length+part.length∧∃f,tG l part=acc++va part f l i∧l.length<i+f
theorem m7.start(hp:0<part.length):m7 l part 0 []:=by
 refine⟨au _,bG _,l.length+1,?_,by omega⟩;unfold tG;grind
theorem KL{f:Nat}(hi:i+part.length≤l.length):va part (f+1) l i=bif dz eJ ((l.take (i+part.length)).drop i) part then i::va part f l (i+part.length)else va part f l (i+1):=by
 have e:(l.take (i+part.length)).drop i=(l.drop i).take part.length:=by grind
 rw[va,s9 hi,e];rfl
theorem m7.skip(h:m7 l part i acc)(hi:i+part.length≤l.length)(hp:0<part.length)(hm:dz eJ ((l.take (i+part.length)).drop i) part=false):m7 l part (i+1) acc:=by
 obtain⟨h1,h2,f,h3,h4⟩:=h;cases f with
 |zero=>omega
 |succ f=>rw[KL hi,hm]at h3;exact⟨by omega,by omega,f,h3,by omega⟩
theorem m7.hit(h:m7 l part i acc)(hi:i+part.length≤l.length)(hp:0<part.length)(hm:dz eJ ((l.take (i+part.length)).drop i) part=true):m7 l part (i+part.length) (acc++[i]):=by
 obtain⟨h1,h2,f,h3,h4⟩:=h;cases f with
 |zero=>omega
 |succ f=>
  rw[KL hi,hm]at h3;exact⟨by grind,by omega,f,by simp_all,by omega⟩
theorem m7.done(h:m7 l part i acc)(hi:l.length<i+part.length):tG l part=acc:=by
 obtain⟨h1,h2,f,h3,h4⟩:=h;cases f with
 |zero=>grind[va]
 |succ f=>grind[va,bV]
theorem m7.len(h:m7 l part i acc):acc.length≤l.length+part.length:=b0 h.1 h.2.1
end
def qG(g:Nat):List Nat→Nat→Nat→Prop
 |[],_,_=>True
 |p::r,lo,n=>lo≤p∧p+g≤n∧qG g r (p+g) n
theorem sf(part:List aO)(hp:0<part.length):∀(f:Nat)(l:List aO)(i:Nat),qG part.length (va part f l i) i l.length
 |0,l,i=>by rw[va];trivial
 | f+1,l,i=>by
  rw[va];have key:∀(m:List Nat)(a b n:Nat),a≤b→qG part.length m b n→qG part.length m a n:=by
   intro m;cases m with
   |nil=>intro _ _ _ _ _;trivial
   |cons p r=>intro a b n h ⟨h1,h2,h3⟩;exact⟨b0 h h1,h2,h3⟩
  cases hb:Nat.ble (i+part.length) l.length with
  |false=>trivial
  |true=>
   rw[bV]at hb;have hb:=of_decide_eq_true hb;simp only[cond_true];cases dz eJ ((l.drop i).take part.length) part with
   |true=>exact⟨au _,hb,sf part hp f l _⟩
   |false=>exact key _ _ _ _ (nG i) (sf part hp f l (i+1))
theorem Cw(l part:List aO):qG part.length (tG l part) 0 l.length:=by
 unfold tG;cases part with
 |nil=>trivial
 |cons x r=>exact sf (x::r) (vS _) _ l 0
def ov(g:Nat)(l:List Nat)(n:Nat):Prop:=∀i,i<l.length→gD l i+g≤n∧∀j,j<i→gD l j+g≤gD l i
theorem AM{g n:Nat}:∀{l:List Nat}{lo:Nat},qG g l lo n→ov g l n
 |[],_,_=>fun i hi=>absurd hi (nF _)
 | p::r,lo,⟨h1,h2,h3⟩=>by
  have low:∀(m:List Nat)(a:Nat),qG g m a n→∀i,i<m.length→a≤gD m i:=by
   intro m;induction m with
   |nil=>simp_all
   |cons q m ih=>
    intro a ⟨k1,k2,k3⟩ i hi;cases i with
    |zero=>exact k1
    |succ i=>have:=ih _ k3 i (by simp_all);grind[gD]
  intro i hi;cases i with
  |zero=>exact⟨h2,fun j hj=>absurd hj (nF _)⟩
  |succ i=>
   have hi':i<r.length:=by simp_all
   obtain⟨k1,k2⟩:=AM h3 i hi';refine⟨k1,fun j hj=>?_⟩;cases j with
   |zero=>exact low r _ h3 i hi'
   |succ j=>exact k2 j (by omega)
def fT(at_ g:Nat)(m l:List PWord):List PWord:=l.take at_++m++l.drop (at_+g)
def tw(a b:Int)(g:Nat)(ps:List Nat)(fresh:List aO):Nat→List PWord→List PWord
 |0,l=>l
 |i+1,l=>tw a b g ps fresh i (fT (gD ps i) g (cp a b fresh (i*fresh.length)) l)
theorem MD{at_ g:Nat}{m l:List PWord}(h:at_+g≤l.length):(fT at_ g m l).length+g=l.length+m.length:=by grind[fT]
structure PutI(a b:Int)(g:Nat)(ps:List Nat)(fresh:List aO)(w:List PWord)(i:Nat)(l:List PWord):Prop where
 le:i≤ps.length
 all:tw a b g ps fresh ps.length w=tw a b g ps fresh i l
 room:∀j,j<i→gD ps j+g≤l.length
 small:l.length≤w.length+(ps.length-i)*fresh.length
theorem PutI.start{a b:Int}{g:Nat}{ps:List Nat}{fresh:List aO}{w:List PWord}(h:ov g ps w.length):PutI a b g ps fresh w ps.length w:=⟨au _,rfl,fun j hj=>(h j hj).1,by omega⟩
theorem PutI.step{a b:Int}{g:Nat}{ps:List Nat}{fresh:List aO}{w l:List PWord}{i:Nat}(hg:ov g ps w.length)(h:PutI a b g ps fresh w (i+1) l):PutI a b g ps fresh w i (fT (gD ps i) g (cp a b fresh (i*fresh.length)) l):=by
 have hr:=h.room i (Nat.lt_succ_self i);have hl:=MD (m:=cp a b fresh (i*fresh.length)) hr;rw[fO]at hl;have hle:=h.le;refine⟨by omega,h.all,fun j hj=>?_,?_⟩
 ·have:=(hg i (by omega)).2 j hj;grind
 ·have hs:=h.small;have e:(ps.length-i)*fresh.length=(ps.length-(i+1))*fresh.length+fresh.length:=by rw[show ps.length-i=(ps.length-(i+1))+1 by omega,pM]
  omega
theorem PutI.done{a b:Int}{g:Nat}{ps:List Nat}{fresh:List aO}{w l:List PWord}(h:PutI a b g ps fresh w 0 l):tw a b g ps fresh ps.length w=l:=h.all
theorem PutI.len{a b:Int}{g:Nat}{ps:List Nat}{fresh:List aO}{w l:List PWord}{i:Nat}(h:PutI a b g ps fresh w i l)(h1:w.length≤2^18)(h2:ps.length≤2^9)(h3:fresh.length≤2^9):l.length≤2^19:=by
 have:=h.small;have:(ps.length-i)*fresh.length≤2^9*2^9:=Nat.mul_le_mul (by omega) h3;omega
section
variable{sz b id n n' k l h m:Nat}{H:AHeap}{xs ys zs:List AV}{t:Bool}{x z:AV}{vl:Option AV}
theorem Iv(hh:o5 sz xs=true)(h1:iS 0 vl=some l)(h2:fu x=some h)(h3:fu z=some h)(q1:l≤h)(q2:h≤xs.length)(e:(xs.take h).drop l=ys):bv H (dU sz H (some (.ps xs t)) vl (some x) (some z))=some (.val (.ps ys true) H):=by simp_all[s9,dU,fR,ub,bv]
theorem PX(hh:o5 sz xs=true)(h1:fu x=some l)(q1:l≤xs.length)(e:xs.drop l=ys):bv H (dU sz H (some (.ps xs false)) (some x) none none)=some (.val (.ps ys false) H):=by
 have p2:Nat.ble l xs.length=true:=s9 q1;have p3:Nat.ble xs.length xs.length=true:=s9 (au _);simp only[dU,fR,hh,iS,h1,ub,p2,p3,yk,List.take_length,e,yx,bv]
theorem Y0(hf:dC sz xs=true)(hf2:dC sz ys=true)(hne:ys≠[])(hs:small (xs.length+ys.length) b=true)(e:xs++ys=zs)(e2:zs.length=n):fX (dW sz b H (some (.ps xs true)) (some (.ls ys)))=some (.val (.slice H.n 0 0 n none) (H.push (.row sz true 0 zs))):=by
 cases ys with
 |nil=>simp_all
 |cons y r=>simp_all[dW,gx,kj,kU,gP,iy,fX]
theorem R9(e:ys=[]):fX (dW sz b H (some (.ps xs true)) (some (.ls ys)))=some (.val (.ps xs true) H):=by subst e;rfl
def tW:List AV→Nat
 |[]=>0
 |_::_=>1
theorem UT(hg:H.get id=some (.row sz true 0 xs))(hp:H.put id (.row sz true 0 xs)=H)(hf:dC sz ys=true)(hl:xs.length=n)(hs:small (n+ys.length) b=true)(e:xs++ys=zs)(e2:zs.length=n'):
  fX (dW sz b H (some (.slice id 0 0 n none)) (some (.ps ys t)))=some (.val (.slice id (tW ys) 0 n' none) (H.put id (.row sz true (tW ys) zs))):=by
 cases ys with
 |nil=>
  rw[ec]at e;subst e;simp only[tW,hp,←e2,hl];rfl
 |cons y r=>
  have p1:Nat.beq 0 0=true:=rfl;have p2:Nat.beq sz sz=true:=pF sz;have p4:xs.take n=xs:=Br (by omega);have p5:n+(y::r).length=n':=by grind
  have p3:Nat.ble n' xs.length=false:=by grind[bV]
  rw[p5]at hs;simp only[dW,gx,kj,kU,gP,hf,hg,p1,p2,hs,yk,p3,p4,e,p5,tW,fX,fw]
theorem R8(hf:dC sz xs=true)(hf2:dC sz ys=true)(hne:ys≠[])(hs:small (xs.length+ys.length) b=true)(e:xs++ys=zs)(e2:zs.length=n):fX (dW sz b H (some (.ps xs true)) (some (.ps ys t)))=some (.val (.slice H.n 0 0 n none) (H.push (.row sz true 0 zs))):=by
 cases ys with
 |nil=>simp_all
 |cons y r=>simp_all[dW,gx,kj,kU,gP,iy,fX]
end
end Go.Ev
namespace Go.Ev
open Go
def np(l:List Nat)(n:Int):List Nat:=bif ah n 0 then l else bif ap (Int.ofNat l.length) n then[]else(l.take n.toNat).drop (n.toNat-1)
theorem UX{l:List Nat}{a b i:Nat}(h:i<((l.take b).drop a).length):gD ((l.take b).drop a) i=gD l (a+i):=by grind[gD]
theorem Nh{g n a b:Nat}{l:List Nat}(h:ov g l n):ov g ((l.take b).drop a) n:=by
 intro i hi;have hl:((l.take b).drop a).length≤l.length-a:=by grind
 obtain⟨h1,h2⟩:=h (a+i) (by omega);grind[UX]
theorem GF{g n:Nat}{l:List Nat}{k:Int}(h:ov g l n):ov g (np l k) n:=by
 unfold np;cases ah k 0 with
 |true=>grind
 |false=>
  cases ap (Int.ofNat l.length) k with
  |true=>exact fun i hi=>absurd hi (nF _)
  |false=>exact Nh h
theorem FT(l:List Nat)(k:Int):(np l k).length≤l.length:=by
 unfold np;grind
theorem DQ{g n:Nat}(hg:0<g):∀{l:List Nat}{lo:Nat},qG g l lo n→lo≤n→l.length+lo≤n
 |[],lo,_,h=>by simp_all
 |p::r,lo,⟨h1,h2,h3⟩,_=>by have:=DQ hg h3 h2;grind
theorem KI(l part:List aO):(tG l part).length≤l.length:=by
 cases part with
 |nil=>exact bG _
 |cons x r=>have:=DQ (vS _) (Cw l (x::r)) (bG _);omega
theorem FR(l part:List aO):ov part.length (tG l part) l.length:=AM (Cw l part)
def xl(c i:Nat)(l:List Nat):List Nat:=(l.take i).map (· +c)++l.drop i
theorem Sx(c i:Nat)(l:List Nat):(xl c i l).length=l.length:=by grind[xl]
theorem U4{c i:Nat}{l:List Nat}(h:i<l.length):gD (xl c i l) i=gD l i:=by
 unfold xl gD List.getD;grind
theorem OJ{c i:Nat}{l:List Nat}(h:i<l.length):(xl c i l).set i (gD l i+c)=xl c (i+1) l:=by
 unfold xl;have h1:((l.take i).map (· +c)).length=i:=by grind
 rw[List.set_append_right _ _ (by omega),h1,Nat.sub_self,Oe h,List.set_cons_zero,Of h,rA];grind[gD]
theorem OW{c n:Nat}{l m:List Nat}(h:l.length=n):(xl c n (l++m)).take n=l.map (· +c):=by grind[xl]
theorem JX{c i:Nat}{l:List Nat}(h:i<l.length):gD (l.map (· +c)) i=gD l i+c:=by grind[gD]
theorem QL{c n:Nat}{l:List Nat}(h:ov c l n):ov 0 (l.map (· +c)) n:=by
 intro i hi;rw[cX]at hi;obtain⟨h1,h2⟩:=h i hi;grind[JX]
def vq(l:List PWord):List PWord:=bif ap 256 (Int.ofNat l.length)then[]else l
def y8(l:List PWord):Int:=bif ap 256 (Int.ofNat l.length)then 6 else 0
def xf(a b:Int)(g:Nat)(ps:List Nat)(fresh:List aO)(w:List PWord):List PWord×Int:=(vq (tw a b g ps fresh ps.length w),y8 (tw a b g ps fresh ps.length w))
def Ft(a b:Int)(w:List PWord)(old new:List aO)(n:Int):List PWord×Int:=bif ah (Int.ofNat old.length) 0 then([],1)else bif ah (Int.ofNat (np (tG (b6 w) old) n).length) 0 then([],4)else xf a b old.length (np (tG (b6 w) old) n) new w
def DO(a b:Int)(w:List PWord)(part new:List aO)(n:Int):List PWord×Int:=
 bif ah (Int.ofNat new.length) 0||(ah (Int.ofNat part.length) 0&&ak (ah n 0))then([],1)
 else bif ah (Int.ofNat part.length) 0 then xf a b 0 [0] new w
 else bif ah (Int.ofNat (np (tG (b6 w) part) n).length) 0 then([],4)else xf a b 0 ((np (tG (b6 w) part) n).map (· +part.length)) new w
end Go.Ev
namespace Go.Ev
open Go
def kp(x k:TUnit):Bool:=ah k.kind x.kind&&eJ k.label x.label
def ym(p x:TUnit):Int:=bif jW p.kind x.kind then(bif p.kids.any (kp x)then 10 else 0)else 9
def Rf(u:TUnit)(p:PId)(x:TUnit):Bool:=ap 8 (Int.ofNat ((pA p u).length+1+mO x))
abbrev pB:=TUnit×Int
def Nc(u:TUnit)(te:Int)(full cf:Bool)(u2:TUnit):pB:=bif ah te 0 then(bif full then(u,6)else bif cf then(u,5)else(u2,0))else(u,te)
def E5(u:TUnit)(e:Int)(u2:TUnit):pB:=bif ah e 0 then(u2,0)else(u,e)
def S9(u:TUnit)(te:Int)(u2:TUnit):pB:=bif ah te 10 then(u,10)else(u2,0)
def P5(u:TUnit)(te:Int)(full:Bool)(u2:TUnit):pB:=bif ah te 0 then(bif full then(u,6)else(u2,0))else(u,te)
def Hx(e1 e2:Int)(sp:PSpot)(e3:Int):PSpot×Int:=bif ah e1 0 then(bif ah e2 0 then(bif ah e3 0 then(sp,0)else(dG,e3))else(dG,e2))else(dG,e1)
noncomputable def eG(r:pB):AV:=.tuple [eU r.1,.int .i64 r.2]
end Go.Ev
namespace Go.Ev
open Go
theorem vz{p:PId}{u:TUnit}(h:cV p u=true):ef p u∈bo u∧bj (ef p u)=p:=by grind[OD,Sn,CC]
theorem rU(l m:List TUnit):ia (l++m)=ia l++ia m:=by
 induction l with
 |nil=>rw[rY];rfl
 |cons k r ih=>grind[gK]
theorem qf(u:TUnit)(l:List TUnit):dj (jl u l)=bj u::ia l:=by rw[nY];rfl
theorem lu(u:TUnit):nU u=(dj u).length:=(uV u).symm
theorem wb(u:TUnit)(l:List TUnit):bo (jl u l)=jl u l::dr l:=by rw[da];rfl
theorem sW{q:PId}:∀(u:TUnit),cV q u=true→∃v C,v∈bo u∧bj v=q∧(dj u).Perm (C++dj v)∧∀f,(dj (dJ q f u)).Perm (C++dj (f v))∧
  ∀x,x∈bo (dJ q f u)→x∈bo (f v)∨∃y,y∈bo u∧bj x=bj y∧x.kids.length=y.kids.length∧x.head=y.head∧x.words=y.words:=TUnit.ind fun u ih h=>by
 cases hi:fE q u with
 |true=>
  refine⟨u,[],dq u,(gy q u).1 hi,List.Perm.refl _,fun f=>?_⟩;grind[qH]
 | false=>
  have key:∀(r:List TUnit),(∀k,k∈r→k∈u.kids)→ch q r≠[]→∃v C,v∈dr r∧bj v=q∧(ia r).Perm (C++dj v)∧∀f,(ia (eg q f r)).Perm (C++dj (f v))∧(eg q f r).length=r.length∧
    ∀x,x∈dr (eg q f r)→x∈bo (f v)∨∃y,y∈dr r∧bj x=bj y∧x.kids.length=y.kids.length∧x.head=y.head∧x.words=y.words:=by
   intro r;induction r with
   |nil=>grind[kn]
   | cons k r ihr=>
    intro hm hw;cases hk:cV q k with
    | true=>
     obtain⟨v,C,h1,h2,h3,h4⟩:=ih k (hm k (eu ..)) hk;refine⟨v,C++ia r,by grind[bM],h2,?_,fun f=>?_⟩
     ·grind[gK]
     ·have e:eg q f (k::r)=dJ q f k::r:=by rw[ju,hk];rfl
      rw[e];refine⟨?_,rfl,fun x hx=>?_⟩
      ·grind[gK]
      ·rw[bM]at hx;rcases js.1 hx with hx|hx
       ·grind[bM]
       ·exact .inr ⟨x,by grind[bM],rfl,rfl,rfl,rfl⟩
    |false=>
     rw[iE hk]at hw;obtain⟨v,C,h1,h2,h3,h4⟩:=ihr (fun x hx=>hm x (eN _ hx)) hw;refine⟨v,dj k++C,by grind[bM],h2,by grind[gK],fun f=>?_⟩;have e:eg q f (k::r)=k::eg q f r:=by rw[ju,hk];rfl
     rw[e];refine⟨by grind[gK],by simp_all,fun x hx=>?_⟩;rw[bM]at hx;rcases js.1 hx with hx|hx
     ·exact .inr ⟨x,by grind[bM],rfl,rfl,rfl,rfl⟩
     grind[bM]
  have hw:ch q u.kids≠[]:=by
   intro e;have:=kR h;rw[gz,hi,e]at this;simp_all
  obtain⟨v,C,h1,h2,h3,h4⟩:=key u.kids (fun _ h=>h) hw;refine⟨v,bj u::C,by grind[da],h2,by grind[nY],fun f=>?_⟩;rw[km hi];refine⟨by grind[qf],fun x hx=>?_⟩;rw[wb]at hx;rcases eM.1 hx with rfl|hx
  ·exact .inr ⟨u,dq u,rfl,(h4 f).2.1,rfl,rfl⟩
  grind[da]
theorem vk{p:PId}:∀(u:TUnit),hJ p u=true→∃q i,q∈bo u∧se p u=bj q∧qY p u=Int.ofNat i∧i<q.kids.length∧bj (gD q.kids i)=p:=TUnit.ind fun u ih h=>by
 have hh:cV p u=true:=by
  cases e:cV p u with
  |true=>rfl
  |false=>grind[QB]
 cases hi:fE p u with
 |true=>
  unfold hJ at h;rw[qL hi]at h;cases h
 | false=>
  have key:∀(r:List TUnit),ch p r≠[]→∃j k,j<r.length∧gD r j=k∧cV p k=true∧ch p r=aG p k∧∀n,dB (cV p) r n=Int.ofNat (n+j):=by
   intro r;induction r with
   |nil=>grind[kn]
   | cons k r ihr=>
    intro hw;cases hk:cV p k with
    |true=>
     refine⟨0,k,vS _,rfl,hk,nL hk,fun n=>?_⟩;unfold dB;simp_all
    | false=>
     rw[iE hk]at hw;obtain⟨j,k2,h1,h2,h3,h4,h5⟩:=ihr hw;refine⟨j+1,k2,by simp_all,h2,h3,by grind[iE],fun n=>?_⟩;have e:dB (cV p) (k::r) n=dB (cV p) r (n+1):=by
      show(bif cV p k then _ else _)=_
      simp_all
     grind
  have hw:ch p u.kids≠[]:=by
   intro e;have:=kR hh;rw[gz,hi,e]at this;simp_all
  obtain⟨j,k,h1,h2,h3,h4,h5⟩:=key u.kids hw;obtain⟨y,t,e⟩:=vp h3;have hway:aG p u=u::aG p k:=by rw[gz,hi,h4,e];rfl
  have hkm:k∈u.kids:=h2▸ge h1;rw[Is h,It h];cases hk:hJ p k with
  | true=>
   obtain⟨q,i,q1,q2,q3,q4,q5⟩:=ih k hkm hk;rw[Is hk]at q2;rw[It hk]at q3;have e2:IK p u=IK p k:=by
    unfold IK;rw[hway];have:2≤(aG p k).length:=by
     unfold hJ at hk;cases hl:ap (Int.ofNat (aG p k).length) 2 with
     |true=>grind
     |false=>have:=aE hl;grind
    show gD (u::aG p k) ((aG p k).length+1-2)=_
    rw[show(aG p k).length+1-2=((aG p k).length -2)+1 by omega];rfl
   grind[bA]
  | false=>
   have hl:(aG p k).length=1:=by
    unfold hJ at hk;cases hl:ap (Int.ofNat (aG p k).length) 2 with
    |false=>grind
    |true=>have:=am hl;grind
   have hik:fE p k=true:=by
    cases hik:fE p k with
    |true=>rfl
    |false=>
     rw[gz,hik]at hl e;grind
   have e2:IK p u=u:=by
    unfold IK;rw[hway];show gD (u::aG p k) ((aG p k).length+1-2)=_
    rw[hl];rfl
   rw[e2,h5 0,fw];exact⟨u,j,dq u,rfl,rfl,h1,by grind[gy]⟩
theorem UQ{p:PId}{u:TUnit}(h:cV p u=true)(hi:fE p u=false):hJ p u=true:=by
 have hw:aG p u≠[]:=kR h;have e:aG p u=match ch p u.kids with|[]=>[]|y::t=>u::y::t:=by rw[gz,hi];rfl
 unfold hJ;rw[e]at hw ⊢;cases ew:ch p u.kids with
 |nil=>simp_all
 |cons y t=>
  show ak (ap (Int.ofNat (u::y::t).length) 2)=true
  rw[gr (by grind)];rfl
theorem T6{v:TUnit}{i:Nat}(h:i<v.kids.length):(dj v).Perm (dj (gh i v)++dj (gD v.kids i)):=by
 unfold gh;rw[nY v,qf,Oc,rU];have e:v.kids=v.kids.take i++(gD v.kids i::v.kids.drop (i+1)):=by grind[gD,List.drop_eq_getElem_cons,List.take_append_drop]
 grind[rU,gK]
theorem T5{v x:TUnit}{i:Nat}:(dj (du i x v)).Perm (dj v++dj x):=by
 unfold du wG;rw[nY v,qf,rU,gK,yy];grind[List.take_append_drop,rU]
end Go.Ev
namespace Go.Ev
open Go
section
variable{P:Program}{G:eC}{call:cZ}{m:Nat}{c:Code}{d:D}{s s':St}{ops:Array Oper}{h h':AHeap}{o:AObj}{f:FuncId}{args:List AV}{v u:AV}{pl pl':Pl}{M M':dt}{w w':World}
theorem cD.psh(g2:cD pl M h w):cD pl M (h.push o) w:=
 ⟨fun id p hp=>Nat.lt_succ_of_lt (g2.dom id p hp),(fun id p o' hp hg=>by
  rcases dK hg with⟨rfl,_⟩|⟨_,h2⟩
  ·exact absurd (g2.dom _ p hp) (wZ _)
  ·exact g2.obj id p o' hp h2),g2.blk,g2.inj,g2.imm,g2.sep⟩
theorem cS.psh(g2:cD pl M h w)(g4:cS h pl M w h' pl' M' w')(g2':cD pl' M' h' w'):cS h pl M w (h'.push o) pl' M' w':=
 ⟨g4.ext,g4.new,g4.mem,g4.size,g4.kept,g4.blks,(fun id p hp hg=>by
  have:=g4.live id p hp hg;cases hh:(h'.push o).get id with
  |none=>rfl
  |some o'=>
   rcases dK hh with⟨rfl,_⟩|⟨_,h2⟩
   ·obtain⟨p',e1,_⟩:=g4.ext _ p hp;exact absurd (g2'.dom _ p' e1) (wZ _)
   simp_all),g4.stay,g4.memNew,g4.os,g4.tape,g4.out,g4.drawn⟩
theorem aI.psh(h0:aI P G f args h (fun v1 h1=>v1=v∧h1=h'))(hl:Le u v):aI P G f args h (fun v1 h1=>v1=u∧h1=h'.push o):=by
 intro pl M w vs hg hr hv;have key:∀{cv w'},iZ pl M h w v h' cv w'→iZ pl M h w u (h'.push o) cv w':=fun⟨pl',M',k1,k2,k3,k4⟩=>⟨pl',M',hl _ _ _ k1,cD.psh k2,cS.psh hr k3 k2,Nat.le_succ_of_le k4⟩
 rcases h0 pl M w vs hg hr hv with⟨h1,h2⟩|⟨cv,w',v',h'',h1,⟨rfl,rfl⟩,h3⟩
 ·exact .inl ⟨h1,Calls.mono h2 fun e w' ⟨cv,v',h'',k1,⟨k2,k2'⟩,k3⟩=>⟨cv,u,h'.push o,k1,⟨rfl,rfl⟩,by simp_all⟩⟩
 ·exact .inr ⟨cv,w',u,_,h1,⟨rfl,rfl⟩,key h3⟩
theorem JF{Ψ Ψ':AV→AHeap→Prop}(o:AObj)(h0:aI P G f args h Ψ)(hΨ:∀v h',Ψ v h'→∃u,Le u v∧Ψ' u (h'.push o)):aI P G f args h Ψ':=by
 intro pl M w vs hg hr hv;have key:∀{v u h' cv w'},Le u v→iZ pl M h w v h' cv w'→iZ pl M h w u (h'.push o) cv w':=fun hl ⟨pl',M',k1,k2,k3,k4⟩=>⟨pl',M',hl _ _ _ k1,cD.psh k2,cS.psh hr k3 k2,Nat.le_succ_of_le k4⟩
 rcases h0 pl M w vs hg hr hv with⟨h1,h2⟩|⟨cv,w',v',h'',h1,h2,h3⟩
 ·refine .inl ⟨h1,Calls.mono h2 fun e w' ⟨cv,v',h'',k1,k2,k3⟩=>?_⟩;grind
 ·obtain⟨u,q1,q2⟩:=hΨ _ _ h2;exact .inr ⟨cv,w',u,_,h1,q2,key q1 h3⟩
theorem Pj(pl:Pl)(M:dt)(p:Place)(x:Option Obj):bp pl M p .dead x:=by cases x<;>trivial
theorem aI.dead{i:Nat}{Ψ Ψ':AV→AHeap→Prop}(h0:aI P G f args h Ψ)(hi:h.n≤i)(hm:i<1000000)(hΨ:∀v h',Ψ v h'→Ψ' v (h'.put i .dead)):aI P G f args h Ψ':=by
 intro pl M w vs hg hr hv;have key:∀{v h' cv w'},iZ pl M h w v h' cv w'→iZ pl M h w v (h'.put i .dead) cv w':=fun⟨pl',M',k1,k2,k3,k4⟩=>⟨pl',M',k1,⟨k2.dom,(fun id p o hp hg=>by
  rcases AHeap.get_put hm hg with⟨_,rfl⟩|⟨_,h2⟩
  ·grind[Pj]
  ·exact k2.obj id p o hp h2),k2.blk,k2.inj,k2.imm,k2.sep⟩,⟨k3.ext,k3.new,k3.mem,k3.size,k3.kept,k3.blks,(fun id p hp hg=>by
   have hl:=hr.dom id p hp;have hn:=k3.live id p hp hg;cases hh:AHeap.get (AHeap.put _ i .dead) id with
   |none=>rfl
   |some o'=>grind[AHeap.get_put]),k3.stay,k3.memNew,k3.os,k3.tape,k3.out,k3.drawn⟩,k4⟩
 rcases h0 pl M w vs hg hr hv with⟨h1,h2⟩|⟨cv,w',v',h'',h1,h2,h3⟩
 ·exact .inl ⟨h1,Calls.mono h2 fun e w' ⟨cv,v',h'',k1,k2,k3⟩=>⟨cv,v',h''.put i .dead,k1,hΨ _ _ k2,key k3⟩⟩
 ·exact .inr ⟨cv,w',v',_,h1,hΨ _ _ h2,key h3⟩
end
section
variable{P:Program}{G:eC}{ops:Array Oper}{o:Oper}{l:List Oper}{s:St}{b:Option Nat}
theorem xj{t tx e:TypeId}{i:TypeInfo}{sz bt:Nat}(hsz:i.size=sz)(hbt:i.bytes=bt){z z0:AV}{sO xO:Operand}{dst:Option Tmp}{ty:TypeId}{pos:String}{after:Array Edge}{guard:Option (Nat×Bool)}{xs:List AV}
  (ht:P.underlying t=some (.slice e))(hk:∃e',P.underlying tx=some (.slice e'))(hi:P.info? e=some i)(hz:iR P e=some z0)(hzl:Le z z0)
  (hs:(co G sO).run s.tmps=some (.ps [] true))(hx:(co G xO).run s.tmps=some (.ls xs))(hne:xs≠[])(hfit:dC sz xs=true)(hzf:dC sz [z]=true)(hsm:small xs.length bt=true)(hs0:0<sz)
  (pl:Pl)(M:dt)(a:Act)(w:World)(g1:pj G pl M)(g2:cD pl M s.heap w)(g3:FrRel pl M s.tmps a):
  ∃(k:Nat)(pl':Pl)(M':dt)(cv:Value)(w':World),k=0∧(execOp a.eval ⟨dst,.call ⟨.builtin .append,#[sO,xO],#[t,tx]⟩,ty,pos,after,guard⟩).run P w=.ok (.value cv) w'∧
   VRel pl' M' (.slice s.heap.n 0 0 xs.length none) cv∧cD pl' M' (s.heap.push (.row sz true 0 xs)) w'∧cS s.heap pl M w (s.heap.push (.row sz true 0 xs)) pl' M' w'∧s.heap.n≤(s.heap.push (.row sz true 0 xs)).n:=by
 subst hsz;subst hbt;have hsr:=bJ g1 g3 hs;have hxr:=bJ g1 g3 hx;obtain⟨news,hsrc⟩:=yD (P:=P) g2 hxr (show kj s.heap (.ls xs)=some xs from rfl) hne hfit;obtain⟨i2,zv,hz1,hz2,hz3⟩:=mb hz;rw[hi]at hz1;cases hz1
 obtain⟨b1,b2⟩:=jf hsm;have hpos:0<xs.length:=pI.2 hne;generalize hq:a.eval sO=cs at hsr;generalize hq2:a.eval xO=cx at hxr hsrc;cases hsr with
 | ps hl htt hm hs2 hc=>
  rename_i ad cap sz c;have hcap:cap=0:=htt rfl;subst hcap;have hzr:=hzl _ _ _ (dN (pl:=pl) (M:=M) hz3);have hzt:=mX hzf z (by simp);have hzsz:zv.cells.size=i.size:=by rw[←hzr.cells.len];omega
  have hrun:=run_append_grow_src (P:=P) w t tx ty e i zv ht hi hz2 (some ad) 0 0 [] (by simp[Builtin.firstCells,loadCells,loadCellsFrom]) cx xs.length news (hsrc.src (.inl hk)) (by omega) (by omega) (growslice_fits (by omega) (by grind));have hge:=grownCap_ge w (0+xs.length) 0 e;obtain⟨C,hC⟩:∃C,C=grownCap w (0+xs.length) 0 e:=⟨_,rfl⟩
  rw[←hC]at hrun hge;have hin:=fQ hzr hzt.2 (C-(0+xs.length)) hzt.1 hs0;have hzl:(Builtin.zeroCells zv.cells (C-(0+xs.length))).toList.toArray=(Array.range ((C-(0+xs.length))*i.size)).map (zv.cells[· %zv.cells.size]!):=by grind[Builtin.zeroCells]
  have hnl:(Builtin.zeroCells zv.cells (C-(0+xs.length))).toList.length=(List.replicate (C-(0+xs.length)) z).length *i.size:=by grind[Builtin.zeroCells]
  have hin2:=kW (news:=(Builtin.zeroCells zv.cells (C-(0+xs.length))).toList) hsrc.mem (by grind) hsrc.newsLen hnl #[];have hce:(news++(Builtin.zeroCells zv.cells (C-(0+xs.length))).toList).toArray++#[]=([]++news).toArray++Builtin.zeroCells zv.cells (C-(0+xs.length)):=by grind
  rw[hce]at hin2;have hcs:(([]++news).toArray++Builtin.zeroCells zv.cells (C-(0+xs.length))).size=(xs++List.replicate (C-(0+xs.length)) z).length *i.size:=by simp only[wX,E1,BC,hsrc.newsLen,size_zeroCells,hzsz,eX,pH,jt]
  obtain⟨cells,hcells⟩:∃cells,cells=([]++news).toArray++Builtin.zeroCells zv.cells (C-(0+xs.length)):=⟨_,rfl⟩
  rw[←hcells]at hrun hin2 hcs;have hxC:xs.length≤C:=by omega
  have hszc:cells.size=C*i.size:=by grind
  have hin3:InMem pl M cells 0 i.size xs:=⟨by rw[fw,hszc];exact eA _ hxC,fun x hx=>hin2.elem x (Bn _ hx),fun i x j y h1 h2=>hin2.cell i x j y (by grind) h2⟩
  let p:Place:=⟨w.heap.size,0,i.size,xs.length,C*i.size⟩
  have hwd:(w.drew.alloc (.cells cells e)).heap=w.heap.push (.cells cells e):=rfl;obtain⟨r1,r2⟩:=cD.alloc (o:=.row i.size true 0 xs) (p:=p) g2 hwd ⟨rfl,rfl,rfl,nG _⟩ rfl
   ⟨rfl,rfl,rfl,hszc.symm,rfl,hs0,fun h=>(by grind),hin3.mono (fun id q hq=>⟨q,by rw[cM (by have:=g2.dom id q hq;omega)];omega,au _,fun _=>rfl⟩) (fun _ _ h=>h)⟩
  refine⟨0,upd pl s.heap.n p,M,.slice (some ⟨w.heap.size,0,none⟩) (0+xs.length) C,w.drew.alloc (.cells cells e),rfl,?_,?_,r1,r2,nG _⟩
  ·simp only[execOp,resolve,invoke,builtin,Sem.run_bind,Sem.run_pure,Result.andThen_ok,List.map_toArray,eD,yz,hq,hq2];show(Sem.run P (Builtin.append_ #[t,tx] ty #[Value.slice (some ad) 0 0,cx]) w).andThen _=_
   rw[hrun];rfl
  ·rw[fw]at hge ⊢;refine .slice (dL _ _ _) (au _) hge (fun k hk=>by grind) (fun _=>⟨.inr (by grind),by grind,by grind,(fun _=>by grind),(fun k hk=>by grind)⟩)
end
end Go.Ev
namespace Go.Ev
open Go
theorem iM{s u:List UInt8}{H:AHeap}(h:s.length+u.length≤2^62):bv H (U3 (.str s) (.str u))=some (.val (.str (s++u)) H):=by grind[Nat.ble_eq_true_of_le,U3,bv]
def ND(s:aO):aO:=bif ah (.ofNat (gD s 0).toNat) 124 then[92]else bif ah (.ofNat (gD s 0).toNat) 92 then[92]else[]
def Bi(s:aO)(w:PWord):aO:=s++[32]++ND w.text++w.text
def lI(s:aO)(l:List PWord):aO:=l.foldl Bi s
theorem oz(s:aO)(w:PWord)(r:List PWord):lI s (w::r)=lI (Bi s w) r:=rfl
theorem Eu{x:aO}{w:PWord}(h1:ah (.ofNat (gD w.text 0).toNat) 124=true):Bi x w=x++[32]++[92]++w.text:=by grind[Bi,ND]
theorem Et{x:aO}{w:PWord}(h1:ah (.ofNat (gD w.text 0).toNat) 124=false)(h2:ah (.ofNat (gD w.text 0).toNat) 92=true):Bi x w=x++[32]++[92]++w.text:=by grind[Bi,ND]
theorem Es{x:aO}{w:PWord}(h1:ah (.ofNat (gD w.text 0).toNat) 124=false)(h2:ah (.ofNat (gD w.text 0).toNat) 92=false):Bi x w=x++[32]++w.text:=by grind[Bi,ND]
theorem WW(d:Nat):ap (.ofNat d) 0=false:=rfl
def tY(u:TUnit):TUnit:=⟨0,0,0,u.kind,u.label,u.head,u.words,[]⟩
def DC(u:TUnit)(d:Nat):Bool:=ak (ap (.ofNat d) 0)&&(ak (ap 8 (.ofNat d))&&ko (cE (tY u)))
def f8(u:TUnit)(d:Nat):aO:=
 bif ak (DC u d)then[]else
  let a:=Lib.repeatL [32,32] d++c8 u.kind
  let b:=bif ak (ah u.kind 0)then a++([32]++u.label)else a
  let c:=bif ap 0 (.ofNat u.head.length)then lI (b++[58]) u.head else b
  bif ap 0 (.ofNat u.words.length)then lI (c++[32,124]) u.words else c
mutual
def eY:Nat→TUnit→List aO
 |d,⟨a,i,n,k,l,h,w,ks⟩=>f8 ⟨a,i,n,k,l,h,w,ks⟩ d::dX (d+1) ks
def dX:Nat→List TUnit→List aO
 |_,[]=>[]
 |d,k::r=>eY d k++dX d r
end
theorem Ch(d:Nat)(u:TUnit):eY d u=f8 u d::dX (d+1) u.kids:=by cases u;rw[eY];rfl
theorem wt(d:Nat):dX d []=[]:=by rw[dX]
theorem l8(d:Nat)(k:TUnit)(r:List TUnit):dX d (k::r)=eY d k++dX d r:=by rw[dX]
def xg(u:TUnit):aO×Int:=
 bif ak (ko (cE u))then([],1)else
  bif ap 16384 (.ofNat (Lib.join (eY 0 u) [10]++[10]).length)then([],6)else(Lib.join (eY 0 u) [10]++[10],0)
theorem RX(s:aO):(ND s).length≤1:=by grind[ND]
theorem Sj(s:aO)(w:PWord):(Bi s w).length≤s.length+(w.text.length+2):=by grind[RX,Bi]
theorem uM{l:List PWord}(h:∀w,w∈l→w.text.length≤24)(s:aO):(lI s l).length≤s.length+26*l.length:=by
 induction l generalizing s with
 |nil=>exact au _
 |cons w r ih=>grind[Sj,oz]
theorem zB(k:Int):(c8 k).length≤16:=by
 unfold c8;split<;>decide
theorem gv{a b:Int}(h:ak (ap a b)=true):b≤a:=aE (by cases q:ap a b<;>rw[q]at h<;>first|rfl|grind)
theorem I1{s:aO}(h:kX s=true):s.length≤7:=by
 unfold kX at h;simp only[bx]at h;have h1:=gv h.2.1;have h2:=gv h.2.2.2.1;grind
theorem L0{s:aO}(h:rD s=true):1≤s.length∧s.length≤24:=by
 unfold rD at h;simp only[bx]at h;have h1:=gv h.1;have h2:=gv h.2.1;grind
theorem H8{l:List PWord}(h:oa l=true):l.length≤256∧∀w,w∈l→1≤w.text.length∧w.text.length≤24:=by
 unfold oa qJ at h;simp only[bx,lL]at h;have h1:=gv h.1;simp only[aP]at h1;exact⟨by omega,fun w hw=>L0 (h.2.2 _ (kw.2 ⟨w,hw,rfl⟩))⟩
theorem N9{u:TUnit}(h:lH u=true):u.label.length≤7∧(u.head.length≤256∧∀w,w∈u.head→1≤w.text.length∧w.text.length≤24)∧(u.words.length≤256∧∀w,w∈u.words→1≤w.text.length∧w.text.length≤24):=by
 unfold lH at h;simp only[bx]at h;have h:=h.1;cases hk:ah u.kind 0 with
 |true=>
  rw[hk]at h;simp only[cond_true,bx]at h;have h1:u.label=[]:=RU h.1;have h2:=gv h.2;grind
 |false=>grind[I1,H8]
theorem PV{q:TUnit→Bool}{u:TUnit}(h:vN q u=true):q u=true:=by grind[yU]
theorem KT{u:TUnit}{d:Nat}(h:DC u d=true):d≤8∧u.label.length≤7∧(u.head.length≤256∧∀w,w∈u.head→1≤w.text.length∧w.text.length≤24)∧(u.words.length≤256∧∀w,w∈u.words→1≤w.text.length∧w.text.length≤24):=by
 unfold DC ko at h;simp only[bx]at h;have h1:=gv h.2.1;simp only[aP]at h1;have h2:=N9 (PV h.2.2.1);rw[mK]at h2;obtain⟨e1,⟨e2,e3⟩,e4,e5⟩:=h2;refine⟨by omega,e1,⟨by grind[tY,TUnit.head],fun w hw=>?_⟩,⟨by grind[tY,TUnit.words],fun w hw=>?_⟩⟩
 ·exact e3 (gF w) (kw.2 ⟨w,hw,rfl⟩)
 ·exact e5 (gF w) (kw.2 ⟨w,hw,rfl⟩)
theorem Eg{b:Bool}{x y:aO}{n:Nat}(h1:x.length≤n)(h2:y.length≤n):(bif b then x else y).length≤n:=by grind
theorem QX(u:TUnit)(d:Nat):(f8 u d).length≤2^14:=by
 unfold f8;cases h:DC u d with
 |false=>simp_all
 |true=>
  obtain⟨h1,h2,⟨h3,h4⟩,h5,h6⟩:=KT h;have k:=zB u.kind;have r:=Lib.repeatL_length [32,32] d;simp only[cO,gm]at r;have ha:(Lib.repeatL [32,32] d++c8 u.kind).length≤32:=by grind
  have hh:∀w,w∈u.head→w.text.length≤24:=fun w hw=>(h4 w hw).2
  have hw:∀w,w∈u.words→w.text.length≤24:=fun w hw=>(h6 w hw).2
  simp only[ak,cond_false];have hb:∀x:aO,x.length≤32→(bif ak (ah u.kind 0)then x++([32]++u.label)else x).length≤40:=fun x hx=>Eg (by grind) (by omega)
  have hc:∀x:aO,x.length≤40→(bif ap 0 (.ofNat u.head.length)then lI (x++[58]) u.head else x).length≤6700:=fun x hx=>Eg (by grind[uM]) (by omega)
  have hd:∀x:aO,x.length≤6700→(bif ap 0 (.ofNat u.words.length)then lI (x++[32,124]) u.words else x).length≤2^14:=fun x hx=>Eg (by have:=uM hw (x++[32,124]);grind) (by omega)
  grind
mutual
theorem kB(d:Nat):∀u:TUnit,(eY d u).length=nU u
 |⟨a,i,n,k,l,h,w,ks⟩=>by rw[eY,cO,wB (d+1) ks,nU];omega
theorem wB(d:Nat):∀l:List TUnit,(dX d l).length=eW l
 |[]=>by rw[dX,eW];rfl
 |k::r=>by rw[dX,eW,eX,kB d k,wB d r]
end
mutual
theorem zo(d:Nat):∀(u:TUnit)(s:aO),s∈eY d u→s.length≤2^14
 |⟨a,i,n,k,l,h,w,ks⟩,s,hs=>by
  rw[eY]at hs;rcases eM.1 hs with rfl|hs
  ·exact QX _ _
  ·exact wA (d+1) ks s hs
theorem wA(d:Nat):∀(l:List TUnit)(s:aO),s∈dX d l→s.length≤2^14
 |[],s,hs=>by rw[dX]at hs;cases hs
 |k::r,s,hs=>by
  rw[dX]at hs;rcases js.1 hs with hs|hs
  ·exact zo d k s hs
  ·exact wA d r s hs
end
theorem uX{sep:aO}{B:Nat}:∀{l:List aO},(∀s,s∈l→s.length≤B)→(Lib.joinTail sep l).length≤l.length*(sep.length+B)
 |[],_=>bG _
 |x::r,h=>by
  have h1:=h x eu;have h2:=uX (sep:=sep) (l:=r) fun s hs=>h s (eN _ hs)
  grind[Lib.joinTail,Nat.succ_mul]
theorem Qx{sep:aO}{B:Nat}{l:List aO}(h:∀s,s∈l→s.length≤B):(Lib.join l sep).length≤l.length*(sep.length+B):=by
 cases l with
 |nil=>exact bG _
 |cons x r=>
  have h1:=h x eu;have h2:=uX (sep:=sep) (l:=r) fun s hs=>h s (eN _ hs)
  grind[Lib.join_cons,Nat.succ_mul]
theorem ww:∀(l:List TUnit),(∀k,k∈l→nU (cE k)=nU k∧∀x,x∈bo (cE k)→∃y,y∈bo k∧x=cE y)→eW (l.map cE)=eW l∧∀x,x∈dr (l.map cE)→∃y,y∈dr l∧x=cE y
 |[],_=>⟨rfl,fun x hx=>by grind[fN]⟩
 |k::r,h=>by
  obtain⟨a1,a2⟩:=h k eu;obtain⟨b1,b2⟩:=ww r fun k hk=>h k (eN _ hk)
  grind[eW,bM]
theorem L9:∀u:TUnit,nU (cE u)=nU u∧∀x,x∈bo (cE u)→∃y,y∈bo u∧x=cE y:=by
 refine TUnit.ind fun u ih=>?_
 obtain⟨h1,h2⟩:=ww u.kids ih;refine⟨?_,fun x hx=>?_⟩
 ·rw[iT (cE u),iT u,mK];exact congrArg (1+ ·) h1
 ·rw[da,mK]at hx;rcases eM.1 hx with rfl|hx
  ·grind[da,List.mem_cons_self,mK]
  ·obtain⟨y,h3,h4⟩:=h2 x hx;grind[da]
end Go.Ev
namespace Go.Ev
open Go
structure OkB(u:TUnit):Prop where
 nd:(dj u).Nodup
 n:nU u≤1024
 w:∀x,x∈bo u→x.head.length≤300∧x.words.length≤300
theorem OkB.uni{u v x:TUnit}(h:OkB u)(hv:v∈bo u)(hx:x∈bo u)(e:bj v=bj x):v=x:=Ca h.nd hv hx e
theorem sH{u x:TUnit}(hx:x∈bo u):cV (bj x) u=true:=Lw u ⟨x,hx,rfl⟩
theorem mU:∀{l:List TUnit}{x:TUnit},x∈dr l→∃k,k∈l∧x∈bo k
 |[],x,h=>by grind[fN]
 |k::r,x,h=>by
  rw[bM]at h;rcases js.1 h with h|h
  ·simp_all
  ·obtain⟨k',h1,h2⟩:=mU h;grind
theorem BR{u:TUnit}:∀(p:List PStep)(l:List TUnit),(∀x,x∈l→x∈bo u)→∀x,x∈gk p l→x∈bo u
 |[],l,h,x,hx=>h x hx
 |s::r,l,h,x,hx=>by
  refine BR r _ (fun y hy=>?_) x hx;grind[iH,bA,dq]
theorem Ni{u:TUnit}{p:List PStep}{x:TUnit}(h:x∈dS u p):x∈bo u:=by
 unfold dS at h;grind[dq,BR]
theorem qn{u:TUnit}{p:List PStep}(h:(aF u p).2=0):cV (aF u p).1 u=true:=by
 unfold aF at h ⊢;split at h
 ·omega
 ·rename_i x e;exact sH (Ni (by rw[e];simp_all))
 omega
def EG(u:TUnit)(sp:PSpot):Prop:=∃n:Nat,sp.at_=Int.ofNat n∧n≤2^20∧∀v,v∈bo u→fE sp.id v=true→n≤v.kids.length
theorem Pn{u:TUnit}(hu:OkB u){p:PId}(h:hJ p u=true){n:Nat}(hn:n≤1):EG u ⟨se p u,qY p u+Int.ofNat n⟩:=by
 obtain⟨q,i,h1,h2,h3,h4,h5⟩:=vk u h;have hk:=bd q;have:=dM h1;have:=hu.n;refine⟨i+n,by simp_all,by omega,fun v hv hi=>?_⟩;have hi:fE (se p u) v=true:=hi;rw[gy,h2]at hi;rw[hu.uni hv h1 hi];omega
theorem GV{u:TUnit}(hu:OkB u){p:PId}(hp:cV p u=true){w:Int}(he:(dc w u p).2=0):EG u (dc w u p).1:=by
 unfold dc at he ⊢;cases h0:ah w 0 with
 |true=>exact⟨0,rfl,bG _,fun v _ _=>bG _⟩
 | false=>
  rw[h0]at he;simp only[cond_false]at he ⊢;cases h1:ah w 1 with
  |true=>
   obtain⟨a,b⟩:=vz hp;have hk:=bd (ef p u);have:=dM a;have:=hu.n;refine⟨_,rfl,by omega,fun v hv hi=>?_⟩;rw[gy]at hi;rw[hu.uni hv a (hi.trans b.symm)];omega
  |false=>
   rw[h1]at he;simp only[cond_false]at he ⊢;have key:∀n:Nat,n≤1→(ny u p (Int.ofNat n)).2=0→EG u (ny u p (Int.ofNat n)).1:=fun n hn he=>by grind[ny,Pn]
   cases h2:ah w 2 with
   |true=>grind
   |false=>rw[h2]at he;exact key 0 (bG _) he
theorem OkB.with{u:TUnit}(hu:OkB u){q:PId}{f:TUnit→TUnit}
  (hf:∀v C,v∈bo u→bj v=q→(dj u).Perm (C++dj v)→(C++dj (f v)).Nodup∧(C++dj (f v)).length≤1024∧∀x,x∈bo (f v)→x.head.length≤300∧x.words.length≤300):OkB (dJ q f u):=by
 cases hq:cV q u with
 |false=>grind[IQ]
 |true=>
  obtain⟨v,C,h1,h2,h3,h4⟩:=sW u hq;obtain⟨h5,h6⟩:=h4 f;obtain⟨a,b,c⟩:=hf v C h1 h2 h3;refine⟨h5.nodup_iff.2 a,by rw[lu,h5.length_eq];omega,fun x hx=>?_⟩;grind[cases OkB]
theorem OkB.keep{u:TUnit}(hu:OkB u){q:PId}{f:TUnit→TUnit}(h1:∀v,bj (f v)=bj v∧(f v).kids=v.kids)(h2:∀v,v∈bo u→(f v).head.length≤300∧(f v).words.length≤300):OkB (dJ q f u):=by
 refine hu.with fun v C hv hq hp=>?_
 have e:dj (f v)=dj v:=by grind[nY]
 rw[e];refine⟨hp.nodup_iff.1 hu.nd,by rw[←hp.length_eq,←lu];exact hu.n,fun x hx=>?_⟩;rw[da]at hx;rcases eM.1 hx with rfl|hx
 ·simp_all
 ·rw[(h1 v).2]at hx;obtain⟨k,k1,k2⟩:=mU hx;grind[iH,bA,cases OkB]
theorem TK{v x y:TUnit}{i:Nat}(h:y∈bo (du i x v)):y=du i x v∨y∈bo x∨y∈bo v:=by
 rw[da]at h;rcases eM.1 h with rfl|h
 ·simp_all
 ·obtain⟨k,k1,k2⟩:=mU h;have k1:k∈v.kids.take i++(x::v.kids.drop i):=k1;rcases js.1 k1 with q|q
  ·grind[bA]
  ·grind[bA]
theorem OkB.ins{u x:TUnit}(hu:OkB u){q:PId}{i:Nat}(hx:(dj x).Nodup)(hd:∀p,p∈dj x→p∉dj u)(hn:nU u+nU x≤1024)(hw:∀y,y∈bo x→y.head.length≤300∧y.words.length≤300):OkB (dJ q (du i x) u):=by
 refine hu.with fun v C hv hq hp=>?_
 have h1:(C++dj (du i x v)).Perm (dj u++dj x):=((List.Perm.append_left C T5).trans (by grind))
 refine⟨h1.nodup_iff.2 (List.nodup_append.2 ⟨hu.nd,hx,fun a ha b hb e=>hd b hb (e▸ha)⟩),by rw[h1.length_eq,eX,←lu,←lu];omega,fun y hy=>?_⟩;rcases TK hy with rfl|h|h
 ·exact hu.w v hv
 all_goals grind[iH,cases OkB]
theorem KC{v y:TUnit}{i:Nat}(h:y∈bo (gh i v)):y=gh i v∨y∈bo v:=by
 rw[da]at h;rcases eM.1 h with rfl|h
 ·simp_all
 ·obtain⟨k,k1,k2⟩:=mU h;exact .inr (bA (List.mem_of_mem_eraseIdx (show k∈v.kids.eraseIdx i from k1)) k2)
theorem OkB.del{u v:TUnit}(hu:OkB u){i:Nat}(hv:v∈bo u)(hi:i<v.kids.length):OkB (dJ (bj v) (gh i) u)∧(dj u).Perm (dj (dJ (bj v) (gh i) u)++dj (gD v.kids i)):=by
 obtain⟨v',C,h1,h2,h3,h4⟩:=sW u (sH hv);obtain rfl:=hu.uni h1 hv h2;obtain⟨h5,h6⟩:=h4 (gh i);have h7:(dj u).Perm (dj (dJ (bj v') (gh i) u)++dj (gD v'.kids i)):=h3.trans ((List.Perm.append_left C (T6 hi)).trans (by grind));have hnd:=h7.nodup_iff.1 hu.nd;refine⟨⟨(List.nodup_append.1 hnd).1,?_,fun x hx=>?_⟩,h7⟩
 ·have:=h7.length_eq;grind[lu,cases OkB]
 ·rcases h6 x hx with h|⟨y,y1,y2,y3,y4,y5⟩
  ·rcases KC h with rfl|h
   ·exact hu.w v' hv
   grind[iH,cases OkB]
  grind[cases OkB]
theorem Oo{q:PId}{f:TUnit→TUnit}:∀u:TUnit,cV q u=true→∃v,v∈bo u∧bj v=q∧f v∈bo (dJ q f u):=by
 refine TUnit.ind fun u ih h=>?_
 cases hi:fE q u with
 |true=>grind[dq,gy,qH]
 | false=>
  rw [km hi];have key:∀r:List TUnit,(∀k,k∈r→k∈u.kids)→(∃k,k∈r∧cV q k=true)→∃v,v∈dr r∧bj v=q∧f v∈dr (eg q f r):=by
   intro r;induction r with
   |nil=>grind
   | cons k r ihr=>
    intro hs ⟨y,hy,hyq⟩;rw[ju,bM];cases hk:cV q k with
    |true=>grind[bM]
    |false=>
     rcases eM.1 hy with rfl|hy
     ·grind
     ·obtain⟨v,a,b,c⟩:=ihr (fun k hk=>hs k (eN _ hk)) ⟨y,hy,hyq⟩;grind[bM]
  have hx:=vz h;have hne:ef q u≠u:=fun e=>by grind[gy]
  have hm:ef q u∈dr u.kids:=by grind[da]
  obtain⟨k,k1,k2⟩:=mU hm;obtain⟨v,a,b,c⟩:=key u.kids (fun _ h=>h) ⟨k,k1,Lw k ⟨_,k2,hx.2⟩⟩;grind[da,wb]
theorem QD{u q:TUnit}(hu:OkB u){i:Nat}(hq:q∈bo u)(hi:i<q.kids.length){p t:PId}{w:Int}{anc bs:Bool}(ht:cV t u=true){ok:Bool}
  (he:(nC p t (bj q) (Int.ofNat i) ok anc bs (dc w u t).1 (dc w u t).2).2=0):
  EG (dJ (bj q) (gh i) u) (nC p t (bj q) (Int.ofNat i) ok anc bs (dc w u t).1 (dc w u t).2).1:=by
 obtain⟨hr,_⟩:=hu.del hq hi;obtain⟨v',C,h1,h2,h3,h4⟩:=sW u (sH hq);obtain rfl:=hu.uni h1 hq h2;obtain⟨_,h6⟩:=h4 (gh i);have hlen:(gh i v').kids.length=v'.kids.length-1:=List.length_eraseIdx_of_lt hi;have own:∀v,v∈bo (dJ (bj v') (gh i) u)→bj v=bj v'→v.kids.length=v'.kids.length-1:=fun v hv e=>by
  obtain⟨z,z1,z2,z3⟩:=Oo (q:=bj v') (f:=gh i) u (sH hq);obtain rfl:=hu.uni z1 hq z2;rw[hr.uni hv z3 (e.trans rfl)];omega
 have oth:∀v,v∈bo (dJ (bj v') (gh i) u)→bj v≠bj v'→∃y,y∈bo u∧bj v=bj y∧v.kids.length=y.kids.length:=fun v hv hne=>by
  rcases h6 v hv with h|⟨y,y1,y2,y3,_⟩
  ·rcases KC h with rfl|h
   ·exact absurd rfl hne
   ·exact⟨v,iH hq h,rfl,rfl⟩
  grind
 have hk:=bd v';have hb:=dM hq;have hn:=hu.n;unfold nC at he ⊢;cases c1:(ak ok||((ak (bu t p)&&anc)||(bu t p&&ak bs)))with
 |true=>grind
 | false=>
  rw[c1]at he;simp only[cond_false]at he ⊢;cases c2:bu t p with
  |true=>
   refine⟨i,rfl,by omega,fun v hv hid=>?_⟩;grind[gy]
  | false=>
   rw[c2]at he;simp only[cond_false]at he ⊢;have e0:(dc w u t).2=0:=by grind
   obtain⟨n,n1,n2,n3⟩:=GV hu ht e0;rw[e0,n1];cases c4:bu (dc w u t).1.id (bj v')with
   |false=>
    have hne:(dc w u t).1.id≠bj v':=fun e=>by grind[mI]
    rw[show(ah 0 0&&(false&&ap (Int.ofNat i) (Int.ofNat n)))=false from rfl];refine⟨n,n1,n2,fun v hv hid=>?_⟩;grind[gy]
   | true=>
    have heq:=yZ c4;have hn':=n3 v' hq ((gy _ v').2 heq.symm);cases c5:ap (Int.ofNat i) (Int.ofNat n)with
    |true=>
     have c5:=am c5;simp only[aP]at c5;rw[show(ah 0 0&&(true&&true))=true from rfl];refine⟨n-1,by grind,by omega,fun v hv hid=>?_⟩;grind[gy]
    |false=>
     have c5:=aE c5;simp only[aP]at c5;rw[show(ah 0 0&&(true&&false))=false from rfl];refine⟨n,n1,n2,fun v hv hid=>?_⟩;grind[gy]
def yB(a i:Int)(n k:Nat):List PId:=(List.range' (n+1) k).map fun j=>⟨a,i,Int.ofNat j⟩
mutual
theorem vQ(a i:Int):∀(u:TUnit)(n w:Nat),dj (cP a i u n w)=yB a i n (nU u)
 |⟨a',i',n',k,l,h,ws,ks⟩,n,w=>by
  rw[nY,cP,nU];show _::ia (fV a i ks (n+1) _)=_
  rw[yA a i ks (n+1)];unfold yB;rw[Nat.add_comm 1 (eW ks),BA,eD];rfl
theorem yA(a i:Int):∀(l:List TUnit)(n w:Nat),ia (fV a i l n w)=yB a i n (eW l)
 |[],n,w=>by rw[fV,eW,rY];rfl
 |k::r,n,w=>by
  rw[fV,eW,gK,vQ a i k n w,yA a i r (n+nU k)];unfold yB;rw[←rA,show n+nU k+1=n+1+nU k by omega,←List.range'_append_1]
end
theorem O8(a i:Int)(n k:Nat):(yB a i n k).Nodup:=by
 unfold yB;exact List.Pairwise.map _ (fun x y hne e=>hne (Int.ofNat.inj (congrArg PId.n e))) List.nodup_range'
mutual
theorem J6(a i:Int)(B:Nat):∀(u:TUnit)(n w:Nat),(∀x,x∈bo u→x.head.length≤B∧x.words.length≤B)→∀x,x∈bo (cP a i u n w)→x.head.length≤B∧x.words.length≤B
 |⟨a',i',n',k,l,h,ws,ks⟩,n,w,hB,x,hx=>by
  rw[cP,bo]at hx;rcases eM.1 hx with rfl|hx
  ·have:=hB _ (by rw[bo];exact eu);exact⟨by show(cp _ _ _ _).length≤B;rw[fO,b6,cX];exact this.1,by show(cp _ _ _ _).length≤B;rw[fO,b6,cX];exact this.2⟩
  ·exact FU a i B ks _ _ (fun y hy=>hB y (by rw[bo];exact eN _ hy)) x hx
theorem FU(a i:Int)(B:Nat):∀(l:List TUnit)(n w:Nat),(∀x,x∈dr l→x.head.length≤B∧x.words.length≤B)→∀x,x∈dr (fV a i l n w)→x.head.length≤B∧x.words.length≤B
 |[],n,w,hB,x,hx=>by rw[fV,dr]at hx;cases hx
 |k::r,n,w,hB,x,hx=>by
  rw[fV,dr]at hx;rcases js.1 hx with hx|hx
  ·exact J6 a i B k _ _ (fun y hy=>hB y (by rw[dr];exact Bn _ hy)) x hx
  ·exact FU a i B r _ _ (fun y hy=>hB y (by rw[dr];exact v8 _ hy)) x hx
end
theorem O6(a i:Int)(u:TUnit)(n w:Nat):nU (cP a i u n w)=nU u:=by grind[lu,vQ,yB]
end Go.Ev
namespace Go.Ev
open Go
def Rt(u v:TUnit):Prop:=jl v []=jl u []
variable{q:PId}{f:TUnit→TUnit}{u:TUnit}
theorem Kz(h:∀v,jl (f v) []=jl v [])(u:TUnit):Rt u (dJ q f u):=by
 unfold Rt;cases hi:fE q u with
 |true=>grind[qH]
 |false=>rw[km hi];rfl
theorem Kq(h:hJ q u=true):Rt u (dJ q f u):=by
 cases hi:fE q u with
 |true=>unfold hJ at h;rw[qL hi]at h;cases h
 |false=>unfold Rt;rw[km hi];rfl
end Go.Ev
