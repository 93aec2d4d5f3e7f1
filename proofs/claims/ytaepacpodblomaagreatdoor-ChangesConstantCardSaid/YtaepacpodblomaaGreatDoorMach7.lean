/- An abstract machine for runs of the program, proved sound against the model: part 7. No conditions. -/
import Derived.Test.YtaepacpodblomaaGreatDoorMach6
import Derived.Laws.Externs
import Derived.Lib.Join
import Derived.Lib.Repeat
namespace Go.Ev
open Go
section
variable{a i:Int}{l r x:List aI}{s:aI}{m:List PWord}{j n k:Nat}
theorem sE(h1:l.drop j=x)(h2:x=s::r)(h3:s::r=l):1=[(⟨s,a,i,.ofNat (n+j)⟩:PWord)].length∧0<[(⟨s,a,i,.ofNat (n+j)⟩:PWord)].length∧[(⟨s,a,i,.ofNat (n+j)⟩:PWord)]++cA a i r (n+[(⟨s,a,i,.ofNat (n+j)⟩:PWord)].length)=cA a i l n∧[(⟨s,a,i,.ofNat (n+j)⟩:PWord)].length+r.length=l.length:=by
 have e:=congrArg List.length (h1.trans h2);have e2:=congrArg List.length h3;simp only[yc,cP]at e e2;have:j=0:=by omega
 subst this;refine⟨rfl,Nat.one_pos,?_,by grind⟩;rw[←h3,cA];rfl
theorem vB(h1:l.drop j=x)(h2:x=s::r)(h:k=m.length∧0<m.length∧m++cA a i (s::r) (n+m.length)=cA a i l n∧m.length+(s::r).length=l.length):
  k+1=(m++[(⟨s,a,i,.ofNat (n+j)⟩:PWord)]).length∧0<(m++[(⟨s,a,i,.ofNat (n+j)⟩:PWord)]).length∧(m++[(⟨s,a,i,.ofNat (n+j)⟩:PWord)])++cA a i r (n+(m++[(⟨s,a,i,.ofNat (n+j)⟩:PWord)]).length)=cA a i l n∧(m++[(⟨s,a,i,.ofNat (n+j)⟩:PWord)]).length+r.length=l.length:=by
 have e:=congrArg List.length (h1.trans h2);obtain⟨q1,q2,q3,q4⟩:=h;simp only[yc,cP]at e q4;have:j=m.length:=by omega
 subst this;simp only[eV,cP,gn];refine⟨by omega,by omega,?_,by omega⟩;rw[←q3,cA,nR];rfl
end
theorem gE(l:List PWord):(b6 l).length=l.length:=cJ ..
structure StampI(a i:Int)(ks:List TUnit)(n0 w0:Nat)(k n w:Nat)(m:List TUnit):Prop where
 len:m.length=k
 le:k≤ks.length
 all:m++fV a i (ks.drop k) n w=fV a i ks n0 w0
 num:n+eY (ks.drop k)=n0+eY ks
 wd:w+(km (ks.drop k)).length=w0+(km ks).length
theorem StampI.start(a i:Int)(ks:List TUnit)(n0 w0:Nat):StampI a i ks n0 w0 0 n0 w0 []:=⟨rfl,bH _,rfl,rfl,rfl⟩
theorem StampI.step{a i:Int}{ks:List TUnit}{n0 w0 k n w:Nat}{m:List TUnit}(h:StampI a i ks n0 w0 k n w m)(hk:k<ks.length):
  StampI a i ks n0 w0 (k+1) (n+nU (gD ks k)) (w+(m8 (gD ks k)).length) (m++[cR a i (gD ks k) n w]):=by
 have e:=yz hk;obtain⟨h1,h2,h3,h4,h5⟩:=h;rw[e,Db]at h3;rw[e,bh]at h4;rw[e,tQ,eV]at h5;exact⟨by simp_all,hk,by simp_all,by omega,by omega⟩
theorem StampI.done{a i:Int}{ks:List TUnit}{n0 w0 k n w:Nat}{m:List TUnit}(h:StampI a i ks n0 w0 k n w m)(hk:¬k<ks.length):m=fV a i ks n0 w0∧n=n0+eY ks∧w=w0+(km ks).length:=by grind[Fy,mW,Dx,cases StampI]
theorem WT{α:Type}[Inhabited α]{m r:List α}{k:Nat}(h:m.length=k):gD (m++r) k=gD r 0:=by grind[gD]
theorem Ua{α:Type}[Inhabited α]{l:List α}{k:Nat}:gD (l.drop k) 0=gD l k:=by simp_all[gD]
theorem S6{α:Type}{m r:List α}{k:Nat}{x y:α}(h:m.length=k):(m++x::r).set k y=(m++[y])++r:=by simp_all
def gq(a i:Int)(ks:List TUnit)(n0 w0 k n w:Nat)(L:List TUnit):Prop:=∃m,L=m++ks.drop k∧StampI a i ks n0 w0 k n w m
section
variable{a i:Int}{ks L:List TUnit}{n0 w0 k n w:Nat}
theorem gq.start(a i:Int)(ks:List TUnit)(n0 w0:Nat):gq a i ks n0 w0 0 n0 w0 ks:=⟨[],rfl,StampI.start ..⟩
theorem gq.len(h:gq a i ks n0 w0 k n w L):L.length=ks.length:=by
 obtain⟨m,rfl,hI⟩:=h;grind[cases StampI]
theorem gq.at_(h:gq a i ks n0 w0 k n w L):gD L k=gD ks k:=by
 obtain⟨m,rfl,hI⟩:=h;rw[WT hI.len,Ua]
theorem gq.step(h:gq a i ks n0 w0 k n w L)(hk:k<ks.length):gq a i ks n0 w0 (k+1) (n+nU (gD L k)) (w+(m8 (gD L k)).length) (L.set k (cR a i (gD L k) n w)):=by
 rw[h.at_];obtain⟨m,rfl,hI⟩:=h;exact⟨m++[cR a i (gD ks k) n w],by rw[yz hk,S6 hI.len],hI.step hk⟩
theorem gq.num(h:gq a i ks n0 w0 k n w L):n+eY (ks.drop k)=n0+eY ks∧w+(km (ks.drop k)).length=w0+(km ks).length:=by
 obtain⟨m,rfl,hI⟩:=h;grind[cases StampI]
theorem gq.done(h:gq a i ks n0 w0 k n w L)(hk:¬k<ks.length):L=fV a i ks n0 w0∧n=n0+eY ks∧w=w0+(km ks).length:=by
 obtain⟨m,rfl,hI⟩:=h;rw[E2 (by omega),ef];exact hI.done hk
theorem gq.room(h:gq a i ks n0 w0 k n w L)(hk:k<ks.length):n+nU (gD L k)≤n0+eY ks∧w+(m8 (gD L k)).length≤w0+(km ks).length:=by
 have h1:=h.num;rw[h.at_];grind[yz,bh,tQ]
end
end Go.Ev
namespace Go.Ev
open Go
section
variable{α:Type}
structure TotB(lt:α→α→Bool):Prop where
 trans:∀x y z,lt y x=false→lt z y=false→lt z x=false
 asym:∀x y,lt x y=true→lt y x=false
variable{lt:α→α→Bool}
theorem TotB.down(T:TotB lt){x y z:α}(h1:lt z y=false)(h2:lt z x=true):lt y x=true:=by
 cases h:lt y x with
 |true=>rfl
 |false=>grind[cases TotB]
theorem TotB.up(T:TotB lt){x y z:α}(h1:lt x y=true)(h2:lt z y=false):lt x z=true:=by
 cases h:lt x z with
 |true=>rfl
 |false=>grind[cases TotB]
end
section
variable{α:Type}[Inhabited α]{lt:α→α→Bool}{l x y z w:List α}{a b m n i j k s e p d:Nat}
theorem vM(h:l.length≤i):gD l i=default:=by grind[gD]
theorem WS{v:α}(h:i<l.length):gD (l.set i v) k=if k=i then v else gD l k:=by
 unfold gD;grind
theorem rW(hi:i<l.length)(hj:j<l.length):((l.set i (gD l j)).set j (gD l i)).Perm l:=by grind[gD,List.set_set_perm]
theorem xI(hi:i<l.length)(hj:j<l.length)(q:Nat):gD ((l.set i (gD l j)).set j (gD l i)) q=if q=j then gD l i else if q=i then gD l j else gD l q:=by grind[WS]
def dm(lt:α→α→Bool)(l:List α)(a b:Nat):Prop:=∀i j,a≤i→i<j→j<b→lt (gD l j) (gD l i)=false
structure SSeg(lt:α→α→Bool)(l x:List α)(a b:Nat):Prop where
 perm:x.Perm l
 out:∀i,i<a∨b≤i→gD x i=gD l i
 src:∀i,a≤i→i<b→∃j,a≤j∧j<b∧gD x i=gD l j
 srt:dm lt x a b
theorem SSeg.len(h:SSeg lt l x a b):x.length=l.length:=h.perm.length_eq
theorem md(h:dm lt l a b):SSeg lt l l a b:=⟨.refl _,fun _ _=>rfl,fun i h1 h2=>⟨i,h1,h2,rfl⟩,h⟩
theorem SSeg.cast{p q:Nat}(h:SSeg lt l x p q)(hp:p=a)(hq:q=b):SSeg lt l x a b:=by simp_all
theorem dm.nil(h:b≤a+1):dm lt l a b:=fun i j _ _ _=>by omega
theorem dm.sub(h:dm lt l a b)(h1:a≤i)(h2:j≤b):dm lt l i j:=fun p q e1 e2 e3=>h p q (by omega) e2 (by omega)
theorem dm.le(T:TotB lt)(h:dm lt l a b)(h1:a≤i)(h2:i≤j)(h3:j<b):lt (gD l j) (gD l i)=false:=by
 rcases fZ i j with q|q
 ·exact h i j h1 q h3
 grind[cases TotB]
structure InsI(lt:α→α→Bool)(l x:List α)(a i j:Nat):Prop where
 perm:x.Perm l
 out:∀q,q<a∨i+1≤q→gD x q=gD l q
 src:∀q,a≤q→q<i+1→∃p,a≤p∧p<i+1∧gD x q=gD l p
 mid:∀p q,a≤p→p<q→q≤i→q≠j→lt (gD x q) (gD x p)=false
theorem InsI.start(h:SSeg lt l x a (min i b))(h1:i<b):InsI lt l x a i i:=by
 rw[show min i b=i by omega]at h;refine⟨h.perm,fun q hq=>h.out q (by omega),fun q h1 h2=>?_,fun p q h1 h2 h3 h4=>h.srt p q h1 h2 (by omega)⟩;grind[cases SSeg]
theorem InsI.step(T:TotB lt)(h:InsI lt l x a i j)(hi:i<l.length)(h1:a<j)(h2:j≤i)(hk:k+1=j)(hl:lt (gD x j) (gD x k)=true):InsI lt l ((x.set j (gD x k)).set k (gD x j)) a i k:=by
 have hx:x.length=l.length:=h.perm.length_eq;have hj:j<x.length:=by omega
 have hkx:k<x.length:=by omega
 have g:=xI hj hkx;refine⟨(rW hj hkx).trans h.perm,fun q hq=>?_,fun q q1 q2=>?_,fun p q h3 h4 h5 h6=>?_⟩
 ·rw[g,if_neg (by omega),if_neg (by omega)];exact h.out q hq
 ·rw[g];split
  ·grind[cases InsI]
  ·split
   ·grind[cases InsI]
   ·exact h.src q q1 q2
 ·rw[g,g];rw[if_neg (show ¬q=k by omega)];by_cases c1:q=j
  ·rw[if_pos c1];by_cases c2:p=k
   ·rw[if_pos c2];exact T.asym _ _ hl
   ·grind[cases InsI]
  ·rw[if_neg c1];by_cases c2:p=k
   ·grind[cases InsI]
   ·rw[if_neg c2];by_cases c3:p=j
    ·grind[cases InsI]
    ·rw[if_neg c3];exact h.mid p q h3 h4 h5 c1
theorem InsI.stop(T:TotB lt)(h:InsI lt l x a i j)(ha:a≤j)(h2:j≤i)(hb:i<b)(hs:s=i+1)(hl:j=a∨∃k,k+1=j∧lt (gD x j) (gD x k)=false):SSeg lt l x a (min s b):=by
 rw[show min s b=i+1 by omega];refine⟨h.perm,h.out,h.src,fun p q h3 h4 h5=>?_⟩;grind[cases TotB,cases InsI]
theorem Np(hab:a≤b):SSeg lt l l a (min (a+1) b):=md (dm.nil (by omega))
theorem Qr(h:SSeg lt l x a (min i b))(hi:b≤i):SSeg lt l x a b:=by simp_all
def sw(a b m i:Nat):Nat:=if a≤i∧i<a+m then i-a+b else if b≤i∧i<b+m then i-b+a else i
structure SwP(l x:List α)(a b m:Nat):Prop where
 perm:x.Perm l
 at_:∀i,i<l.length→gD x i=gD l (sw a b m i)
theorem SwP.len(h:SwP l x a b m):x.length=l.length:=h.perm.length_eq
theorem SwP.start:SwP l l a b 0:=⟨.refl _,fun i _=>by simp_all[sw,if_neg]⟩
theorem SwP.step(h:SwP l x a b k)(hk:k<m)(ha:a+m≤b)(hb:b+m≤l.length)(hi:i=a+k)(hj:j=b+k)(hs:s=k+1):SwP l ((x.set i (gD x j)).set j (gD x i)) a b s:=by
 subst hi hj hs;have hx:x.length=l.length:=h.perm.length_eq;have h1:a+k<x.length:=by omega
 have h2:b+k<x.length:=by omega
 refine⟨(rW h1 h2).trans h.perm,fun q hq=>?_⟩;rw[xI h1 h2];by_cases c1:q=b+k
 ·rw[if_pos c1,h.at_ _ (by omega)];congr 1;unfold sw;grind
 ·rw[if_neg c1];by_cases c2:q=a+k
  ·rw[if_pos c2,h.at_ _ (by omega)];congr 1;unfold sw;grind
  ·rw[if_neg c2,h.at_ _ (by omega)];congr 1;unfold sw;grind
theorem SwP.done(h:SwP l x a b k)(hk:k=m):SwP l x a b m:=hk▸h
def ro(a m b i:Nat):Nat:=if a≤i∧i<a+(b-m)then i-a+m else if a+(b-m)≤i∧i<b then i-(b-m)else i
structure RoP(l x:List α)(a m b:Nat):Prop where
 perm:x.Perm l
 at_:∀q,q<l.length→gD x q=gD l (ro a m b q)
theorem RoP.len(h:RoP l x a m b):x.length=l.length:=h.perm.length_eq
theorem RoP.cast{p q r:Nat}(h:RoP l x p q r)(hp:p=a)(hq:q=m)(hr:r=b):RoP l x a m b:=by simp_all
structure RoI(l x:List α)(a m b i j:Nat):Prop where
 perm:x.Perm l
 i0:0<i
 j0:0<j
 im:i≤m
 jn:m+j≤l.length
 at_:∀q,q<l.length→gD x (ro (m-i) m (m+j) q)=gD l (ro a m b q)
theorem RoI.len(h:RoI l x a m b i j):x.length=l.length:=h.perm.length_eq
theorem RoI.start(ha:a<m)(hm:m<b)(hb:b≤l.length)(hi:i=m-a)(hj:j=b-m):RoI l l a m b i j:=by
 subst hi hj;refine⟨.refl _,by omega,by omega,by omega,by omega,fun q _=>?_⟩;grind
theorem Vf(ham:a≤m)(hmb:m≤b)(hb:b≤n)(hi:i<n):ro a m b i<n:=by grind[ro]
theorem RoI.left{p q r:Nat}(h:RoI l x a m b i j)(hs:SwP x y p q r)(hp:p=m-i)(hq:q=m)(hr:r=j)(hij:j<i)(hk:k=i-j):RoI l y a m b k j:=by
 subst hk;subst hp;have hq:=hq.symm;subst hq;have hr:=hr.symm;subst hr;have hi:=h.im;have hj:=h.jn;have h0:=h.j0;refine⟨hs.perm.trans h.perm,by omega,h0,by omega,hj,fun q hq=>?_⟩;rw[hs.at_ _ (by rw[h.len];simp_all[Vf]),←h.at_ q hq];congr 1;unfold sw ro;grind
theorem RoI.right{p q r:Nat}(h:RoI l x a m b i j)(hs:SwP x y p q r)(hp:p=m-i)(hq:q=m+j-i)(hr:r=i)(hij:i<j)(hk:k=j-i):RoI l y a m b i k:=by
 subst hk;subst hp;have hq:=hq.symm;subst hq;have hr:=hr.symm;subst hr;have hi:=h.im;have hj:=h.jn;have h0:=h.i0;refine⟨hs.perm.trans h.perm,h0,by omega,hi,by omega,fun q hq=>?_⟩;rw[hs.at_ _ (by rw[h.len];exact Vf (by omega) (by omega) (by omega) hq),←h.at_ q hq];congr 1;unfold sw ro;by_cases c1:m-i≤q∧q<m-i+(m+(j-i)-m)
 ·grind
 ·rw[if_neg c1];by_cases c2:m-i+(m+(j-i)-m)≤q∧q<m+(j-i)
  ·grind
  ·rw[if_neg c2];grind
theorem RoI.stop{p q r:Nat}(h:RoI l x a m b i j)(hs:SwP x y p q r)(hp:p=m-i)(hq:q=m)(hr:r=i)(hij:i=j):RoP l y a m b:=by
 subst hij;subst hp;have hq:=hq.symm;subst hq;have hr:=hr.symm;subst hr;have hi:=h.im;have hj:=h.jn;refine⟨hs.perm.trans h.perm,fun q hq=>?_⟩;rw[hs.at_ _ (by rw[h.len];omega),←h.at_ q hq];congr 1;unfold sw ro;grind
theorem RoP.none(h:m≤a∨b≤m)(ham:a≤m)(hmb:m≤b):RoP l l a m b:=⟨.refl _,fun q _=>by
 congr 1;unfold ro;grind⟩
structure FstI(lt:α→α→Bool)(l:List α)(a m b i j:Nat):Prop where
 mi:m≤i
 ij:i≤j
 jb:j≤b
 lo:∀q,m≤q→q<i→lt (gD l q) (gD l a)=true
 hi:∀q,j≤q→q<b→lt (gD l q) (gD l a)=false
theorem FstI.start(h:m≤b):FstI lt l a m b m b:=⟨by omega,by omega,by omega,fun q _ _=>by omega,fun q _ _=>by omega⟩
theorem FstI.more(T:TotB lt)(h:FstI lt l a m b i j)(hs:dm lt l m b)(hl:lt (gD l k) (gD l a)=true)(h1:i≤k)(h2:k<j)(hk:e=k+1):FstI lt l a m b e j:=by
 subst hk;have:=h.mi;have:=h.jb;refine⟨by omega,by omega,h.jb,fun q q1 q2=>?_,h.hi⟩;exact T.down (hs.le T q1 (by omega) (by omega)) hl
theorem FstI.less(T:TotB lt)(h:FstI lt l a m b i j)(hs:dm lt l m b)(hl:lt (gD l k) (gD l a)=false)(h1:i≤k)(h2:k<j):FstI lt l a m b i k:=by
 have:=h.mi;have:=h.jb;refine⟨h.mi,by omega,by omega,h.lo,fun q q1 q2=>?_⟩;exact T.trans _ _ _ hl (hs.le T (by omega) q1 q2)
structure UpI(l x:List α)(a k:Nat):Prop where
 perm:x.Perm l
 at_:∀q,q<l.length→gD x q=gD l (if a≤q∧q<k then q+1 else if q=k then a else q)
theorem UpI.len(h:UpI l x a k):x.length=l.length:=h.perm.length_eq
theorem UpI.start:UpI l l a a:=⟨.refl _,fun q _=>by grind⟩
theorem UpI.step(h:UpI l x a k)(hk:a≤k)(hn:k+1<l.length)(he:e=k+1):UpI l ((x.set k (gD x e)).set e (gD x k)) a e:=by
 subst he;have hx:=h.len;have h1:k<x.length:=by omega
 have h2:k+1<x.length:=by omega
 refine⟨(rW h1 h2).trans h.perm,fun q hq=>?_⟩;rw[xI h1 h2];by_cases c1:q=k+1
 ·rw[if_pos c1,h.at_ _ (by omega),if_neg (by omega),if_pos rfl,if_neg (by omega),if_pos c1]
 ·rw[if_neg c1];by_cases c2:q=k
  ·rw[if_pos c2,h.at_ _ (by omega),if_neg (by omega),if_neg (by omega),if_pos (by omega),c2]
  ·rw[if_neg c2,h.at_ _ hq];grind
theorem UpI.stop(T:TotB lt)(h:UpI l x a k)(hf:FstI lt l a m b i j)(hs:dm lt l m b)(hma:m=a+1)(hij:j≤i)(hk:k+1=i)(hb:b≤l.length):SSeg lt l x a b:=by
 have q1:=hf.mi;have q2:=hf.ij;have q3:=hf.jb;refine⟨h.perm,fun q hq=>?_,fun q h1 h2=>?_,fun p q h1 h2 h3=>?_⟩
 ·rcases fZ q l.length with c|c
  ·rw[h.at_ q c,if_neg (by omega),if_neg (by omega)]
  ·rw[vM (by rw[h.len];omega),vM c]
 ·rw[h.at_ q (by omega)];grind
 ·rw[h.at_ p (by omega),h.at_ q (by omega)];by_cases c1:p<k
  ·rw[if_pos (show a≤p∧p<k by omega)];by_cases c2:q<k
   ·rw[if_pos (show a≤q∧q<k by omega)];exact hs _ _ (by omega) (by omega) (by omega)
   ·rw[if_neg (show ¬(a≤q∧q<k) by omega)];by_cases c3:q=k
    ·grind[cases TotB,cases FstI]
    ·grind[cases TotB,cases FstI]
  ·rw[if_neg (show ¬(a≤p∧p<k) by omega),if_neg (show ¬(a≤q∧q<k) by omega),if_neg (show ¬q=k by omega)];by_cases c3:p=k
   ·rw[if_pos c3];exact hf.hi _ (by omega) (by omega)
   ·rw[if_neg c3];exact hs _ _ (by omega) (by omega) (by omega)
structure LstI(lt:α→α→Bool)(l:List α)(a m i j:Nat):Prop where
 ai:a≤i
 ij:i≤j
 jm:j≤m
 lo:∀q,a≤q→q<i→lt (gD l m) (gD l q)=false
 hi:∀q,j≤q→q<m→lt (gD l m) (gD l q)=true
theorem LstI.start(h:a≤m):LstI lt l a m a m:=⟨by omega,by omega,by omega,fun q _ _=>by omega,fun q _ _=>by omega⟩
theorem LstI.more(T:TotB lt)(h:LstI lt l a m i j)(hs:dm lt l a m)(hl:lt (gD l m) (gD l k)=false)(h1:i≤k)(h2:k<j)(hk:e=k+1):LstI lt l a m e j:=by
 subst hk;have:=h.ai;have:=h.jm;refine⟨by omega,by omega,h.jm,fun q q1 q2=>?_,h.hi⟩;exact T.trans _ _ _ (hs.le T q1 (by omega) (by omega)) hl
theorem LstI.less(T:TotB lt)(h:LstI lt l a m i j)(hs:dm lt l a m)(hl:lt (gD l m) (gD l k)=true)(h1:i≤k)(h2:k<j):LstI lt l a m i k:=by
 have:=h.ai;have:=h.jm;refine⟨h.ai,by omega,by omega,h.lo,fun q q1 q2=>?_⟩;exact T.up hl (hs.le T (by omega) q1 q2)
structure DnI(l x:List α)(m k:Nat):Prop where
 perm:x.Perm l
 at_:∀q,q<l.length→gD x q=gD l (if k<q∧q≤m then q-1 else if q=k then m else q)
theorem DnI.len(h:DnI l x m k):x.length=l.length:=h.perm.length_eq
theorem DnI.start:DnI l l m m:=⟨.refl _,fun q _=>by grind⟩
theorem DnI.step(h:DnI l x m k)(hk:k≤m)(hn:m<l.length)(he:e+1=k):DnI l ((x.set k (gD x e)).set e (gD x k)) m e:=by
 subst he;have hx:=h.len;have h1:e+1<x.length:=by omega
 have h2:e<x.length:=by omega
 refine⟨(rW h1 h2).trans h.perm,fun q hq=>?_⟩;rw[xI h1 h2];by_cases c1:q=e
 ·rw[if_pos c1,h.at_ _ (by omega),if_neg (by omega),if_pos rfl,if_neg (by omega),if_pos c1]
 ·rw[if_neg c1];by_cases c2:q=e+1
  ·rw[if_pos c2,h.at_ _ (by omega),if_neg (by omega),if_neg (by omega),if_pos (by omega)];simp_all
  ·rw[if_neg c2,h.at_ _ hq];grind
theorem DnI.stop(T:TotB lt)(h:DnI l x m k)(hf:LstI lt l a m i j)(hs:dm lt l a m)(hmb:b=m+1)(hij:j≤i)(hk:k=i)(hb:b≤l.length):SSeg lt l x a b:=by
 have q1:=hf.ai;have q2:=hf.ij;have q3:=hf.jm;refine⟨h.perm,fun q hq=>?_,fun q h1 h2=>?_,fun p q h1 h2 h3=>?_⟩
 ·rcases fZ q l.length with c|c
  ·rw[h.at_ q c,if_neg (by omega),if_neg (by omega)]
  ·rw[vM (by rw[h.len];omega),vM c]
 ·rw[h.at_ q (by omega)];grind
 ·rw[h.at_ p (by omega),h.at_ q (by omega)];by_cases c1:q≤k
  ·rw[if_neg (show ¬(k<q∧q≤m) by omega),if_neg (show ¬(k<p∧p≤m) by omega),if_neg (show ¬p=k by omega)];by_cases c3:q=k
   ·rw[if_pos c3];exact hf.lo _ h1 (by omega)
   ·rw[if_neg c3];exact hs _ _ h1 h2 (by omega)
  ·rw[if_pos (show k<q∧q≤m by omega)];by_cases c2:k<p
   ·rw[if_pos (show k<p∧p≤m by omega)];exact hs _ _ (by omega) (by omega) (by omega)
   ·rw[if_neg (show ¬(k<p∧p≤m) by omega)];by_cases c3:p=k
    ·grind[cases TotB,cases LstI]
    ·rw[if_neg c3];exact hs _ _ h1 (by omega) (by omega)
structure CutI(lt:α→α→Bool)(l:List α)(lo hi p i j:Nat):Prop where
 li:lo≤i
 ij:i≤j
 jh:j≤hi
 low:∀c,lo≤c→c<i→lt (gD l (p-c)) (gD l c)=false
 high:∀c,j≤c→c<hi→lt (gD l (p-c)) (gD l c)=true
variable{lo hi:Nat}
theorem CutI.start(h:lo≤hi):CutI lt l lo hi p lo hi:=⟨by omega,by omega,by omega,fun q _ _=>by omega,fun q _ _=>by omega⟩
theorem CutI.more(T:TotB lt)(h:CutI lt l lo hi p i j)(hA:dm lt l a m)(hB:dm lt l m b)(hl:lt (gD l s) (gD l k)=false)(b1:a≤lo)(b2:hi≤m)(b3:m+hi≤p+1)(b4:p<b+lo)(h1:i≤k)(h2:k<j)(hk:e=k+1)(hs:s=p-k):CutI lt l lo hi p e j:=by
 subst hk hs;have:=h.li;have:=h.jh;refine⟨by omega,by omega,h.jh,fun c c1 c2=>?_,h.high⟩;exact T.trans _ _ _ (hA.le T (i:=c) (j:=k) (by omega) (by omega) (by omega)) (T.trans _ _ _ hl (hB.le T (i:=p-k) (j:=p-c) (by omega) (by omega) (by omega)))
theorem CutI.less(T:TotB lt)(h:CutI lt l lo hi p i j)(hA:dm lt l a m)(hB:dm lt l m b)(hl:lt (gD l s) (gD l k)=true)(b1:a≤lo)(b2:hi≤m)(b3:m+hi≤p+1)(b4:p<b+lo)(h1:i≤k)(h2:k<j)(hs:s=p-k):CutI lt l lo hi p i k:=by
 subst hs;have:=h.li;have:=h.jh;refine⟨h.li,by omega,by omega,h.low,fun c c1 c2=>?_⟩;exact T.down (hB.le T (i:=p-c) (j:=p-k) (by omega) (by omega) (by omega)) (T.up hl (hA.le T (i:=k) (j:=c) (by omega) (by omega) (by omega)))
theorem N1(T:TotB lt)(h:CutI lt l lo hi p s s)(hA:dm lt l a m)(hB:dm lt l m b)(hr:RoP l y s m e)(hab:b≤l.length)
  (d1:d+m=p+1)(e1:e+s=p+1)(f1:a≤s)(f2:s≤m)(f3:m≤e)(f4:e≤b)(f5:lo<s∨s=a∨e=b)(f6:s<hi∨s=m∨e=m):
  ∀i j,a≤i→i<d→d≤j→j<b→lt (gD y j) (gD y i)=false:=by
 intro i j h1 h2 h3 h4;rw[hr.at_ i (by omega),hr.at_ j (by omega)];unfold ro;by_cases c1:i<s
 ·rw[if_neg (show ¬(s≤i∧i<s+(e-m)) by omega),if_neg (show ¬(s+(e-m)≤i∧i<e) by omega)];rw[if_neg (show ¬(s≤j∧j<s+(e-m)) by omega)];by_cases c2:j<e
  ·rw[if_pos (show s+(e-m)≤j∧j<e by omega)];exact hA.le T h1 (by omega) (by omega)
  ·rw[if_neg (show ¬(s+(e-m)≤j∧j<e) by omega)];have hc:=h.low (s-1) (by omega) (by omega);rw[show p-(s-1)=e by omega]at hc;exact T.trans _ _ _ (hA.le T (i:=i) (j:=s-1) h1 (by omega) (by omega)) (T.trans _ _ _ hc (hB.le T (i:=e) (j:=j) (by omega) (by omega) h4))
 ·rw[if_pos (show s≤i∧i<s+(e-m) by omega),if_neg (show ¬(s≤j∧j<s+(e-m)) by omega)];by_cases c2:j<e
  ·rw[if_pos (show s+(e-m)≤j∧j<e by omega)];have hc:=h.high s (by omega) (by omega);rw[show p-s=e-1 by omega]at hc;refine T.asym _ _ (T.up (T.down (hB.le T (i:=i-s+m) (j:=e-1) (by omega) (by omega) (by omega)) hc) (hA.le T (i:=s) (j:=j-(e-m)) (by omega) (by omega) (by omega)))
  ·rw[if_neg (show ¬(s+(e-m)≤j∧j<e) by omega)];exact hB.le T (by omega) (by omega) h4
theorem RoP.left(hr:RoP l y s m e)(hA:dm lt l a m)(f2:s≤m)(f3:m≤e)(f4:e≤l.length):dm lt y a s:=fun i j h1 h2 h3=>by
 rw[hr.at_ i (by omega),hr.at_ j (by omega)];unfold ro;rw[if_neg (by omega),if_neg (by omega),if_neg (by omega),if_neg (by omega)];exact hA i j h1 h2 (by omega)
theorem RoP.mid1(hr:RoP l y s m e)(hB:dm lt l m b)(f3:m≤e)(f4:e≤b)(f2:s≤m)(hb:b≤l.length)(hd:d=s+(e-m)):dm lt y s d:=fun i j h1 h2 h3=>by
 rw[hr.at_ i (by omega),hr.at_ j (by omega)];unfold ro;rw[if_pos (by omega),if_pos (by omega)];exact hB _ _ (by omega) (by omega) (by omega)
theorem RoP.mid2(hr:RoP l y s m e)(hA:dm lt l a m)(f1:a≤s)(f2:s≤m)(f3:m≤e)(f4:e≤l.length)(hd:d=s+(e-m)):dm lt y d e:=fun i j h1 h2 h3=>by
 rw[hr.at_ i (by omega),hr.at_ j (by omega)];unfold ro;rw[if_neg (by omega),if_pos (by omega),if_neg (by omega),if_pos (by omega)];exact hA _ _ (by omega) (by omega) (by omega)
theorem RoP.right(hr:RoP l y s m e)(hB:dm lt l m b)(f2:s≤m)(f3:m≤e)(hb:b≤l.length):dm lt y e b:=fun i j h1 h2 h3=>by
 rw[hr.at_ i (by omega),hr.at_ j (by omega)];unfold ro;rw[if_neg (by omega),if_neg (by omega),if_neg (by omega),if_neg (by omega)];exact hB i j (by omega) h2 h3
theorem RoP.lower(hr:RoP l y s m e)(hA:dm lt l a m)(hB:dm lt l m b)(hd:d+m=s+e)(h:s≤a∨d≤s)(f1:a≤s)(f2:s≤m)(f3:m≤e)(f4:e≤b)(hb:b≤l.length):dm lt y a d:=by
 rcases h with h|h
 ·have:=hr.mid1 hB f3 f4 f2 hb (d:=d) (by omega);grind
 ·have:=hr.left hA f2 f3 (by omega);grind
theorem RoP.upper(hr:RoP l y s m e)(hA:dm lt l a m)(hB:dm lt l m b)(hd:d+m=s+e)(h:b≤e∨e≤d)(f1:a≤s)(f2:s≤m)(f3:m≤e)(f4:e≤b)(hb:b≤l.length):dm lt y d b:=by
 rcases h with h|h
 ·have:=hr.mid2 hA f1 f2 f3 (by omega) (d:=d) (by omega);grind
 ·have:=hr.right hB f2 f3 hb;grind
theorem WN(hr:RoP l y s m e)(hz:SSeg lt y z a d)(hw:SSeg lt z w d b)(had:a≤d)(hdb:d≤b)(hb:b≤l.length)(f1:a≤s)(f2:s≤m)(f3:m≤e)(f4:e≤b)
  (hx:∀i j,a≤i→i<d→d≤j→j<b→lt (gD y j) (gD y i)=false):SSeg lt l w a b:=by
 have hro:∀q,a≤q→q<b→a≤ro s m e q∧ro s m e q<b:=fun q h1 h2=>by grind[ro]
 have hy:∀q,q<a∨b≤q→gD y q=gD l q:=fun q hq=>by
  rcases fZ q l.length with c|c
  ·rw[hr.at_ q c];congr 1;unfold ro;grind
  ·rw[vM (by rw[hr.len];omega),vM c]
 refine⟨hw.perm.trans (hz.perm.trans hr.perm),fun q hq=>?_,fun q h1 h2=>?_,fun i j h1 h2 h3=>?_⟩
 ·grind[cases SSeg]
 ·rcases fZ q d with c|c
  ·obtain⟨j,j1,j2,j3⟩:=hz.src q h1 c;have:=hro j j1 (by omega);exact⟨_,this.1,this.2,by rw[hw.out q (.inl c),j3,hr.at_ j (by omega)]⟩
  ·obtain⟨j,j1,j2,j3⟩:=hw.src q c h2;have:=hro j (by omega) j2;exact⟨_,this.1,this.2,by rw[j3,hz.out j (.inr j1),hr.at_ j (by omega)]⟩
 ·rcases fZ j d with c|c
  ·rw[hw.out i (.inl (by omega)),hw.out j (.inl c)];exact hz.srt i j h1 h2 c
  ·rcases fZ i d with c2|c2
   ·obtain⟨i',i1,i2,i3⟩:=hz.src i h1 c2;obtain⟨j',j1,j2,j3⟩:=hw.src j c h3;rw[hw.out i (.inl c2),i3,j3,hz.out j' (.inr j1)];simp_all
   ·exact hw.srt i j c2 h2 h3
theorem vA(T:TotB lt)(h:CutI lt l lo hi p i s)(hA:dm lt l a m)(hB:dm lt l m b)(hr:RoP l y i m e)(hz:SSeg lt y z a d)(hw:SSeg lt z w d b)(his:s≤i)(hd:d+m=p+1)(he:e+i=p+1)(had:a≤d)(hdb:d≤b)(hb:b≤l.length)(f1:a≤i)(f2:i≤m)(f3:m≤e)(f4:e≤b)(f5:lo<i∨i=a∨e=b)(f6:i<hi∨i=m∨e=m):SSeg lt l w a b:=by
 have:i=s:=Nat.le_antisymm h.ij his;grind[WN,N1]
theorem SSeg.keep(h:SSeg lt l x a b)(hs:dm lt l i j)(hd:j≤a∨b≤i):dm lt x i j:=fun p q h1 h2 h3=>by rw[h.out p (by omega),h.out q (by omega)];exact hs p q h1 h2 h3
def Oh(lt:α→α→Bool)(x:List α)(s n:Nat):Prop:=∀c,dm lt x (c*s) (min ((c+1)*s) n)
theorem rm{t c d:Nat}(h:a=d*t):(c+1)*t≤a∨c=d∨a+t≤c*t:=by
 subst h;rcases Nat.lt_trichotomy c d with q|q|q
 ·exact .inl (eC _ q)
 ·omega
 ·refine .inr (.inr ?_);have:=eC t q;grind
structure BlkA(lt:α→α→Bool)(l x:List α)(s a:Nat):Prop where
 perm:x.Perm l
 dv:∃c,a=c*s
 ok:∀c,dm lt x (c*s) (min ((c+1)*s) a)
theorem BlkA.len(h:BlkA lt l x s a):x.length=l.length:=h.perm.length_eq
theorem BlkA.start:BlkA lt l l s 0:=⟨.refl _,⟨0,by omega⟩,fun c=>dm.nil (by omega)⟩
theorem BlkA.step(h:BlkA lt l x s a)(hy:SSeg lt x y a b)(hb:b=a+s):BlkA lt l y s b:=by
 obtain⟨d,hd⟩:=h.dv;subst hb;refine⟨hy.perm.trans h.perm,⟨d+1,by grind⟩,fun c=>?_⟩;rcases rm (c:=c) hd with q|q|q
 ·have:=h.ok c;rw[show min ((c+1)*s) a=(c+1)*s by omega]at this;rw[show min ((c+1)*s) (a+s)=(c+1)*s by omega];exact hy.keep this (.inl q)
 all_goals grind[dm.nil,cases SSeg]
theorem BlkA.last(h:BlkA lt l x s a)(hy:SSeg lt x y a n)(hn:n<a+s)(ha:a≤n):y.Perm l∧Oh lt y s n:=by
 obtain⟨d,hd⟩:=h.dv;refine⟨hy.perm.trans h.perm,fun c=>?_⟩;rcases rm (c:=c) hd with q|q|q
 ·have:=h.ok c;rw[show min ((c+1)*s) a=(c+1)*s by omega]at this;rw[show min ((c+1)*s) n=(c+1)*s by omega];exact hy.keep this (.inl q)
 all_goals grind[dm.nil,cases SSeg]
structure BlkB(lt:α→α→Bool)(l x:List α)(s a n:Nat):Prop where
 perm:x.Perm l
 dv:∃c,a=c*(2*s)
 ok:∀c,dm lt x (c*(2*s)) (min ((c+1)*(2*s)) a)
 rest:∀c,a≤c*s→dm lt x (c*s) (min ((c+1)*s) n)
theorem BlkB.len(h:BlkB lt l x s a n):x.length=l.length:=h.perm.length_eq
theorem BlkB.start(h:x.Perm l∧Oh lt x s n):BlkB lt l x s 0 n:=⟨h.1,⟨0,by omega⟩,fun c=>dm.nil (by omega),fun c _=>h.2 c⟩
theorem BlkB.pre1(h:BlkB lt l x s a n)(hm:m=a+s)(hn:m≤n):dm lt x a m:=by
 obtain⟨d,hd⟩:=h.dv;have e:a=(d*2)*s:=by grind
 have:=h.rest (d*2) (by omega);grind
theorem BlkB.pre2(h:BlkB lt l x s a n)(hm:m=a+s)(hb:b≤m+s)(hn:b≤n):dm lt x m b:=by
 obtain⟨d,hd⟩:=h.dv;have e:a=(d*2)*s:=by grind
 have e2:m=(d*2+1)*s:=by grind
 have:=h.rest (d*2+1) (by omega);rw[←e2,pS,←e2]at this;exact this.sub (au _) (by omega)
theorem BlkB.step(h:BlkB lt l x s a n)(hy:SSeg lt x y a b)(hb:b=a+2*s):BlkB lt l y s b n:=by
 obtain⟨d,hd⟩:=h.dv;subst hb;refine⟨hy.perm.trans h.perm,⟨d+1,by grind⟩,fun c=>?_,fun c hc=>hy.keep (h.rest c (by omega)) (.inr hc)⟩;rcases rm (c:=c) hd with q|q|q
 ·have:=h.ok c;rw[show min ((c+1)*(2*s)) a=(c+1)*(2*s) by omega]at this;rw[show min ((c+1)*(2*s)) (a+2*s)=(c+1)*(2*s) by omega];exact hy.keep this (.inl q)
 all_goals grind[dm.nil,cases SSeg]
theorem BlkB.last(h:BlkB lt l x s a n)(hy:SSeg lt x y a n)(hn:n<a+2*s)(ht:d=2*s)(ha:a≤n):y.Perm l∧Oh lt y d n:=by
 subst ht;obtain⟨d,hd⟩:=h.dv;refine⟨hy.perm.trans h.perm,fun c=>?_⟩;rcases rm (c:=c) hd with q|q|q
 ·have:=h.ok c;rw[show min ((c+1)*(2*s)) a=(c+1)*(2*s) by omega]at this;rw[show min ((c+1)*(2*s)) n=(c+1)*(2*s) by omega];exact hy.keep this (.inl q)
 all_goals grind[dm.nil,cases SSeg]
theorem BlkB.one(h:BlkB lt l x s a n)(hn:n≤a+s):SSeg lt x x a n:=by
 obtain⟨d,hd⟩:=h.dv;have e:a=(d*2)*s:=by grind
 have:=h.rest (d*2) (by omega);simp_all[pS,md]
theorem Oh.all(h:Oh lt x s n)(hn:n≤s):dm lt x 0 n:=by
 have:=h 0;simp_all
theorem dm.pair:∀{x:List α},dm lt x 0 x.length→x.Pairwise fun u v=>lt v u=false
 |[],_=>.nil
 | u::r,h=>gT.2 ⟨fun v hv=>by
   obtain⟨i,hi,rfl⟩:=E3 hv;have:=h 0 (i+1) (by omega) (by omega) (by simp_all);have e:gD (u::r) (i+1)=r[i]:=by grind[gD]
   rw[e]at this;exact this,dm.pair fun i j _ h2 h3=>h (i+1) (j+1) (by omega) (by omega) (by simp_all)⟩
end
section
variable{α:Type}{lt:α→α→Bool}
theorem Cw:∀{x y:List α},x.Pairwise (fun u v=>lt v u=false)→y.Pairwise (fun u v=>lt v u=false)→x.Perm y→(∀u v,u∈x→v∈x→lt u v=false→lt v u=false→u=v)→x=y
 |[],y,_,_,hp,_=>hp.nil_eq
 |u::r,[],_,_,hp,_=>by simp_all
 |u::r,v::t,hx,hy,hp,H=>by
  obtain⟨x1,x2⟩:=gT.1 hx;obtain⟨y1,y2⟩:=gT.1 hy;have hv:v∈u::r:=hp.mem_iff.2 (eW ..);have hu:u∈v::t:=hp.mem_iff.1 (eW ..);have e:u=v:=by grind
  subst e;rw[Cw x2 y2 ((List.perm_cons u).1 hp) fun a b ha hb=>H a b (eJ _ ha) (eJ _ hb)]
def D8(lt:α→α→Bool)(a:α):List α→List α
 |[]=>[a]
 |b::r=>match lt b a with|true=>b::D8 lt a r|false=>a::b::r
def Pz(lt:α→α→Bool)(l:List α):List α:=l.foldl (fun o a=>D8 lt a o) []
theorem vH(a:α):∀(l:List α),(D8 lt a l).Perm (a::l)
 |[]=>.refl _
 |b::r=>by
  unfold D8;cases lt b a with
  |true=>exact((vH a r).cons b).trans (.swap a b r)
  |false=>simp_all
theorem CB(T:TotB lt)(a:α):∀{l:List α},l.Pairwise (fun u v=>lt v u=false)→(D8 lt a l).Pairwise (fun u v=>lt v u=false)
 |[],_=>List.pairwise_singleton ..
 | b::r,h=>by
  obtain⟨h1,h2⟩:=gT.1 h;unfold D8;cases q:lt b a with
  |true=>
   refine gT.2 ⟨fun v hv=>?_,CB T a h2⟩;grind[vH,cases TotB]
  |false=>
   refine gT.2 ⟨fun v hv=>?_,h⟩;grind[cases TotB]
theorem yP(T:TotB lt):∀(l o:List α),o.Pairwise (fun u v=>lt v u=false)→((l.foldl (fun o a=>D8 lt a o) o).Perm (o++l)∧(l.foldl (fun o a=>D8 lt a o) o).Pairwise fun u v=>lt v u=false)
 |[],o,h=>⟨by simp_all,h⟩
 |a::r,o,h=>by
  obtain⟨h1,h2⟩:=yP T r (D8 lt a o) (CB T a h);refine⟨h1.trans ?_,h2⟩;exact((vH a o).append_right r).trans (List.perm_middle.symm)
theorem yO(T:TotB lt)(l:List α):(Pz lt l).Perm l:=(yP T l [] .nil).1
theorem Pq(T:TotB lt){l x:List α}(hp:x.Perm l)(hs:x.Pairwise fun u v=>lt v u=false)(H:∀u v,u∈l→v∈l→lt u v=false→lt v u=false→u=v):x=Pz lt l:=Cw hs (yP T l [] .nil).2 (hp.trans (yO T l).symm) fun u v hu hv=>H u v (hp.mem_iff.1 hu) (hp.mem_iff.1 hv)
end
end Go.Ev
namespace Go.Ev
open Go
theorem VRel.unren{ρ:Nat→Nat}{n:Nat}{pl pl2:Pl}{M:dt}{v:AV}{x:Value}(h:VRel pl2 M v x)(hp:∀id p,id<n→pl2 id=some p→pl (ρ id)=some p)(ht:v.top≤n):VRel pl M (Ev.ren ρ v) x:=by
 have gt:∀{xs:List AV}{i:Nat}{z:AV},(xs.map (Ev.ren ρ))[i]?=some z→∃y,xs[i]?=some y∧z=Ev.ren ρ y:=by grind
 have tp:∀{xs:List AV}{i j:Nat}{z y:AV},aq xs≤n→xs[i]?=some z→z.cells[j]?=some y→y.top≤n:=by
  intro xs i j x y h1 h2 h3;exact kN (dC.1 h1 x (bi h2)) (bi h3)
 have sc:∀{xs:List AV}{sz:Nat},(∀x,x∈xs→x.cells.length=sz∧Sc x)→∀x,x∈xs.map (Ev.ren ρ)→x.cells.length=sz∧Sc x:=by
  intro xs sz h x hx;obtain⟨y,hy,rfl⟩:=ke.1 hx;obtain⟨h1,h2⟩:=h y hy;rw[fL];refine⟨by simp_all,fun u hu=>?_⟩;rw[fL]at hu;obtain⟨z,hz,rfl⟩:=ke.1 hu;rw[n5];exact h2 z hz
 have cel:∀{xs:List AV}{c:Array Value}{o sz:Nat},aq xs≤n→(∀i x j y,xs[i]?=some x→x.cells[j]?=some y→y.top≤n→VRel pl M (Ev.ren ρ y) (c.getD (o+i*sz+j) undef))→
   ∀i x j y,(xs.map (Ev.ren ρ))[i]?=some x→x.cells[j]?=some y→VRel pl M y (c.getD (o+i*sz+j) undef):=by
  intro xs c o sz ht h i x j y h1 h2;obtain⟨x0,e1,rfl⟩:=gt h1;rw[fL]at h2;grind
 induction h with
 |bool b=>exact .bool b
 |int k n=>exact .int k n
 |str s=>exact .str s
 |nilp=>exact .nilp
 |ptr h1 h2 h3=>simp only[AV.top]at ht;exact .ptr (hp _ _ (by omega) h1) h2 h3
 |pptr hm hs hi hc ih=>
  simp only[AV.top]at ht;simp only[Ev.ren,fJ];exact .pptr ⟨hm.1,hm.2.1,by simp_all,hm.2.2.2⟩ (sc hs) (by simp_all) (cel ht fun i x j y h1 h2 h3=>ih i x j y h1 h2 h3)
 |nils=>exact .nils
 |slice h1 h2 h3 h4 h5=>simp only[AV.top]at ht;exact .slice (hp _ _ (by omega) h1) h2 h3 h4 h5
 |sl0n _ ih=>exact .sl0n (ih (bH _))
 |sl0s _ ih=>exact .sl0s (ih ht)
 |ps hl ht' hm hs hc ih=>
  simp only[AV.top]at ht;simp only[Ev.ren,fJ];have:=VRel.ps (pl:=pl) (xs:=_) (by simpa using hl) (by simpa using ht') (by simp_all) (sc hs) (cel ht fun i x j y h1 h2 h3=>ih i x j y h1 h2 h3);simp_all
 |lsn=>exact .lsn
 |lsp h ht0 ih=>
  have:=ih (by grind[AV.top]);simp only[Ev.ren,eS ρ _ ht0]at this;exact .lsp this ht0
 |nilm=>exact .nilm
 |map h1 h2=>simp only[AV.top]at ht;exact .map (hp _ _ (by omega) h1) h2
 |func h1 h2 _ _ ih1 ih2=>
  simp only[AV.top,qb]at ht;simp only[Ev.ren,fJ];refine .func (by simp_all) (by simp_all) (fun j y hj=>?_) (fun j y hj=>?_)
  ·obtain⟨z,e,rfl⟩:=gt hj;exact ih1 j z e (dC.1 ht.1 z (bi e))
  ·obtain⟨z,e,rfl⟩:=gt hj;exact ih2 j z e (dC.1 ht.2 z (bi e))
 |nilf=>exact .nilf
 |iface _ ih=>simp only[AV.top]at ht;exact .iface (ih ht)
 |nili=>exact .nili
 |agg h1 h2 _ ih=>
  simp only[AV.top]at ht;simp only[Ev.ren,fJ];refine .agg (by simp_all) (fun y hy=>?_) (fun j y hj=>?_)
  ·grind[n5]
  ·obtain⟨z,e,rfl⟩:=gt hj;exact ih j z e (dC.1 ht z (bi e))
 |tuple h1 _ ih=>
  simp only[AV.top]at ht;simp only[Ev.ren,fJ];refine .tuple (by simp_all) (fun j y hj=>?_);obtain⟨z,e,rfl⟩:=gt hj;exact ih j z e (dC.1 ht z (bi e))
def ep0:AObj→Bool
 | .row _ _ e _=>Nat.beq e 0
 | .map _ _=>true
 |_=>false
theorem bu.ep0{pl:Pl}{M:dt}{p:Place}{o:AObj}{x:Option Obj}(h:bu pl M p o x)(he:Ev.ep0 o=true):p.ep=0:=by
 match o,x with
 | .row sz op ep xs,some (.cells c t fr)=>rw[h.1];exact pM he
 | .map es clock,some (.map entries clock')=>exact h.1
theorem Up{ρ:Nat→Nat}{o:AObj}:ep0 (j9 ρ o)=ep0 o:=by cases o<;>rfl
theorem bu.unren{ρ:Nat→Nat}{n:Nat}{pl pl2:Pl}{M:dt}{o:AObj}{p:Place}{x:Option Obj}(h:bu pl2 M p o x)(he:Ev.ep0 o=true)(hp:∀id p,id<n→pl2 id=some p→pl (ρ id)=some p)(ht:o.top≤n):bu pl M p (j9 ρ o) x:=by
 match o,x with
 | .row sz op ep xs,some (.cells c t fr)=>
  obtain⟨h1,h2,h3,h4,h5,h6,h7,h8⟩:=h;simp only[AObj.top]at ht;have gt:∀{xs:List AV}{i:Nat}{z:AV},(xs.map (Ev.ren ρ))[i]?=some z→∃y,xs[i]?=some y∧z=Ev.ren ρ y:=by grind
  simp only[j9,fJ];refine⟨h1,h2,by simp_all,h4,h5,h6,by simp_all,⟨by simpa using h8.fit,fun y hy=>?_,fun i z j y k1 k2=>?_⟩⟩
  ·obtain⟨z,hz,rfl⟩:=ke.1 hy;obtain⟨q1,q2⟩:=h8.elem z hz;rw[fL];refine⟨by simp_all,fun u hu=>?_⟩;rw[fL]at hu;obtain⟨z,hz,rfl⟩:=ke.1 hu;rw[n5];exact q2 z hz
  ·obtain⟨z0,e1,rfl⟩:=gt k1;rw[fL]at k2;obtain⟨y0,e2,rfl⟩:=gt k2;exact(h8.cell i z0 j y0 e1 e2).unren hp (kN (dC.1 ht z0 (bi e1)) (bi e2))
 | .map es clock,some (.map entries clock')=>
  obtain⟨h1,h2,h3,h4⟩:=h;simp only[AObj.top]at ht;simp only[j9,qx];refine⟨h1,h2,by simp_all,fun i e hi=>?_⟩;rw[pR]at hi;cases hx:es[i]? with
  |none=>grind
  |some e0=>
   rw[hx]at hi;cases hi
   obtain⟨e',k1,k2,k3,k4⟩:=h4 i e0 hx;have:=pU.1 ht e0 (bi hx);exact⟨e',k1,k2.unren hp this.1,k3.unren hp this.2,k4⟩
theorem aL.frame{P:Program}{G:eE}(hG:i7 G){f:FuncId}{args:List AV}{v:AV}(ρ:Nat→Nat){L L':List AObj}(hl:L'.length=L.length)
  (hL:∀o,o∈L→ep0 o=true∧o.top≤L.length)(hL':∀o,o∈L'→ep0 o=true∧o.top≤L.length)(hm:∀i o,L'[i]?=some o→(av L').get i=some o)(ht:aq args≤L.length)(hv:v.top≤L.length)
  (hi:∀i j,i<L.length→j<L.length→ρ i=ρ j→i=j)
  (h0:aL P G f args (av L) (fun v1 h1=>v1=v∧h1=av L')){h h':AHeap}(hg:∀i o,L[i]?=some o→h.get (ρ i)=some (j9 ρ o))
  (hg':∀k o,h'.get k=some o→(∃i o',L'[i]?=some o'∧k=ρ i∧o=j9 ρ o')∨((∀i,i<L.length→k≠ρ i)∧h.get k=some o))(hn:h'.n=h.n):
  aL P G f (lG ρ args) h (fun v1 h1=>v1=Ev.ren ρ v∧h1=h'):=by
 intro pl M w vs hG1 hr hvs;obtain⟨n,en⟩:∃n,n=L.length:=⟨_,rfl⟩
 rw[←en]at hL hL' ht hi hg' hv;have hat:∀i,i<n→∃o,L[i]?=some o∧o∈L:=fun i h=>⟨L[i],lD (by omega),Dk _⟩
 have hat':∀i,i<n→∃o,L'[i]?=some o∧o∈L':=fun i h=>⟨L'[i]'(by omega),lD (by omega),Dk _⟩
 have hpl1:∀k q,jG ρ n pl k=some q→k<n∧pl (ρ k)=some q:=fun k q hk=>by grind[jG]
 have hnH:(av L).n=n:=en.symm;have hnH':(av L').n=n:=hl.trans en.symm;have hr1:cF (jG ρ n pl) M (av L) w:=by
  refine⟨fun k q hk=>?_,fun k q o hk hgo=>?_,fun k q hk=>?_,fun k k' q q' hk hk' e=>?_,hr.imm,fun k q hk=>?_⟩
  ·simp_all
  ·obtain⟨hk1,hk2⟩:=hpl1 k q hk;have:=na hgo;exact(hr.obj (ρ k) q _ hk2 (hg k o this)).ren (hL o (bi this)).2
  ·exact hr.blk _ q (hpl1 k q hk).2
  ·obtain⟨a1,a2⟩:=hpl1 k q hk;obtain⟨b1,b2⟩:=hpl1 k' q' hk';exact hi k k' a1 b1 (hr.inj _ _ q q' a2 b2 e)
  ·exact hr.sep _ q (hpl1 k q hk).2
 have hvs1:VRels (jG ρ n pl) M args vs:=⟨by rw[←hvs.len,fJ,cJ],fun j y hj=>(hvs.at_ j (Ev.ren ρ y) (by grind[fJ])).ren rfl (dC.1 ht y (bi hj))⟩
 have hG1':pe G (jG ρ n pl) M:=hG1.none hG;have fin:∀cv w',iJ (jG ρ n pl) M (av L) w v (av L') cv w'→iJ pl M h w (Ev.ren ρ v) h' cv w':=by
  intro cv w' ⟨pl2,M2,k1,k2,k3,k4⟩;have kept:∀b,b<w.heap.size→(∀i q,i<n→pl (ρ i)=some q→q.blk≠b)→w'.heap[b]?=w.heap[b]?:=fun b hb hne=>k3.kept b hb fun k q hk _=>hne k q (hpl1 k q hk).1 (hpl1 k q hk).2
  have same:∀i,i<n→pl2 i=pl (ρ i):=by
   intro i hin;cases hp:pl (ρ i)with
   |none=>exact k3.new i (by omega) (by simp_all[jG])
   |some p=>
    obtain⟨p2,e1,e2,e3⟩:=k3.ext i p (tg hin hp);obtain⟨o,h1,h2⟩:=hat i hin;obtain⟨o',h1',h2'⟩:=hat' i hin;have q1:p.ep=0:=(hr.obj (ρ i) p _ hp (hg i o h1)).ep0 (by grind[Up]);have q2:p2.ep=0:=(k2.obj i p2 o' e1 (hm i o' h1')).ep0 (hL' o' h2').1;simp_all
  have hun:∀id p,id<n→pl2 id=some p→pl (ρ id)=some p:=fun id p h1 h2=>by simp_all
  refine⟨pl,M2,k1.unren hun hv,⟨fun k q hk=>by rw[hn];exact hr.dom k q hk,fun k q o hk hgo=>?_,fun k q hk=>E6 (hr.blk k q hk) k3.size,hr.inj,k2.imm,fun k q hk=>?_⟩,⟨nJ.refl _,fun _ _ h=>h,k3.mem,k3.size,fun b hb hk=>kept b hb fun i q hin hp e=>?_,fun k q hk=>.inl ⟨q,hk,rfl⟩,fun k q hk hno=>?_,fun _ _ h _=>h,k3.memNew,k3.os,k3.tape,k3.out,k3.drawn⟩,wU hn.symm⟩
  ·rcases hg' k o hgo with⟨i,o',h1,rfl,rfl⟩|⟨hne,hgo⟩
   ·have hin:i<n:=by grind
    have hm':=bi h1;exact(k2.obj i q o' (by simp_all) (hm i o' h1)).unren (hL' o' hm').1 hun (hL' o' hm').2
   ·rw[kept _ (hr.blk k q hk) fun i q' hin hp e=>hne i hin (hr.inj _ _ q q' hk hp e.symm)];exact(hr.obj k q o hk hgo).mono (nJ.refl _) k3.mem
  ·cases hM:M2 q.blk with
   |none=>rfl
   |some c2=>
    rcases k3.memNew _ c2 hM with k5|k5
    ·rw[hr.sep k q hk]at k5;grind
    ·have:=hr.blk k q hk;omega
  ·grind
  ·cases hq:h'.get k with
   |none=>rfl
   |some o=>grind
 rcases h0 (jG ρ n pl) M w vs hG1' hr1 hvs1 with⟨h1,h2⟩|⟨cv,w',v1,h1,q1,⟨q2,q3⟩,q4⟩
 ·exact .inl ⟨h1,Calls.mono h2 fun e w' ⟨cv,v1,h1,k1,⟨k2,k3⟩,k4⟩=>⟨cv,Ev.ren ρ v,h',k1,⟨rfl,rfl⟩,by simp_all⟩⟩
 ·exact .inr ⟨cv,w',Ev.ren ρ v,h',q1,⟨rfl,rfl⟩,by simp_all⟩
end Go.Ev
namespace Go.Ev
open Go
section
variable{P:Program}{G:eE}{call:cZ}{m:Nat}{c:Code}{d:D}{s s':St}{ops:Array Oper}
theorem EQ(hm:P.follows .mixedOrders=true)(hG:i7 G)(hc:cM P G call)(d:D)(e:(WP P G call m c).run d s (fun e _ s=>e=.normal∧s=s')=(AExit.normal=.normal∧s'=s')):aA P G (some m) c s (fun e s=>e=.normal∧s=s'):=VS hm hG hc c d s _ _ (e▸⟨rfl,rfl⟩) fun _ _ _ _ h=>h
theorem xS(hG:i7 G)(hc:cM P G call){id:Nat}{Ψ:St→Prop}(d:D){W:Prop}(p:W)(e:XH P G call m ops ops.toList d s (fun _ s=>Ψ s)=W):aA P G (some m) (.region id ops false) s (fun e s=>e=.normal∧Ψ s):=aA.region (gU hG hc _ d s _ (e▸p) fun _ _ _ h=>⟨rfl,h⟩)
end
section
variable{P:Program}{G:eE}{ops:Array Oper}{o:Oper}{l:List Oper}{s:St}{b:Option Nat}
theorem rD{Y:Type}{I:Y→Prop}{r:Y→AV}{H:Y→AHeap}{Φ:St→Prop}(hg:eB s.tmps (eh ops o)=some true)
  (hO:∀(pl:Pl)(M:dt)(a:Act)(w:World),pe G pl M→cF pl M s.heap w→FrRel pl M s.tmps a→∃y pl' M' cv w',I y∧(execOp a.eval o).run P w=.ok (.value cv) w'∧VRel pl' M' (r y) cv∧cF pl' M' (H y) w'∧cT s.heap pl M w (H y) pl' M' w'∧s.heap.n≤(H y).n)
  (h:∀y,I y→∃A',iL s.tmps o.dst (r y)=some A'∧cb P G b ops l ⟨A',H y⟩ Φ):cb P G b ops (o::l) s Φ:=by
 intro i N h0' pl0 M0 w0 a w Q hb hl' hs hQ;have ho:ops[i]?=some o:=by simpa using hl' 0
 obtain⟨pl,M,g1,g2,g3,g4,g5⟩:=hs.ex;simp only[cP,BN,wpOps,ho];rw[fc g3 hg];simp only[if_true];left;obtain⟨y,pl',M',cv,w',i1,i2,i3,i4,i5,i6⟩:=hO pl M a w g1 g2 g3;obtain⟨A',e1,e2⟩:=h y i1;obtain⟨p1,p2⟩:=nw (g3.mono i5.ext i5.mem) i3 (by rw[hs.n];exact hs.small) e1;have nxt:=e2 (i+1) N h0' pl0 M0 w0 (a.put o.dst cv) w' Q hb (fun j=>by have:=hl' (j+1);grind)
  ⟨⟨pl',M',g1.mono i5.ext i5.mem,i4,p1,g4.trans i5 g5,bT g5 i6⟩,by rw[←hs.n];omega,hs.small⟩ hQ
 unfold Oper.wp;rw[i2];exact nxt
theorem uR{t tx e:TypeId}{i:TypeInfo}{sz bt:Nat}(hsz:i.size=sz)(hbt:i.bytes=bt){z z0:AV}{sO xO:Operand}{dst:Option Tmp}{ty:TypeId}{pos:String}{after:Array Edge}{guard:Option (Nat×Bool)}{xs:List AV}
  (ht:P.underlying t=some (.slice e))(hk:∃e',P.underlying tx=some (.slice e'))(hi:P.info? e=some i)(hz:i9 P e=some z0)(hzl:Le z z0)
  (hs:(ct G sO).run s.tmps=some (.ps [] true))(hx:(ct G xO).run s.tmps=some (.ls xs))(hne:xs≠[])(hfit:dB sz xs=true)(hzf:dB sz [z]=true)(hsm:small xs.length bt=true)(hs0:0<sz)
  (pl:Pl)(M:dt)(a:Act)(w:World)(g1:pe G pl M)(g2:cF pl M s.heap w)(g3:FrRel pl M s.tmps a):
  ∃(k:Nat)(pl':Pl)(M':dt)(cv:Value)(w':World),True∧(execOp a.eval ⟨dst,.call ⟨.builtin .append,#[sO,xO],#[t,tx]⟩,ty,pos,after,guard⟩).run P w=.ok (.value cv) w'∧
   VRel pl' M' (.slice s.heap.n 0 0 xs.length (some (xs.length+k))) cv∧cF pl' M' (s.heap.push (.row sz false 0 (xs++List.replicate k z))) w'∧cT s.heap pl M w (s.heap.push (.row sz false 0 (xs++List.replicate k z))) pl' M' w'∧s.heap.n≤(s.heap.push (.row sz false 0 (xs++List.replicate k z))).n:=by
 subst hsz;subst hbt;have hsr:=bK g1 g3 hs;have hxr:=bK g1 g3 hx;obtain⟨news,hsrc⟩:=yN (P:=P) g2 hxr (show ka s.heap (.ls xs)=some xs from rfl) hne hfit;obtain⟨i2,zv,hz1,hz2,hz3⟩:=mg hz;rw[hi]at hz1;cases hz1
 obtain⟨b1,b2⟩:=jo hsm;have hpos:0<xs.length:=pP.2 hne;generalize hq:a.eval sO=cs at hsr;generalize hq2:a.eval xO=cx at hxr hsrc;cases hsr with
 | ps hl htt hm hs2 hc=>
  rename_i ad cap sz c;have hcap:cap=0:=htt rfl;subst hcap;have hzr:=hzl _ _ _ (dN (pl:=pl) (M:=M) hz3);have hzt:=mU hzf z (by simp);have hzsz:zv.cells.size=i.size:=by rw[←hzr.cells.len];omega
  have hrun:=run_append_grow_src (P:=P) w t tx ty e i zv ht hi hz2 (some ad) 0 0 [] (by simp[Builtin.firstCells,loadCells,loadCellsFrom]) cx xs.length news (hsrc.src (.inl hk)) (by omega) (by omega) (growslice_fits (by omega) (by grind));have hge:=grownCap_ge w (0+xs.length) 0 e;obtain⟨C,hC⟩:∃C,C=grownCap w (0+xs.length) 0 e:=⟨_,rfl⟩
  rw[←hC]at hrun hge;have hin:=fQ hzr hzt.2 (C-(0+xs.length)) hzt.1 hs0;have hzl:(Builtin.zeroCells zv.cells (C-(0+xs.length))).toList.toArray=(Array.range ((C-(0+xs.length))*i.size)).map (zv.cells[· %zv.cells.size]!):=by grind[Builtin.zeroCells]
  have hnl:(Builtin.zeroCells zv.cells (C-(0+xs.length))).toList.length=(List.replicate (C-(0+xs.length)) z).length *i.size:=by grind[Builtin.zeroCells]
  have hin2:=kV (news:=(Builtin.zeroCells zv.cells (C-(0+xs.length))).toList) hsrc.mem (by grind) hsrc.newsLen hnl #[];have hce:(news++(Builtin.zeroCells zv.cells (C-(0+xs.length))).toList).toArray++#[]=([]++news).toArray++Builtin.zeroCells zv.cells (C-(0+xs.length)):=by grind
  rw[hce]at hin2;have hcs:(([]++news).toArray++Builtin.zeroCells zv.cells (C-(0+xs.length))).size=(xs++List.replicate (C-(0+xs.length)) z).length *i.size:=by simp only[wx,E8,BP,hsrc.newsLen,size_zeroCells,hzsz,eV,pO,jB]
  obtain⟨cells,hcells⟩:∃cells,cells=([]++news).toArray++Builtin.zeroCells zv.cells (C-(0+xs.length)):=⟨_,rfl⟩
  rw[←hcells]at hrun hin2 hcs;have hxl:(xs++List.replicate (C-(0+xs.length)) z).length=C:=by grind
  let p:Place:=⟨w.heap.size,0,i.size,C,C*i.size⟩
  have hwd:(w.drew.alloc (.cells cells e)).heap=w.heap.push (.cells cells e):=rfl;obtain⟨r1,r2⟩:=cF.alloc (o:=.row i.size false 0 (xs++List.replicate (C-(0+xs.length)) z)) (p:=p) g2 hwd ⟨rfl,rfl,rfl,nP _⟩ rfl
   ⟨rfl,rfl,hxl.symm,by grind,rfl,hs0,fun _=>hcs,hin2.mono (fun id q hq=>⟨q,by rw[cN (by have:=g2.dom id q hq;omega)];omega,au _,fun _=>rfl⟩) (fun _ _ h=>h)⟩
  refine⟨C-(0+xs.length),upd pl s.heap.n p,M,.slice (some ⟨w.heap.size,0,none⟩) (0+xs.length) C,w.drew.alloc (.cells cells e),trivial,?_,?_,r1,r2,nP _⟩
  ·simp only[execOp,resolve,invoke,builtin,Sem.run_bind,Sem.run_pure,Result.andThen_ok,List.map_toArray,eF,yb,hq,hq2];show(Sem.run P (Builtin.append_ #[t,tx] ty #[Value.slice (some ad) 0 0,cx]) w).andThen _=_
   rw[hrun];rfl
  ·rw[fw]at hge ⊢;refine .slice (dL _ _ _) (au _) hge (fun k hk=>by grind) (fun _=>⟨.inr (by grind),by grind,by grind,(fun hk=>by grind),(fun k hk=>by grind)⟩)
end
end Go.Ev
namespace Go.Ev
open Go
section
variable{s id ep off len c l h m a b d sz bt i n k:Nat}{hp H:AHeap}{xs ys zs new:List AV}{lo hi mx cap:Option Nat}{op:Bool}{x z:AV}{vl vh vm:Option AV}
theorem iw(hg:qV s hp id ep=some xs)(h1:jQ 0 vl=some l)(h2:jQ len vh=some h)(q1:l≤h)(q2:h≤c)(q3:c≠l)(e1:off+l=a)(e2:h-l=b)(e3:c-l=d):
  ba H (dU s hp (some (.slice id ep off len (some c))) vl vh none)=some (.val (.slice id ep a b (some d)) H):=by
 have p1:Nat.ble l h=true:=tV q1;have p2:Nat.ble h c=true:=tV q2;have p3:Nat.beq c l=false:=by grind[aD]
 simp only[dU,fR,hg,h1,h2,room,pu,p1,p2,p3,yf,e1,e2,e3,ba]
theorem Df(hg:qV s hp id ep=some xs)(h1:jQ 0 vl=some l)(h2:fu x=some h)(h3:fu z=some m)(q1:l≤h)(q2:h≤m)(q3:m≤c)(q4:m≠l)(e1:off+l=a)(e2:h-l=b)(e3:m-l=d):
  ba H (dU s hp (some (.slice id ep off len (some c))) vl (some x) (some z))=some (.val (.slice id ep a b (some d)) H):=by
 have p1:Nat.ble l h=true:=tV q1;have p2:Nat.ble h m=true:=tV q2;have p3:Nat.beq m l=false:=by grind[aD]
 simp_all[tV,dU,fR,room,pu,ba]
theorem KY(hg:qV s hp id ep=some xs)(h1:jQ 0 vl=some l)(h2:jQ len vh=some h)(q1:l=h)(q3:c=l):
  ba H (dU s hp (some (.slice id ep off len (some c))) vl vh none)=some (.val (.slice id ep 0 0 (some 0)) H):=by
 subst q1;subst q3;have p1:Nat.ble c c=true:=tV (au _);have p3:Nat.beq c c=true:=pN _;simp only[dU,fR,hg,h1,h2,room,pu,p1,p3,yf,ba]
theorem KV(hg:qV s hp id ep=some xs)(h1:jQ 0 vl=some l)(h2:jQ len vh=some h)(q1:l≤h)(q2:h+off≤xs.length)(e1:off+l=a)(e2:h-l=b):
  ba H (dU s hp (some (.slice id ep off len none)) vl vh none)=some (.val (.slice id ep a b none) H):=by
 grind[Nat.ble_eq_true_of_le,dU,fR,room,pu,ba]
theorem yM(hg:H.get id=some (.row sz op ep xs))(e:(xs.drop off).take len=zs):ka H (.slice id ep off len cap)=some zs:=by grind[Nat.beq_refl,ka,kx]
theorem Vb{xs ys:List AV}{n:Nat}(h:xs.length=n):((xs++ys).drop 0).take n=xs:=by simp_all
theorem wg{xs:List AV}{t:Bool}{n:Nat}(h:aq xs=0):Nat.ble (AV.ps xs t).top n=true:=by simp_all[AV.top]
theorem L4(hg:H.get id=some (.row sz op ep xs))(hx:ka H x=some new)(hf:dB sz new=true)(hne:new≠[])(hc:len+new.length≤c)(hl:off+len+new.length≤xs.length)(hs:small (len+new.length) bt=true)(e1:len+new.length=n)(e2:bL xs (off+len) new=ys):
  fX (dX sz bt H (some (.slice id ep off len (some c))) (some x))=some (.val (.slice id ep off n (some c)) (H.put id (.row sz op ep ys))):=by
 subst e1;cases new with
 |nil=>simp_all
 |cons y r=>simp_all[tV,dX,gj,gP,fX]
theorem Sx(hx:ka H x=some []):fX (dX sz bt H (some (.slice id ep off len cap)) (some x))=some (.val (.slice id ep off len cap) H):=by grind[dX,gj,gP,fX]
theorem VJ(hg:H.get id=some (.row sz op ep xs))(hx:ka H x=some new)(hf:dB sz new=true)(hne:new≠[])(hc:c<len+new.length)(hs:small (len+new.length) bt=true)(e1:(xs.drop off).take len++new=ys)(e2:ys.length=n):
  fX (dX sz bt H (some (.slice id ep off len (some c))) (some x))=some (.val (.slice H.n 0 0 n none) (H.push (.row sz true 0 ys))):=by
 cases new with
 |nil=>simp_all
 |cons y r=>
  have p1:Nat.beq ep ep=true:=pN ep;have p2:Nat.beq sz sz=true:=pN sz;have p3:Nat.ble (len+(y::r).length) c=false:=by grind[bz]
  simp_all[dX,gj,gP,ic,fX]
theorem Tu(hg:H.get id=some (.row sz op ep xs))(hk:0<k)(hc:c<len+k)(hf:dB sz [z]=true)(hs:small (len+k) bt=true)(hs2:small k bt=true)(e1:(xs.drop off).take len++List.replicate k z=ys)(e2:ys.length=n):
  fX (Cr sz bt z H (some (.slice id ep off len (some c))) (some (.int .i64 (.ofNat k))))=some (.val (.slice H.n 0 0 n none) (H.push (.row sz true 0 ys))):=by
 have p1:Nat.beq ep ep=true:=pN ep;have p2:Nat.beq sz sz=true:=pN sz;grind[Nat.ble_eq_true_of_le,Nat.blt,Cr,LQ,ic,fX]
theorem LF(hg:H.get id=some (.row sz op ep xs))(hx:ka H x=some zs)(hf:dB sz (zs.take len)=true)(e1:min zs.length len=k)(e2:bL xs off (zs.take len)=ys):
  fX (uC sz H (some (.slice id ep off len cap)) (some x))=some (.val (.int .i64 (.ofNat k)) (H.put id (.row sz op ep ys))):=by
 grind[Nat.beq_refl,uC,LG,fX]
theorem Js(hg:H.get id=some (.row sz op ep xs))(hf:dB sz [z]=true)(e2:bL xs off (List.replicate len z)=ys):
  fX (v8 sz z H (some (.slice id ep off len cap)))=some (.val gX (H.put id (.row sz op ep ys))):=by
 grind[Nat.beq_refl,v8,fX]
theorem rb{sz:Nat}:∀{xs:List AV}{n:Nat},dB sz xs=true→dB sz (xs.take n)=true
 |[],n,h=>by simp_all
 |x::r,0,_=>rfl
 |x::r,n+1,h=>by
  simp only[List.take_succ_cons,dB,bq]at h ⊢;exact⟨h.1,rb h.2⟩
theorem re{sz:Nat}:∀{xs:List AV}{n:Nat},dB sz xs=true→dB sz (xs.drop n)=true
 |[],n,h=>by simp_all
 |x::r,0,h=>h
 |x::r,n+1,h=>by
  simp only[List.drop_succ_cons,dB,bq]at h ⊢;exact re h.2
end
theorem Bi{P:Program}{G:eE}{f:FuncId}{fn:Func}{tS tR e:TypeId}{n:Nat}(hf:P.funcs[f]?=some fn)(hname:(fn.name== "runtime.NumGoroutine")=false)(hb:fn.body.isNone=true)(hn:Extern.findNext fn=none)(he:Extern.find fn=some (Extern.SlicesOverlaps.overlaps #[tS,tS] #[tR]))
  (ht:P.underlying tS=some (.slice e))(hi:cO P e=some n){xs ys:List AV}{t:Bool}{id off len c sz:Nat}{op:Bool}{h:AHeap}(hne:xs≠[])(hgo:h.get id=some (.row sz op 0 ys)):
  aL P G f [.ps xs t,.slice id 0 off len (some c)] h (fun v h'=>v=.bool false∧h'=h):=by
 intro pl M w vs hG hr hv;right;refine⟨.bool false,w,.bool false,h,?_,⟨rfl,rfl⟩,pl,M,.bool false,hr,cT.refl _ _ _ _,au _⟩;have v0:=hv.at_ 0 _ rfl;have v1:=hv.at_ 1 _ rfl;have hvs:vs=#[vs.getD 0 undef,vs.getD 1 undef]:=by
  have hl:vs.size=2:=hv.len.symm;apply Array.ext
  ·omega
  ·intro i h1 h2
   match i,h2 with
   |0,_=>simp_all
   |1,_=>simp_all
 rw[run_callFunc_extern hf hname hb hn he,hvs];generalize vs.getD 0 undef=x0 at v0;generalize vs.getD 1 undef=x1 at v1;cases v0 with
 | ps hl htt hm hs hc=>
  rename_i a cap0 sz0 c0;obtain⟨m1,m2,m3,m4⟩:=hm hne;have hpos:0<xs.length:=pP.2 hne;cases v1 with
  | slice hp hep hl1 hk ha=>
   rename_i cap1 b p;have hcap:=hk c rfl;subst hcap;obtain⟨tA,frA,hA⟩:=hr.imm _ _ m2;have ho:=hr.obj id p _ hp hgo;obtain⟨cB,tB,hB,hpe⟩:∃cB tB,w.heap[p.blk]?=some (.cells cB tB (0,0))∧p.ep=0:=by
    cases hb2:w.heap[p.blk]? with
    |none=>rw[hb2]at ho;exact ho.elim
    |some ob=>
     rw[hb2]at ho;cases ob with
     |cells cB tB fr=>obtain⟨h1,_,_,_,h5,_⟩:=ho;grind
     |_=>exact ho.elim
   have hsep:=hr.sep id p hp;have hsz:=cC hi w;have hc0:c0.size≠0:=by
    have:0<xs.length*sz0:=Nat.mul_pos hpos m4;omega
   obtain⟨q1,-⟩:=ha hpe.symm
   suffices hh:(Extern.SlicesOverlaps.overlaps #[tS,tS] #[tR] #[.slice (some a) xs.length cap0,.slice (some b) len cap1]).run P w=.ok (.bool false) w by rw[hh];rfl
   generalize xs.length=la;change Sem.run P (α:=Value) (do
    let some t:=(#[tS,tS]:Array TypeId)[0]?|stuck "slices.overlaps: no parameter types"
    let .slice elem ←underlying t|stuck "slices.overlaps: slice type expected"
    let size ←sizeOf elem
    match(some a:Option Addr),(some b:Option Addr)with
    | some a,some b=>
     if la=0∨len=0∨size=0 then pure (Value.bool false)
     else if a.block !=b.block&&(←frozen a)&&(←frozen b)then unsupported .addressObserved
     else do
      if a.block !=b.block then do
       noView a;noView b
       if ←mayBeOne a b then return Value.bool ((←choose (.extern "sameAddr.stringBytes" 2))==1)
      pure (Value.bool (a.block==b.block&&a.off<b.off+len*size&&b.off<a.off+la*size))
    |_,_=>pure (Value.bool false)) w=_
   by_cases h0:la=0∨len=0∨n=0
   ·simp[run_underlying ht,hsz,h0]
   ·have hbk:b=⟨p.blk,off*p.sz,none⟩:=by grind
    subst hbk;have hnb:a.block≠p.blk:=fun e=>by grind
    have hnb1:(a.block !=p.blk)=true:=by grind
    have hnb2:(a.block==p.blk)=false:=by grind
    have f1:∀o,w.frozen? ⟨p.blk,o,none⟩=false:=fun o=>by grind[World.frozen?]
    have s1:w.shape? a.block=some (tA,c0.size):=by grind[World.shape?]
    have s2:w.shape? p.blk=some (tB,cB.size):=by grind[World.shape?]
    cases hsx:c0.size with
    |zero=>omega
    |succ kA=>
     rw[hsx]at s1;cases hfa:w.frozen? a<;>cases hfb:w.frozen? {block:=a.block,off:=kA+1}<;>
     simp[run_underlying ht,hsz,h0,hnb1,hnb2,frozen,noView,viewAt,mayBeOne,stringish,shape,Sem.run,s1,s2,f1,hfa,hfb]
def Tk(rs:List Nat):AHeap→List AObj→Nat→AHeap
 |h,[],_=>h
 |h,o::r,i=>Tk rs (h.put (fF rs i) (j9 (fF rs) o)) r (i+1)
def XB(rs:List Nat)(h:AHeap):List AObj→Nat→Prop
 |[],_=>True
 |o::r,i=>h.get (fF rs i)=some (j9 (fF rs) o)∧XB rs h r (i+1)
def QR(h:AHeap):List AObj→Nat→Prop
 |[],_=>True
 |o::r,i=>h.get i=some o∧QR h r (i+1)
def Dv(n:Nat):List AObj→Prop
 |[]=>True
 |o::r=>(ep0 o=true∧o.top≤n)∧Dv n r
theorem Pm(rs:List Nat):∀(l:List AObj)(h:AHeap)(i:Nat),(Tk rs h l i).n=h.n
 |[],_,_=>rfl
 |_::r,h,i=>Pm rs r _ (i+1)
theorem L0{rs:List Nat}{h:AHeap}:∀{l:List AObj}{i j:Nat}{o:AObj},XB rs h l i→l[j]?=some o→h.get (fF rs (i+j))=some (j9 (fF rs) o)
 |x::r,i,0,o,a,e=>by simp at e;subst e;exact a.1
 |x::r,i,j+1,o,a,e=>by
  have:=L0 (i:=i+1) (j:=j) a.2 (by simpa using e);grind
theorem GF{h:AHeap}:∀{l:List AObj}{i j:Nat}{o:AObj},QR h l i→l[j]?=some o→h.get (i+j)=some o
 |x::r,i,0,o,a,e=>by simp at e;subst e;exact a.1
 |x::r,i,j+1,o,a,e=>by
  have:=GF (i:=i+1) (j:=j) a.2 (by simpa using e);grind
theorem vq{n:Nat}:∀{l:List AObj},Dv n l→∀o,o∈l→ep0 o=true∧o.top≤n
 |x::r,a,o,e=>by
  rcases ez.1 e with rfl|e
  ·exact a.1
  ·exact vq a.2 o e
theorem FM{rs:List Nat}:∀{l:List AObj}{h:AHeap}{i k:Nat}{o:AObj},(∀j,j<l.length→fF rs (i+j)<1000000)→(Tk rs h l i).get k=some o→
  (∃j o',l[j]?=some o'∧k=fF rs (i+j)∧o=j9 (fF rs) o')∨((∀j,j<l.length→k≠fF rs (i+j))∧h.get k=some o)
 |[],h,i,k,o,_,e=>.inr ⟨fun j hj=>absurd hj (nO _),e⟩
 | x::r,h,i,k,o,hb,e=>by
  rcases FM (l:=r) (i:=i+1) (fun j hj=>by have:=hb (j+1) (by simp_all);grind) e with⟨j,o',h1,h2,h3⟩|⟨h1,h2⟩
  ·exact .inl ⟨j+1,o',by simp_all,by grind,h3⟩
  ·rcases AHeap.get_put (by have:=hb 0 (Nat.zero_lt_succ _);omega) h2 with⟨h3,h4⟩|⟨h3,h4⟩
   ·exact .inl ⟨0,x,rfl,h3,h4⟩
   grind
theorem Gt{q:Nat→Bool}:∀{rs:List Nat}{i:Nat},rs.all q=true→i<rs.length→q (fF rs i)=true
 |x::r,0,h,_=>by simp only[List.all_cons,bq]at h;exact h.1
 |x::r,i+1,h,hi=>by
  simp only[List.all_cons,bq]at h;exact Gt (rs:=r) (i:=i) h.2 (by simp_all)
theorem pd{P:Program}{G:eE}(hG:i7 G){f:FuncId}{args args':List AV}{v v':AV}{L L' os os':List AObj}(rs:List Nat)
  (h0:aL P G f args (av L) (fun v1 h1=>v1=v∧h1=av L'))(ea:lG (fF rs) args=args')(ev:Ev.ren (fF rs) v=v')
  (c:(zj rs&&(Nat.beq rs.length L.length&&(Nat.beq L'.length L.length&&rs.all fun x=>Nat.blt x 1000000)))=true)
  (hL:Dv L.length L)(hL':Dv L.length L')(ht:aq args≤L.length)(hv:v.top≤L.length)
  (a1:XB rs (av os) L 0)(a2:QR (av L') L' 0)(a3:av os'=Tk rs (av os) L' 0):aL P G f args' (av os) (fun v1 h1=>v1=v'∧h1=av os'):=by
 simp only[bq,aD,decide_eq_true_eq]at c;obtain⟨c1,c2,c3,c4⟩:=c;subst ea;subst ev;rw[a3];refine aL.frame hG (fF rs) c3 (vq hL) (vq hL') (fun i o hi=>by have:=GF a2 hi;simp_all) ht hv (fun i j hi hj=>rY c1 i j (by omega) (by omega)) h0
  (fun i o hi=>by have:=L0 a1 hi;simp_all) (fun k o hk=>?_) (Pm rs L' _ 0)
 rcases FM (fun j hj=>by have:=Gt c4 (show 0+j<rs.length by omega);simp_all) hk with⟨j,o',h1,h2,h3⟩|⟨h1,h2⟩
 all_goals grind
theorem vc{ρ:Nat→Nat}{sz ep:Nat}{b:Bool}{xs:List AV}(h:aq xs=0):j9 ρ (.row sz b ep xs)=.row sz b ep xs:=by grind[j9,eS]
theorem fj{P:Program}{G:eE}(hG:i7 G){f:FuncId}{args args':List AV}{v v':AV}{sz:Nat}{b b':Bool}{xs xs':List AV}{os os':List AObj}(id:Nat)(hx:aq xs=0)(hx':aq xs'=0)
  (h0:aL P G f args (av [.row sz b 0 xs]) (fun v1 h1=>v1=v∧h1=av [.row sz b' 0 xs']))(ea:lG (fF [id]) args=args')(ev:Ev.ren (fF [id]) v=v')(c:Nat.blt id 1000000=true)
  (ht:Nat.ble (aq args) 1=true)(hv:Nat.ble v.top 1=true)(a1:(av os).get id=some (.row sz b 0 xs))(a3:av os'=(av os).put id (.row sz b' 0 xs')):aL P G f args' (av os) (fun v1 h1=>v1=v'∧h1=av os'):=
 pd hG [id] h0 ea ev (by simp only[zj,jW,List.all_cons,List.all_nil,c];rfl) ⟨⟨rfl,by grind[AObj.top]⟩,trivial⟩ ⟨⟨rfl,by grind[AObj.top]⟩,trivial⟩ (vJ ht) (vJ hv)
  ⟨by rw[vc hx];exact a1,trivial⟩ ⟨rfl,trivial⟩ (by rw[a3];show _=AHeap.put _ _ (j9 _ _);rw[vc hx'];rfl)
end Go.Ev
namespace Go.Ev
open Go
def js(u:TUnit)(ks:List TUnit):TUnit:=⟨u.act,u.item,u.n,u.kind,u.label,u.head,u.words,ks⟩
def mQ(w:List PWord)(u:TUnit):TUnit:=⟨u.act,u.item,u.n,u.kind,u.label,u.head,w,u.kids⟩
def AW(w:List PWord)(u:TUnit):TUnit:=⟨u.act,u.item,u.n,u.kind,u.label,w,u.words,u.kids⟩
def pZ(s:aI)(u:TUnit):TUnit:=⟨u.act,u.item,u.n,u.kind,s,u.head,u.words,u.kids⟩
def wS(i:Nat)(x:TUnit)(l:List TUnit):List TUnit:=l.take i++(x::l.drop i)
def gh(i:Nat)(u:TUnit):TUnit:=js u (u.kids.eraseIdx i)
def du(i:Nat)(x:TUnit)(u:TUnit):TUnit:=js u (wS i x u.kids)
mutual
def dW(p:PId)(f:TUnit→TUnit):TUnit→TUnit
 |⟨a,i,n,k,l,h,w,ks⟩=>bif fE p ⟨a,i,n,k,l,h,w,ks⟩then f ⟨a,i,n,k,l,h,w,ks⟩else⟨a,i,n,k,l,h,w,eu p f ks⟩
def eu(p:PId)(f:TUnit→TUnit):List TUnit→List TUnit
 |[]=>[]
 |k::r=>bif cq p k then dW p f k::r else k::eu p f r
end
section
variable{p:PId}{f:TUnit→TUnit}{u w:TUnit}{l r:List TUnit}{i:Nat}
theorem FJ(p:PId)(f:TUnit→TUnit)(u:TUnit):dW p f u=bif fE p u then f u else js u (eu p f u.kids):=by cases u;rw[dW];rfl
theorem sj:eu p f []=[]:=by rw[eu]
theorem jD(k:TUnit)(r:List TUnit):eu p f (k::r)=bif cq p k then dW p f k::r else k::eu p f r:=by rw[eu]
theorem qR(h:fE p u=true):dW p f u=f u:=by rw[FJ,h];rfl
theorem kr(h:fE p u=false):dW p f u=js u (eu p f u.kids):=by rw[FJ,h];rfl
def jK(p:PId)(f:TUnit→TUnit)(l:List TUnit)(i:Nat)(r:List TUnit):Prop:=eu p f l=l.take i++eu p f r
theorem jK.start:jK p f l 0 l:=rfl
theorem jK.skip(h:jK p f l i (w::r))(hd:l.drop i=w::r)(hw:cq p w=false):jK p f l (i+1) r:=by
 unfold jK at *;have hi:i<l.length:=by grind[List.drop_eq_nil_of_le]
 have e:l[i]=w:=by
  have:=congrArg (·[0]?) hd;grind
 grind[jD]
theorem jK.hit(h:jK p f l i (w::r))(hd:l.drop i=w::r)(hw:cq p w=true):eu p f l=l.set i (dW p f w):=by
 unfold jK at h;have hi:i<l.length:=by grind[List.drop_eq_nil_of_le]
 rw[h,jD,hw,List.set_eq_take_append_cons_drop,if_pos hi];have:l.drop (i+1)=r:=by rw[←BI,hd];rfl
 simp_all
theorem jK.done(h:jK p f l i [])(hd:l.drop i=[]):eu p f l=l:=by simp_all[jK,sj,BH]
theorem IK:∀(u:TUnit),cq p u=false→dW p f u=u:=TUnit.ind fun u ih h=>by
 have hw:=AK h;rw[gx]at hw;cases hi:fE p u with
 |true=>grind
 | false=>
  rw[hi]at hw;simp only[cond_false]at hw;have key:∀(r:List TUnit),(∀k,k∈r→k∈u.kids)→co p r=[]→eu p f r=r:=by
   intro r;induction r with
   |nil=>grind[sj]
   |cons k r ihr=>
    intro hm hr;cases hk:cq p k with
    |true=>grind[nT,lX]
    |false=>simp_all[iH,jD]
  have hk:co p u.kids=[]:=by grind
  rw[kr hi,key u.kids (fun _ h=>h) hk];cases u;rfl
end
end Go.Ev
namespace Go.Ev
open Go
noncomputable def bb(n:Nat):AV:=.int .i64 (.ofNat n)
theorem XV(n:Nat):(bb n).top=0:=rfl
section
variable{l part:List aI}{i:Nat}{acc:List Nat}
def nW(l part:List aI)(i:Nat)(acc:List Nat):Prop:=acc.length≤i∧i≤l.length+part.length∧∃f,uQ l part=acc++vp part f l i∧l.length<i+f
theorem nW.start(hp:0<part.length):nW l part 0 []:=by
 refine⟨au _,bH _,l.length+1,?_,by omega⟩;unfold uQ;grind
theorem KT{f:Nat}(hi:i+part.length≤l.length):vp part (f+1) l i=bif cW dT ((l.take (i+part.length)).drop i) part then i::vp part f l (i+part.length)else vp part f l (i+1):=by
 have e:(l.take (i+part.length)).drop i=(l.drop i).take part.length:=by grind
 rw[vp,tV hi,e];rfl
theorem nW.skip(h:nW l part i acc)(hi:i+part.length≤l.length)(hp:0<part.length)(hm:cW dT ((l.take (i+part.length)).drop i) part=false):nW l part (i+1) acc:=by
 obtain⟨h1,h2,f,h3,h4⟩:=h;cases f with
 |zero=>omega
 |succ f=>rw[KT hi,hm]at h3;exact⟨by omega,by omega,f,h3,by omega⟩
theorem nW.hit(h:nW l part i acc)(hi:i+part.length≤l.length)(hp:0<part.length)(hm:cW dT ((l.take (i+part.length)).drop i) part=true):nW l part (i+part.length) (acc++[i]):=by
 obtain⟨h1,h2,f,h3,h4⟩:=h;cases f with
 |zero=>omega
 |succ f=>
  rw[KT hi,hm]at h3;exact⟨by grind,by omega,f,by simp_all,by omega⟩
theorem nW.done(h:nW l part i acc)(hi:l.length<i+part.length):uQ l part=acc:=by
 obtain⟨h1,h2,f,h3,h4⟩:=h;cases f with
 |zero=>grind[vp]
 |succ f=>grind[vp,bz]
theorem nW.len(h:nW l part i acc):acc.length≤l.length+part.length:=bT h.1 h.2.1
end
def qO(g:Nat):List Nat→Nat→Nat→Prop
 |[],_,_=>True
 |p::r,lo,n=>lo≤p∧p+g≤n∧qO g r (p+g) n
theorem sr(part:List aI)(hp:0<part.length):∀(f:Nat)(l:List aI)(i:Nat),qO part.length (vp part f l i) i l.length
 |0,l,i=>by rw[vp];trivial
 | f+1,l,i=>by
  rw[vp];have key:∀(m:List Nat)(a b n:Nat),a≤b→qO part.length m b n→qO part.length m a n:=by
   intro m;cases m with
   |nil=>intro _ _ _ _ _;trivial
   |cons p r=>intro a b n h ⟨h1,h2,h3⟩;exact⟨bT h h1,h2,h3⟩
  cases hb:Nat.ble (i+part.length) l.length with
  |false=>trivial
  |true=>
   rw[bz]at hb;have hb:=of_decide_eq_true hb;simp only[cond_true];cases cW dT ((l.drop i).take part.length) part with
   |true=>exact⟨au _,hb,sr part hp f l _⟩
   |false=>exact key _ _ _ _ (nP i) (sr part hp f l (i+1))
theorem Cf(l part:List aI):qO part.length (uQ l part) 0 l.length:=by
 unfold uQ;cases part with
 |nil=>trivial
 |cons x r=>exact sr (x::r) (wK _) _ l 0
def oe(g:Nat)(l:List Nat)(n:Nat):Prop:=∀i,i<l.length→gD l i+g≤n∧∀j,j<i→gD l j+g≤gD l i
theorem BQ{g n:Nat}:∀{l:List Nat}{lo:Nat},qO g l lo n→oe g l n
 |[],_,_=>fun i hi=>absurd hi (nO _)
 | p::r,lo,⟨h1,h2,h3⟩=>by
  have low:∀(m:List Nat)(a:Nat),qO g m a n→∀i,i<m.length→a≤gD m i:=by
   intro m;induction m with
   |nil=>simp_all
   |cons q m ih=>
    intro a ⟨k1,k2,k3⟩ i hi;cases i with
    |zero=>exact k1
    |succ i=>have:=ih _ k3 i (by simp_all);grind[gD]
  intro i hi;cases i with
  |zero=>exact⟨h2,fun j hj=>absurd hj (nO _)⟩
  |succ i=>
   have hi':i<r.length:=by simp_all
   obtain⟨k1,k2⟩:=BQ h3 i hi';refine⟨k1,fun j hj=>?_⟩;cases j with
   |zero=>exact low r _ h3 i hi'
   |succ j=>exact k2 j (by omega)
def fT(at_ g:Nat)(m l:List PWord):List PWord:=l.take at_++m++l.drop (at_+g)
def th(a b:Int)(g:Nat)(ps:List Nat)(fresh:List aI):Nat→List PWord→List PWord
 |0,l=>l
 |i+1,l=>th a b g ps fresh i (fT (gD ps i) g (cA a b fresh (i*fresh.length)) l)
theorem M6{at_ g:Nat}{m l:List PWord}(h:at_+g≤l.length):(fT at_ g m l).length+g=l.length+m.length:=by grind[fT]
structure PutI(a b:Int)(g:Nat)(ps:List Nat)(fresh:List aI)(w:List PWord)(i:Nat)(l:List PWord):Prop where
 le:i≤ps.length
 all:th a b g ps fresh ps.length w=th a b g ps fresh i l
 room:∀j,j<i→gD ps j+g≤l.length
 small:l.length≤w.length+(ps.length-i)*fresh.length
theorem PutI.start{a b:Int}{g:Nat}{ps:List Nat}{fresh:List aI}{w:List PWord}(h:oe g ps w.length):PutI a b g ps fresh w ps.length w:=⟨au _,rfl,fun j hj=>(h j hj).1,by omega⟩
theorem PutI.step{a b:Int}{g:Nat}{ps:List Nat}{fresh:List aI}{w l:List PWord}{i:Nat}(hg:oe g ps w.length)(h:PutI a b g ps fresh w (i+1) l):PutI a b g ps fresh w i (fT (gD ps i) g (cA a b fresh (i*fresh.length)) l):=by
 have hr:=h.room i (Nat.lt_succ_self i);have hl:=M6 (m:=cA a b fresh (i*fresh.length)) hr;rw[fO]at hl;have hle:=h.le;refine⟨by omega,h.all,fun j hj=>?_,?_⟩
 ·have:=(hg i (by omega)).2 j hj;grind
 ·have hs:=h.small;have e:(ps.length-i)*fresh.length=(ps.length-(i+1))*fresh.length+fresh.length:=by rw[show ps.length-i=(ps.length-(i+1))+1 by omega,pS]
  omega
theorem PutI.done{a b:Int}{g:Nat}{ps:List Nat}{fresh:List aI}{w l:List PWord}(h:PutI a b g ps fresh w 0 l):th a b g ps fresh ps.length w=l:=h.all
theorem PutI.len{a b:Int}{g:Nat}{ps:List Nat}{fresh:List aI}{w l:List PWord}{i:Nat}(h:PutI a b g ps fresh w i l)(h1:w.length≤2^18)(h2:ps.length≤2^9)(h3:fresh.length≤2^9):l.length≤2^19:=by
 have:=h.small;have:(ps.length-i)*fresh.length≤2^9*2^9:=Nat.mul_le_mul (by omega) h3;omega
section
variable{sz b id n n' k l h m:Nat}{H:AHeap}{xs ys zs:List AV}{t:Bool}{x z:AV}{vl:Option AV}
theorem Ig(hh:pX sz xs=true)(h1:jQ 0 vl=some l)(h2:fu x=some h)(h3:fu z=some h)(q1:l≤h)(q2:h≤xs.length)(e:(xs.take h).drop l=ys):ba H (dU sz H (some (.ps xs t)) vl (some x) (some z))=some (.val (.ps ys true) H):=by simp_all[tV,dU,fR,uo,ba]
theorem Pj(hh:pX sz xs=true)(h1:fu x=some l)(q1:l≤xs.length)(e:xs.drop l=ys):ba H (dU sz H (some (.ps xs false)) (some x) none none)=some (.val (.ps ys false) H):=by
 have p2:Nat.ble l xs.length=true:=tV q1;have p3:Nat.ble xs.length xs.length=true:=tV (au _);simp only[dU,fR,hh,jQ,h1,uo,p2,p3,yf,List.take_length,e,yd,ba]
theorem ZK(hf:dB sz xs=true)(hf2:dB sz ys=true)(hne:ys≠[])(hs:small (xs.length+ys.length) b=true)(e:xs++ys=zs)(e2:zs.length=n):fX (dX sz b H (some (.ps xs true)) (some (.ls ys)))=some (.val (.slice H.n 0 0 n none) (H.push (.row sz true 0 zs))):=by
 cases ys with
 |nil=>simp_all
 |cons y r=>simp_all[dX,gj,ka,kx,gP,ic,fX]
theorem Sz(e:ys=[]):fX (dX sz b H (some (.ps xs true)) (some (.ls ys)))=some (.val (.ps xs true) H):=by subst e;rfl
def tz:List AV→Nat
 |[]=>0
 |_::_=>1
theorem VW(hg:H.get id=some (.row sz true 0 xs))(hp:H.put id (.row sz true 0 xs)=H)(hf:dB sz ys=true)(hl:xs.length=n)(hs:small (n+ys.length) b=true)(e:xs++ys=zs)(e2:zs.length=n'):
  fX (dX sz b H (some (.slice id 0 0 n none)) (some (.ps ys t)))=some (.val (.slice id (tz ys) 0 n' none) (H.put id (.row sz true (tz ys) zs))):=by
 cases ys with
 |nil=>
  rw[ef]at e;subst e;simp only[tz,hp,←e2,hl];rfl
 |cons y r=>
  have p1:Nat.beq 0 0=true:=rfl;have p2:Nat.beq sz sz=true:=pN sz;have p4:xs.take n=xs:=BH (by omega);have p5:n+(y::r).length=n':=by grind
  have p3:Nat.ble n' xs.length=false:=by grind[bz]
  rw[p5]at hs;simp only[dX,gj,ka,kx,gP,hf,hg,p1,p2,hs,yf,p3,p4,e,p5,tz,fX,fw]
theorem Sq(hf:dB sz xs=true)(hf2:dB sz ys=true)(hne:ys≠[])(hs:small (xs.length+ys.length) b=true)(e:xs++ys=zs)(e2:zs.length=n):fX (dX sz b H (some (.ps xs true)) (some (.ps ys t)))=some (.val (.slice H.n 0 0 n none) (H.push (.row sz true 0 zs))):=by
 cases ys with
 |nil=>simp_all
 |cons y r=>simp_all[dX,gj,ka,kx,gP,ic,fX]
end
end Go.Ev
namespace Go.Ev
open Go
def nG(l:List Nat)(n:Int):List Nat:=bif al n 0 then l else bif ao (Int.ofNat l.length) n then[]else(l.take n.toNat).drop (n.toNat-1)
theorem Uv{l:List Nat}{a b i:Nat}(h:i<((l.take b).drop a).length):gD ((l.take b).drop a) i=gD l (a+i):=by grind[gD]
theorem NA{g n a b:Nat}{l:List Nat}(h:oe g l n):oe g ((l.take b).drop a) n:=by
 intro i hi;have hl:((l.take b).drop a).length≤l.length-a:=by grind
 obtain⟨h1,h2⟩:=h (a+i) (by omega);grind[Uv]
theorem GI{g n:Nat}{l:List Nat}{k:Int}(h:oe g l n):oe g (nG l k) n:=by
 unfold nG;cases al k 0 with
 |true=>grind
 |false=>
  cases ao (Int.ofNat l.length) k with
  |true=>exact fun i hi=>absurd hi (nO _)
  |false=>exact NA h
theorem F5(l:List Nat)(k:Int):(nG l k).length≤l.length:=by
 unfold nG;grind
theorem DU{g n:Nat}(hg:0<g):∀{l:List Nat}{lo:Nat},qO g l lo n→lo≤n→l.length+lo≤n
 |[],lo,_,h=>by simp_all
 |p::r,lo,⟨h1,h2,h3⟩,_=>by have:=DU hg h3 h2;grind
theorem KS(l part:List aI):(uQ l part).length≤l.length:=by
 cases part with
 |nil=>exact bH _
 |cons x r=>have:=DU (wK _) (Cf l (x::r)) (bH _);omega
theorem F4(l part:List aI):oe part.length (uQ l part) l.length:=BQ (Cf l part)
def xB(c i:Nat)(l:List Nat):List Nat:=(l.take i).map (· +c)++l.drop i
theorem Sf(c i:Nat)(l:List Nat):(xB c i l).length=l.length:=by grind[xB]
theorem VU{c i:Nat}{l:List Nat}(h:i<l.length):gD (xB c i l) i=gD l i:=by
 unfold xB gD List.getD;grind
theorem Oa{c i:Nat}{l:List Nat}(h:i<l.length):(xB c i l).set i (gD l i+c)=xB c (i+1) l:=by
 unfold xB;have h1:((l.take i).map (· +c)).length=i:=by grind
 rw[List.set_append_right _ _ (by omega),h1,Nat.sub_self,OA h,List.set_cons_zero,OB h,rH];grind[gD]
theorem Oy{c n:Nat}{l m:List Nat}(h:l.length=n):(xB c n (l++m)).take n=l.map (· +c):=by grind[xB]
theorem JY{c i:Nat}{l:List Nat}(h:i<l.length):gD (l.map (· +c)) i=gD l i+c:=by grind[gD]
theorem Q0{c n:Nat}{l:List Nat}(h:oe c l n):oe 0 (l.map (· +c)) n:=by
 intro i hi;rw[cJ]at hi;obtain⟨h1,h2⟩:=h i hi;grind[JY]
def ve(l:List PWord):List PWord:=bif ao 256 (Int.ofNat l.length)then[]else l
def zV(l:List PWord):Int:=bif ao 256 (Int.ofNat l.length)then 6 else 0
def xr(a b:Int)(g:Nat)(ps:List Nat)(fresh:List aI)(w:List PWord):List PWord×Int:=(ve (th a b g ps fresh ps.length w),zV (th a b g ps fresh ps.length w))
def FF(a b:Int)(w:List PWord)(old new:List aI)(n:Int):List PWord×Int:=bif al (Int.ofNat old.length) 0 then([],1)else bif al (Int.ofNat (nG (uQ (b6 w) old) n).length) 0 then([],4)else xr a b old.length (nG (uQ (b6 w) old) n) new w
def D7(a b:Int)(w:List PWord)(part new:List aI)(n:Int):List PWord×Int:=
 bif al (Int.ofNat new.length) 0||(al (Int.ofNat part.length) 0&&aj (al n 0))then([],1)
 else bif al (Int.ofNat part.length) 0 then xr a b 0 [0] new w
 else bif al (Int.ofNat (nG (uQ (b6 w) part) n).length) 0 then([],4)else xr a b 0 ((nG (uQ (b6 w) part) n).map (· +part.length)) new w
end Go.Ev
namespace Go.Ev
open Go
def kE(x k:TUnit):Bool:=al k.kind x.kind&&dT k.label x.label
def yC(p x:TUnit):Int:=bif jV p.kind x.kind then(bif p.kids.any (kE x)then 10 else 0)else 9
def Ro(u:TUnit)(p:PId)(x:TUnit):Bool:=ao 8 (Int.ofNat ((pG p u).length+1+m5 x))
abbrev pH:=TUnit×Int
def Nr(u:TUnit)(te:Int)(full cf:Bool)(u2:TUnit):pH:=bif al te 0 then(bif full then(u,6)else bif cf then(u,5)else(u2,0))else(u,te)
def FX(u:TUnit)(e:Int)(u2:TUnit):pH:=bif al e 0 then(u2,0)else(u,e)
def Tz(u:TUnit)(te:Int)(u2:TUnit):pH:=bif al te 10 then(u,10)else(u2,0)
def QJ(u:TUnit)(te:Int)(full:Bool)(u2:TUnit):pH:=bif al te 0 then(bif full then(u,6)else(u2,0))else(u,te)
def Ha(e1 e2:Int)(sp:PSpot)(e3:Int):PSpot×Int:=bif al e1 0 then(bif al e2 0 then(bif al e3 0 then(sp,0)else(dG,e3))else(dG,e2))else(dG,e1)
noncomputable def eL(r:pH):AV:=.tuple [eU r.1,.int .i64 r.2]
end Go.Ev
namespace Go.Ev
open Go
theorem vf{p:PId}{u:TUnit}(h:cq p u=true):ei p u∈bp u∧bv (ei p u)=p:=by grind[OS,SE,CM]
theorem ry(l m:List TUnit):ie (l++m)=ie l++ie m:=by
 induction l with
 |nil=>rw[rv];rfl
 |cons k r ih=>grind[gK]
theorem ql(u:TUnit)(l:List TUnit):dx (js u l)=bv u::ie l:=by rw[nb];rfl
theorem lI(u:TUnit):nU u=(dx u).length:=(uv u).symm
theorem wA(u:TUnit)(l:List TUnit):bp (js u l)=js u l::dr l:=by rw[dw];rfl
theorem sx{q:PId}:∀(u:TUnit),cq q u=true→∃v C,v∈bp u∧bv v=q∧(dx u).Perm (C++dx v)∧∀f,(dx (dW q f u)).Perm (C++dx (f v))∧
  ∀x,x∈bp (dW q f u)→x∈bp (f v)∨∃y,y∈bp u∧bv x=bv y∧x.kids.length=y.kids.length∧x.head=y.head∧x.words=y.words:=TUnit.ind fun u ih h=>by
 cases hi:fE q u with
 |true=>
  refine⟨u,[],dq u,(gc q u).1 hi,List.Perm.refl _,fun f=>?_⟩;grind[qR]
 | false=>
  have key:∀(r:List TUnit),(∀k,k∈r→k∈u.kids)→co q r≠[]→∃v C,v∈dr r∧bv v=q∧(ie r).Perm (C++dx v)∧∀f,(ie (eu q f r)).Perm (C++dx (f v))∧(eu q f r).length=r.length∧
    ∀x,x∈dr (eu q f r)→x∈bp (f v)∨∃y,y∈dr r∧bv x=bv y∧x.kids.length=y.kids.length∧x.head=y.head∧x.words=y.words:=by
   intro r;induction r with
   |nil=>grind[ku]
   | cons k r ihr=>
    intro hm hw;cases hk:cq q k with
    | true=>
     obtain⟨v,C,h1,h2,h3,h4⟩:=ih k (hm k (eW ..)) hk;refine⟨v,C++ie r,by grind[bM],h2,?_,fun f=>?_⟩
     ·grind[gK]
     ·have e:eu q f (k::r)=dW q f k::r:=by rw[jD,hk];rfl
      rw[e];refine⟨?_,rfl,fun x hx=>?_⟩
      ·grind[gK]
      ·rw[bM]at hx;rcases jA.1 hx with hx|hx
       ·grind[bM]
       ·exact .inr ⟨x,by grind[bM],rfl,rfl,rfl,rfl⟩
    |false=>
     rw[iH hk]at hw;obtain⟨v,C,h1,h2,h3,h4⟩:=ihr (fun x hx=>hm x (eJ _ hx)) hw;refine⟨v,dx k++C,by grind[bM],h2,by grind[gK],fun f=>?_⟩;have e:eu q f (k::r)=k::eu q f r:=by rw[jD,hk];rfl
     rw[e];refine⟨by grind[gK],by simp_all,fun x hx=>?_⟩;rw[bM]at hx;rcases jA.1 hx with hx|hx
     ·exact .inr ⟨x,by grind[bM],rfl,rfl,rfl,rfl⟩
     grind[bM]
  have hw:co q u.kids≠[]:=by
   intro e;have:=lX h;rw[gx,hi,e]at this;simp_all
  obtain⟨v,C,h1,h2,h3,h4⟩:=key u.kids (fun _ h=>h) hw;refine⟨v,bv u::C,by grind[dw],h2,by grind[nb],fun f=>?_⟩;rw[kr hi];refine⟨by grind[ql],fun x hx=>?_⟩;rw[wA]at hx;rcases ez.1 hx with rfl|hx
  ·exact .inr ⟨u,dq u,rfl,(h4 f).2.1,rfl,rfl⟩
  grind[dw]
theorem vi{p:PId}:∀(u:TUnit),iZ p u=true→∃q i,q∈bp u∧so p u=bv q∧qj p u=Int.ofNat i∧i<q.kids.length∧bv (gD q.kids i)=p:=TUnit.ind fun u ih h=>by
 have hh:cq p u=true:=by
  cases e:cq p u with
  |true=>rfl
  |false=>grind[QL]
 cases hi:fE p u with
 |true=>
  unfold iZ at h;rw[qS hi]at h;cases h
 | false=>
  have key:∀(r:List TUnit),co p r≠[]→∃j k,j<r.length∧gD r j=k∧cq p k=true∧co p r=aG p k∧∀n,dA (cq p) r n=Int.ofNat (n+j):=by
   intro r;induction r with
   |nil=>grind[ku]
   | cons k r ihr=>
    intro hw;cases hk:cq p k with
    |true=>
     refine⟨0,k,wK _,rfl,hk,nT hk,fun n=>?_⟩;unfold dA;simp_all
    | false=>
     rw[iH hk]at hw;obtain⟨j,k2,h1,h2,h3,h4,h5⟩:=ihr hw;refine⟨j+1,k2,by simp_all,h2,h3,by grind[iH],fun n=>?_⟩;have e:dA (cq p) (k::r) n=dA (cq p) r (n+1):=by
      show(bif cq p k then _ else _)=_
      simp_all
     grind
  have hw:co p u.kids≠[]:=by
   intro e;have:=lX hh;rw[gx,hi,e]at this;simp_all
  obtain⟨j,k,h1,h2,h3,h4,h5⟩:=key u.kids hw;obtain⟨y,t,e⟩:=vL h3;have hway:aG p u=u::aG p k:=by rw[gx,hi,h4,e];rfl
  have hkm:k∈u.kids:=h2▸gV h1;rw[ID h,IE h];cases hk:iZ p k with
  | true=>
   obtain⟨q,i,q1,q2,q3,q4,q5⟩:=ih k hkm hk;rw[ID hk]at q2;rw[IE hk]at q3;have e2:Iz p u=Iz p k:=by
    unfold Iz;rw[hway];have:2≤(aG p k).length:=by
     unfold iZ at hk;cases hl:ao (Int.ofNat (aG p k).length) 2 with
     |true=>grind
     |false=>have:=aB hl;grind
    show gD (u::aG p k) ((aG p k).length+1-2)=_
    rw[show(aG p k).length+1-2=((aG p k).length -2)+1 by omega];rfl
   grind[bA]
  | false=>
   have hl:(aG p k).length=1:=by
    unfold iZ at hk;cases hl:ao (Int.ofNat (aG p k).length) 2 with
    |false=>grind
    |true=>have:=am hl;grind
   have hik:fE p k=true:=by
    cases hik:fE p k with
    |true=>rfl
    |false=>
     rw[gx,hik]at hl e;grind
   have e2:Iz p u=u:=by
    unfold Iz;rw[hway];show gD (u::aG p k) ((aG p k).length+1-2)=_
    rw[hl];rfl
   rw[e2,h5 0,fw];exact⟨u,j,dq u,rfl,rfl,h1,by grind[gc]⟩
theorem Uk{p:PId}{u:TUnit}(h:cq p u=true)(hi:fE p u=false):iZ p u=true:=by
 have hw:aG p u≠[]:=lX h;have e:aG p u=match co p u.kids with|[]=>[]|y::t=>u::y::t:=by rw[gx,hi];rfl
 unfold iZ;rw[e]at hw ⊢;cases ew:co p u.kids with
 |nil=>simp_all
 |cons y t=>
  show aj (ao (Int.ofNat (u::y::t).length) 2)=true
  rw[iQ (by grind)];rfl
theorem Uq{v:TUnit}{i:Nat}(h:i<v.kids.length):(dx v).Perm (dx (gh i v)++dx (gD v.kids i)):=by
 unfold gh;rw[nb v,ql,Ot,ry];have e:v.kids=v.kids.take i++(gD v.kids i::v.kids.drop (i+1)):=by grind[gD,List.drop_eq_getElem_cons,List.take_append_drop]
 grind[ry,gK]
theorem UU{v x:TUnit}{i:Nat}:(dx (du i x v)).Perm (dx v++dx x):=by
 unfold du wS;rw[nb v,ql,ry,gK,yh];grind[List.take_append_drop,ry]
end Go.Ev
namespace Go.Ev
open Go
section
variable{P:Program}{G:eE}{call:cZ}{m:Nat}{c:Code}{d:D}{s s':St}{ops:Array Oper}{h h':AHeap}{o:AObj}{f:FuncId}{args:List AV}{v u:AV}{pl pl':Pl}{M M':dt}{w w':World}
theorem cF.psh(g2:cF pl M h w):cF pl M (h.push o) w:=
 ⟨fun id p hp=>Nat.lt_succ_of_lt (g2.dom id p hp),(fun id p o' hp hg=>by
  rcases dJ hg with⟨rfl,_⟩|⟨_,h2⟩
  ·exact absurd (g2.dom _ p hp) (wz _)
  ·exact g2.obj id p o' hp h2),g2.blk,g2.inj,g2.imm,g2.sep⟩
theorem cT.psh(g2:cF pl M h w)(g4:cT h pl M w h' pl' M' w')(g2':cF pl' M' h' w'):cT h pl M w (h'.push o) pl' M' w':=
 ⟨g4.ext,g4.new,g4.mem,g4.size,g4.kept,g4.blks,(fun id p hp hg=>by
  have:=g4.live id p hp hg;cases hh:(h'.push o).get id with
  |none=>rfl
  |some o'=>
   rcases dJ hh with⟨rfl,_⟩|⟨_,h2⟩
   ·obtain⟨p',e1,_⟩:=g4.ext _ p hp;exact absurd (g2'.dom _ p' e1) (wz _)
   simp_all),g4.stay,g4.memNew,g4.os,g4.tape,g4.out,g4.drawn⟩
theorem aL.psh(h0:aL P G f args h (fun v1 h1=>v1=v∧h1=h'))(hl:Le u v):aL P G f args h (fun v1 h1=>v1=u∧h1=h'.push o):=by
 intro pl M w vs hg hr hv;have key:∀{cv w'},iJ pl M h w v h' cv w'→iJ pl M h w u (h'.push o) cv w':=fun⟨pl',M',k1,k2,k3,k4⟩=>⟨pl',M',hl _ _ _ k1,cF.psh k2,cT.psh hr k3 k2,Nat.le_succ_of_le k4⟩
 rcases h0 pl M w vs hg hr hv with⟨h1,h2⟩|⟨cv,w',v',h'',h1,⟨rfl,rfl⟩,h3⟩
 ·exact .inl ⟨h1,Calls.mono h2 fun e w' ⟨cv,v',h'',k1,⟨k2,k2'⟩,k3⟩=>⟨cv,u,h'.push o,k1,⟨rfl,rfl⟩,by simp_all⟩⟩
 ·exact .inr ⟨cv,w',u,_,h1,⟨rfl,rfl⟩,key h3⟩
theorem JM{Ψ Ψ':AV→AHeap→Prop}(o:AObj)(h0:aL P G f args h Ψ)(hΨ:∀v h',Ψ v h'→∃u,Le u v∧Ψ' u (h'.push o)):aL P G f args h Ψ':=by
 intro pl M w vs hg hr hv;have key:∀{v u h' cv w'},Le u v→iJ pl M h w v h' cv w'→iJ pl M h w u (h'.push o) cv w':=fun hl ⟨pl',M',k1,k2,k3,k4⟩=>⟨pl',M',hl _ _ _ k1,cF.psh k2,cT.psh hr k3 k2,Nat.le_succ_of_le k4⟩
 rcases h0 pl M w vs hg hr hv with⟨h1,h2⟩|⟨cv,w',v',h'',h1,h2,h3⟩
 ·refine .inl ⟨h1,Calls.mono h2 fun e w' ⟨cv,v',h'',k1,k2,k3⟩=>?_⟩;grind
 ·obtain⟨u,q1,q2⟩:=hΨ _ _ h2;exact .inr ⟨cv,w',u,_,h1,q2,key q1 h3⟩
theorem Pe(pl:Pl)(M:dt)(p:Place)(x:Option Obj):bu pl M p .dead x:=by cases x<;>trivial
theorem aL.dead{i:Nat}{Ψ Ψ':AV→AHeap→Prop}(h0:aL P G f args h Ψ)(hi:h.n≤i)(hm:i<1000000)(hΨ:∀v h',Ψ v h'→Ψ' v (h'.put i .dead)):aL P G f args h Ψ':=by
 intro pl M w vs hg hr hv;have key:∀{v h' cv w'},iJ pl M h w v h' cv w'→iJ pl M h w v (h'.put i .dead) cv w':=fun⟨pl',M',k1,k2,k3,k4⟩=>⟨pl',M',k1,⟨k2.dom,(fun id p o hp hg=>by
  rcases AHeap.get_put hm hg with⟨_,rfl⟩|⟨_,h2⟩
  ·grind[Pe]
  ·exact k2.obj id p o hp h2),k2.blk,k2.inj,k2.imm,k2.sep⟩,⟨k3.ext,k3.new,k3.mem,k3.size,k3.kept,k3.blks,(fun id p hp hg=>by
   have hl:=hr.dom id p hp;have hn:=k3.live id p hp hg;cases hh:AHeap.get (AHeap.put _ i .dead) id with
   |none=>rfl
   |some o'=>grind[AHeap.get_put]),k3.stay,k3.memNew,k3.os,k3.tape,k3.out,k3.drawn⟩,k4⟩
 rcases h0 pl M w vs hg hr hv with⟨h1,h2⟩|⟨cv,w',v',h'',h1,h2,h3⟩
 ·exact .inl ⟨h1,Calls.mono h2 fun e w' ⟨cv,v',h'',k1,k2,k3⟩=>⟨cv,v',h''.put i .dead,k1,hΨ _ _ k2,key k3⟩⟩
 ·exact .inr ⟨cv,w',v',_,h1,hΨ _ _ h2,key h3⟩
end
section
variable{P:Program}{G:eE}{ops:Array Oper}{o:Oper}{l:List Oper}{s:St}{b:Option Nat}
theorem xg{t tx e:TypeId}{i:TypeInfo}{sz bt:Nat}(hsz:i.size=sz)(hbt:i.bytes=bt){z z0:AV}{sO xO:Operand}{dst:Option Tmp}{ty:TypeId}{pos:String}{after:Array Edge}{guard:Option (Nat×Bool)}{xs:List AV}
  (ht:P.underlying t=some (.slice e))(hk:∃e',P.underlying tx=some (.slice e'))(hi:P.info? e=some i)(hz:i9 P e=some z0)(hzl:Le z z0)
  (hs:(ct G sO).run s.tmps=some (.ps [] true))(hx:(ct G xO).run s.tmps=some (.ls xs))(hne:xs≠[])(hfit:dB sz xs=true)(hzf:dB sz [z]=true)(hsm:small xs.length bt=true)(hs0:0<sz)
  (pl:Pl)(M:dt)(a:Act)(w:World)(g1:pe G pl M)(g2:cF pl M s.heap w)(g3:FrRel pl M s.tmps a):
  ∃(k:Nat)(pl':Pl)(M':dt)(cv:Value)(w':World),k=0∧(execOp a.eval ⟨dst,.call ⟨.builtin .append,#[sO,xO],#[t,tx]⟩,ty,pos,after,guard⟩).run P w=.ok (.value cv) w'∧
   VRel pl' M' (.slice s.heap.n 0 0 xs.length none) cv∧cF pl' M' (s.heap.push (.row sz true 0 xs)) w'∧cT s.heap pl M w (s.heap.push (.row sz true 0 xs)) pl' M' w'∧s.heap.n≤(s.heap.push (.row sz true 0 xs)).n:=by
 subst hsz;subst hbt;have hsr:=bK g1 g3 hs;have hxr:=bK g1 g3 hx;obtain⟨news,hsrc⟩:=yN (P:=P) g2 hxr (show ka s.heap (.ls xs)=some xs from rfl) hne hfit;obtain⟨i2,zv,hz1,hz2,hz3⟩:=mg hz;rw[hi]at hz1;cases hz1
 obtain⟨b1,b2⟩:=jo hsm;have hpos:0<xs.length:=pP.2 hne;generalize hq:a.eval sO=cs at hsr;generalize hq2:a.eval xO=cx at hxr hsrc;cases hsr with
 | ps hl htt hm hs2 hc=>
  rename_i ad cap sz c;have hcap:cap=0:=htt rfl;subst hcap;have hzr:=hzl _ _ _ (dN (pl:=pl) (M:=M) hz3);have hzt:=mU hzf z (by simp);have hzsz:zv.cells.size=i.size:=by rw[←hzr.cells.len];omega
  have hrun:=run_append_grow_src (P:=P) w t tx ty e i zv ht hi hz2 (some ad) 0 0 [] (by simp[Builtin.firstCells,loadCells,loadCellsFrom]) cx xs.length news (hsrc.src (.inl hk)) (by omega) (by omega) (growslice_fits (by omega) (by grind));have hge:=grownCap_ge w (0+xs.length) 0 e;obtain⟨C,hC⟩:∃C,C=grownCap w (0+xs.length) 0 e:=⟨_,rfl⟩
  rw[←hC]at hrun hge;have hin:=fQ hzr hzt.2 (C-(0+xs.length)) hzt.1 hs0;have hzl:(Builtin.zeroCells zv.cells (C-(0+xs.length))).toList.toArray=(Array.range ((C-(0+xs.length))*i.size)).map (zv.cells[· %zv.cells.size]!):=by grind[Builtin.zeroCells]
  have hnl:(Builtin.zeroCells zv.cells (C-(0+xs.length))).toList.length=(List.replicate (C-(0+xs.length)) z).length *i.size:=by grind[Builtin.zeroCells]
  have hin2:=kV (news:=(Builtin.zeroCells zv.cells (C-(0+xs.length))).toList) hsrc.mem (by grind) hsrc.newsLen hnl #[];have hce:(news++(Builtin.zeroCells zv.cells (C-(0+xs.length))).toList).toArray++#[]=([]++news).toArray++Builtin.zeroCells zv.cells (C-(0+xs.length)):=by grind
  rw[hce]at hin2;have hcs:(([]++news).toArray++Builtin.zeroCells zv.cells (C-(0+xs.length))).size=(xs++List.replicate (C-(0+xs.length)) z).length *i.size:=by simp only[wx,E8,BP,hsrc.newsLen,size_zeroCells,hzsz,eV,pO,jB]
  obtain⟨cells,hcells⟩:∃cells,cells=([]++news).toArray++Builtin.zeroCells zv.cells (C-(0+xs.length)):=⟨_,rfl⟩
  rw[←hcells]at hrun hin2 hcs;have hxC:xs.length≤C:=by omega
  have hszc:cells.size=C*i.size:=by grind
  have hin3:InMem pl M cells 0 i.size xs:=⟨by rw[fw,hszc];exact eC _ hxC,fun x hx=>hin2.elem x (BE _ hx),fun i x j y h1 h2=>hin2.cell i x j y (by grind) h2⟩
  let p:Place:=⟨w.heap.size,0,i.size,xs.length,C*i.size⟩
  have hwd:(w.drew.alloc (.cells cells e)).heap=w.heap.push (.cells cells e):=rfl;obtain⟨r1,r2⟩:=cF.alloc (o:=.row i.size true 0 xs) (p:=p) g2 hwd ⟨rfl,rfl,rfl,nP _⟩ rfl
   ⟨rfl,rfl,rfl,hszc.symm,rfl,hs0,fun h=>(by grind),hin3.mono (fun id q hq=>⟨q,by rw[cN (by have:=g2.dom id q hq;omega)];omega,au _,fun _=>rfl⟩) (fun _ _ h=>h)⟩
  refine⟨0,upd pl s.heap.n p,M,.slice (some ⟨w.heap.size,0,none⟩) (0+xs.length) C,w.drew.alloc (.cells cells e),rfl,?_,?_,r1,r2,nP _⟩
  ·simp only[execOp,resolve,invoke,builtin,Sem.run_bind,Sem.run_pure,Result.andThen_ok,List.map_toArray,eF,yb,hq,hq2];show(Sem.run P (Builtin.append_ #[t,tx] ty #[Value.slice (some ad) 0 0,cx]) w).andThen _=_
   rw[hrun];rfl
  ·rw[fw]at hge ⊢;refine .slice (dL _ _ _) (au _) hge (fun k hk=>by grind) (fun _=>⟨.inr (by grind),by grind,by grind,(fun _=>by grind),(fun k hk=>by grind)⟩)
end
end Go.Ev
namespace Go.Ev
open Go
theorem iR{s u:List UInt8}{H:AHeap}(h:s.length+u.length≤2^62):ba H (VY (.str s) (.str u))=some (.val (.str (s++u)) H):=by grind[Nat.ble_eq_true_of_le,VY,ba]
def NP(s:aI):aI:=bif al (.ofNat (gD s 0).toNat) 124 then[92]else bif al (.ofNat (gD s 0).toNat) 92 then[92]else[]
def BB(s:aI)(w:PWord):aI:=s++[32]++NP w.text++w.text
def l8(s:aI)(l:List PWord):aI:=l.foldl BB s
theorem oa(s:aI)(w:PWord)(r:List PWord):l8 s (w::r)=l8 (BB s w) r:=rfl
theorem EG{x:aI}{w:PWord}(h1:al (.ofNat (gD w.text 0).toNat) 124=true):BB x w=x++[32]++[92]++w.text:=by grind[BB,NP]
theorem EF{x:aI}{w:PWord}(h1:al (.ofNat (gD w.text 0).toNat) 124=false)(h2:al (.ofNat (gD w.text 0).toNat) 92=true):BB x w=x++[32]++[92]++w.text:=by grind[BB,NP]
theorem EE{x:aI}{w:PWord}(h1:al (.ofNat (gD w.text 0).toNat) 124=false)(h2:al (.ofNat (gD w.text 0).toNat) 92=false):BB x w=x++[32]++w.text:=by grind[BB,NP]
theorem Wv(d:Nat):ao (.ofNat d) 0=false:=rfl
def tv(u:TUnit):TUnit:=⟨0,0,0,u.kind,u.label,u.head,u.words,[]⟩
def DL(u:TUnit)(d:Nat):Bool:=aj (ao (.ofNat d) 0)&&(aj (ao 8 (.ofNat d))&&kB (cG (tv u)))
def f8(u:TUnit)(d:Nat):aI:=
 bif aj (DL u d)then[]else
  let a:=Lib.repeatL [32,32] d++c8 u.kind
  let b:=bif aj (al u.kind 0)then a++([32]++u.label)else a
  let c:=bif ao 0 (.ofNat u.head.length)then l8 (b++[58]) u.head else b
  bif ao 0 (.ofNat u.words.length)then l8 (c++[32,124]) u.words else c
mutual
def eb:Nat→TUnit→List aI
 |d,⟨a,i,n,k,l,h,w,ks⟩=>f8 ⟨a,i,n,k,l,h,w,ks⟩ d::dZ (d+1) ks
def dZ:Nat→List TUnit→List aI
 |_,[]=>[]
 |d,k::r=>eb d k++dZ d r
end
theorem Cs(d:Nat)(u:TUnit):eb d u=f8 u d::dZ (d+1) u.kids:=by cases u;rw[eb];rfl
theorem wI(d:Nat):dZ d []=[]:=by rw[dZ]
theorem mJ(d:Nat)(k:TUnit)(r:List TUnit):dZ d (k::r)=eb d k++dZ d r:=by rw[dZ]
def xt(u:TUnit):aI×Int:=
 bif aj (kB (cG u))then([],1)else
  bif ao 16384 (.ofNat (Lib.join (eb 0 u) [10]++[10]).length)then([],6)else(Lib.join (eb 0 u) [10]++[10],0)
theorem Rz(s:aI):(NP s).length≤1:=by grind[NP]
theorem Sg(s:aI)(w:PWord):(BB s w).length≤s.length+(w.text.length+2):=by grind[Rz,BB]
theorem vQ{l:List PWord}(h:∀w,w∈l→w.text.length≤24)(s:aI):(l8 s l).length≤s.length+26*l.length:=by
 induction l generalizing s with
 |nil=>exact au _
 |cons w r ih=>grind[Sg,oa]
theorem zP(k:Int):(c8 k).length≤16:=by
 unfold c8;split<;>decide
theorem gy{a b:Int}(h:aj (ao a b)=true):b≤a:=aB (by cases q:ao a b<;>rw[q]at h<;>first|rfl|grind)
theorem I6{s:aI}(h:kK s=true):s.length≤7:=by
 unfold kK at h;simp only[bq]at h;have h1:=gy h.2.1;have h2:=gy h.2.2.2.1;grind
theorem MZ{s:aI}(h:rO s=true):1≤s.length∧s.length≤24:=by
 unfold rO at h;simp only[bq]at h;have h1:=gy h.1;have h2:=gy h.2.1;grind
theorem IW{l:List PWord}(h:oh l=true):l.length≤256∧∀w,w∈l→1≤w.text.length∧w.text.length≤24:=by
 unfold oh qq at h;simp only[bq,l9]at h;have h1:=gy h.1;simp only[aP]at h1;exact⟨by omega,fun w hw=>MZ (h.2.2 _ (ke.2 ⟨w,hw,rfl⟩))⟩
theorem Ox{u:TUnit}(h:l0 u=true):u.label.length≤7∧(u.head.length≤256∧∀w,w∈u.head→1≤w.text.length∧w.text.length≤24)∧(u.words.length≤256∧∀w,w∈u.words→1≤w.text.length∧w.text.length≤24):=by
 unfold l0 at h;simp only[bq]at h;have h:=h.1;cases hk:al u.kind 0 with
 |true=>
  rw[hk]at h;simp only[cond_true,bq]at h;have h1:u.label=[]:=HK h.1;have h2:=gy h.2;grind
 |false=>grind[I6,IW]
theorem Py{q:TUnit→Bool}{u:TUnit}(h:wX q u=true):q u=true:=by grind[yw]
theorem K9{u:TUnit}{d:Nat}(h:DL u d=true):d≤8∧u.label.length≤7∧(u.head.length≤256∧∀w,w∈u.head→1≤w.text.length∧w.text.length≤24)∧(u.words.length≤256∧∀w,w∈u.words→1≤w.text.length∧w.text.length≤24):=by
 unfold DL kB at h;simp only[bq]at h;have h1:=gy h.2.1;simp only[aP]at h1;have h2:=Ox (Py h.2.2.1);rw[mz]at h2;obtain⟨e1,⟨e2,e3⟩,e4,e5⟩:=h2;refine⟨by omega,e1,⟨by grind[tv,TUnit.head],fun w hw=>?_⟩,⟨by grind[tv,TUnit.words],fun w hw=>?_⟩⟩
 ·exact e3 (gF w) (ke.2 ⟨w,hw,rfl⟩)
 ·exact e5 (gF w) (ke.2 ⟨w,hw,rfl⟩)
theorem Es{b:Bool}{x y:aI}{n:Nat}(h1:x.length≤n)(h2:y.length≤n):(bif b then x else y).length≤n:=by grind
theorem Qx(u:TUnit)(d:Nat):(f8 u d).length≤2^14:=by
 unfold f8;cases h:DL u d with
 |false=>simp_all
 |true=>
  obtain⟨h1,h2,⟨h3,h4⟩,h5,h6⟩:=K9 h;have k:=zP u.kind;have r:=Lib.repeatL_length [32,32] d;simp only[cP,gn]at r;have ha:(Lib.repeatL [32,32] d++c8 u.kind).length≤32:=by grind
  have hh:∀w,w∈u.head→w.text.length≤24:=fun w hw=>(h4 w hw).2
  have hw:∀w,w∈u.words→w.text.length≤24:=fun w hw=>(h6 w hw).2
  simp only[aj,cond_false];have hb:∀x:aI,x.length≤32→(bif aj (al u.kind 0)then x++([32]++u.label)else x).length≤40:=fun x hx=>Es (by grind) (by omega)
  have hc:∀x:aI,x.length≤40→(bif ao 0 (.ofNat u.head.length)then l8 (x++[58]) u.head else x).length≤6700:=fun x hx=>Es (by grind[vQ]) (by omega)
  have hd:∀x:aI,x.length≤6700→(bif ao 0 (.ofNat u.words.length)then l8 (x++[32,124]) u.words else x).length≤2^14:=fun x hx=>Es (by have:=vQ hw (x++[32,124]);grind) (by omega)
  grind
mutual
theorem kH(d:Nat):∀u:TUnit,(eb d u).length=nU u
 |⟨a,i,n,k,l,h,w,ks⟩=>by rw[eb,cP,wM (d+1) ks,nU];omega
theorem wM(d:Nat):∀l:List TUnit,(dZ d l).length=eY l
 |[]=>by rw[dZ,eY];rfl
 |k::r=>by rw[dZ,eY,eV,kH d k,wM d r]
end
mutual
theorem zF(d:Nat):∀(u:TUnit)(s:aI),s∈eb d u→s.length≤2^14
 |⟨a,i,n,k,l,h,w,ks⟩,s,hs=>by
  rw[eb]at hs;rcases ez.1 hs with rfl|hs
  ·exact Qx _ _
  ·exact wL (d+1) ks s hs
theorem wL(d:Nat):∀(l:List TUnit)(s:aI),s∈dZ d l→s.length≤2^14
 |[],s,hs=>by rw[dZ]at hs;cases hs
 |k::r,s,hs=>by
  rw[dZ]at hs;rcases jA.1 hs with hs|hs
  ·exact zF d k s hs
  ·exact wL d r s hs
end
theorem uq{sep:aI}{B:Nat}:∀{l:List aI},(∀s,s∈l→s.length≤B)→(Lib.joinTail sep l).length≤l.length*(sep.length+B)
 |[],_=>bH _
 |x::r,h=>by
  have h1:=h x eW;have h2:=uq (sep:=sep) (l:=r) fun s hs=>h s (eJ _ hs)
  grind[Lib.joinTail,Nat.succ_mul]
theorem Qc{sep:aI}{B:Nat}{l:List aI}(h:∀s,s∈l→s.length≤B):(Lib.join l sep).length≤l.length*(sep.length+B):=by
 cases l with
 |nil=>exact bH _
 |cons x r=>
  have h1:=h x eW;have h2:=uq (sep:=sep) (l:=r) fun s hs=>h s (eJ _ hs)
  grind[Lib.join_cons,Nat.succ_mul]
theorem wl:∀(l:List TUnit),(∀k,k∈l→nU (cG k)=nU k∧∀x,x∈bp (cG k)→∃y,y∈bp k∧x=cG y)→eY (l.map cG)=eY l∧∀x,x∈dr (l.map cG)→∃y,y∈dr l∧x=cG y
 |[],_=>⟨rfl,fun x hx=>by grind[fN]⟩
 |k::r,h=>by
  obtain⟨a1,a2⟩:=h k eW;obtain⟨b1,b2⟩:=wl r fun k hk=>h k (eJ _ hk)
  grind[eY,bM]
theorem Mu:∀u:TUnit,nU (cG u)=nU u∧∀x,x∈bp (cG u)→∃y,y∈bp u∧x=cG y:=by
 refine TUnit.ind fun u ih=>?_
 obtain⟨h1,h2⟩:=wl u.kids ih;refine⟨?_,fun x hx=>?_⟩
 ·rw[jZ (cG u),jZ u,mz];exact congrArg (1+ ·) h1
 ·rw[dw,mz]at hx;rcases ez.1 hx with rfl|hx
  ·grind[dw,List.mem_cons_self,mz]
  ·obtain⟨y,h3,h4⟩:=h2 x hx;grind[dw]
end Go.Ev
namespace Go.Ev
open Go
structure OkB(u:TUnit):Prop where
 nd:(dx u).Nodup
 n:nU u≤1024
 w:∀x,x∈bp u→x.head.length≤300∧x.words.length≤300
theorem OkB.uni{u v x:TUnit}(h:OkB u)(hv:v∈bp u)(hx:x∈bp u)(e:bv v=bv x):v=x:=Ci h.nd hv hx e
theorem sR{u x:TUnit}(hx:x∈bp u):cq (bv x) u=true:=Lg u ⟨x,hx,rfl⟩
theorem my:∀{l:List TUnit}{x:TUnit},x∈dr l→∃k,k∈l∧x∈bp k
 |[],x,h=>by grind[fN]
 |k::r,x,h=>by
  rw[bM]at h;rcases jA.1 h with h|h
  ·simp_all
  ·obtain⟨k',h1,h2⟩:=my h;grind
theorem CX{u:TUnit}:∀(p:List PStep)(l:List TUnit),(∀x,x∈l→x∈bp u)→∀x,x∈gw p l→x∈bp u
 |[],l,h,x,hx=>h x hx
 |s::r,l,h,x,hx=>by
  refine CX r _ (fun y hy=>?_) x hx;grind[iM,bA,dq]
theorem NB{u:TUnit}{p:List PStep}{x:TUnit}(h:x∈dS u p):x∈bp u:=by
 unfold dS at h;grind[dq,CX]
theorem qt{u:TUnit}{p:List PStep}(h:(aF u p).2=0):cq (aF u p).1 u=true:=by
 unfold aF at h ⊢;split at h
 ·omega
 ·rename_i x e;exact sR (NB (by rw[e];simp_all))
 omega
def EP(u:TUnit)(sp:PSpot):Prop:=∃n:Nat,sp.at_=Int.ofNat n∧n≤2^20∧∀v,v∈bp u→fE sp.id v=true→n≤v.kids.length
theorem PC{u:TUnit}(hu:OkB u){p:PId}(h:iZ p u=true){n:Nat}(hn:n≤1):EP u ⟨so p u,qj p u+Int.ofNat n⟩:=by
 obtain⟨q,i,h1,h2,h3,h4,h5⟩:=vi u h;have hk:=bf q;have:=dM h1;have:=hu.n;refine⟨i+n,by simp_all,by omega,fun v hv hi=>?_⟩;have hi:fE (so p u) v=true:=hi;rw[gc,h2]at hi;rw[hu.uni hv h1 hi];omega
theorem Gz{u:TUnit}(hu:OkB u){p:PId}(hp:cq p u=true){w:Int}(he:(da w u p).2=0):EP u (da w u p).1:=by
 unfold da at he ⊢;cases h0:al w 0 with
 |true=>exact⟨0,rfl,bH _,fun v _ _=>bH _⟩
 | false=>
  rw[h0]at he;simp only[cond_false]at he ⊢;cases h1:al w 1 with
  |true=>
   obtain⟨a,b⟩:=vf hp;have hk:=bf (ei p u);have:=dM a;have:=hu.n;refine⟨_,rfl,by omega,fun v hv hi=>?_⟩;rw[gc]at hi;rw[hu.uni hv a (hi.trans b.symm)];omega
  |false=>
   rw[h1]at he;simp only[cond_false]at he ⊢;have key:∀n:Nat,n≤1→(ni u p (Int.ofNat n)).2=0→EP u (ni u p (Int.ofNat n)).1:=fun n hn he=>by grind[ni,PC]
   cases h2:al w 2 with
   |true=>grind
   |false=>rw[h2]at he;exact key 0 (bH _) he
theorem OkB.with{u:TUnit}(hu:OkB u){q:PId}{f:TUnit→TUnit}
  (hf:∀v C,v∈bp u→bv v=q→(dx u).Perm (C++dx v)→(C++dx (f v)).Nodup∧(C++dx (f v)).length≤1024∧∀x,x∈bp (f v)→x.head.length≤300∧x.words.length≤300):OkB (dW q f u):=by
 cases hq:cq q u with
 |false=>grind[IK]
 |true=>
  obtain⟨v,C,h1,h2,h3,h4⟩:=sx u hq;obtain⟨h5,h6⟩:=h4 f;obtain⟨a,b,c⟩:=hf v C h1 h2 h3;refine⟨h5.nodup_iff.2 a,by rw[lI,h5.length_eq];omega,fun x hx=>?_⟩;grind[cases OkB]
theorem OkB.keep{u:TUnit}(hu:OkB u){q:PId}{f:TUnit→TUnit}(h1:∀v,bv (f v)=bv v∧(f v).kids=v.kids)(h2:∀v,v∈bp u→(f v).head.length≤300∧(f v).words.length≤300):OkB (dW q f u):=by
 refine hu.with fun v C hv hq hp=>?_
 have e:dx (f v)=dx v:=by grind[nb]
 rw[e];refine⟨hp.nodup_iff.1 hu.nd,by rw[←hp.length_eq,←lI];exact hu.n,fun x hx=>?_⟩;rw[dw]at hx;rcases ez.1 hx with rfl|hx
 ·simp_all
 ·rw[(h1 v).2]at hx;obtain⟨k,k1,k2⟩:=my hx;grind[iM,bA,cases OkB]
theorem Ty{v x y:TUnit}{i:Nat}(h:y∈bp (du i x v)):y=du i x v∨y∈bp x∨y∈bp v:=by
 rw[dw]at h;rcases ez.1 h with rfl|h
 ·simp_all
 ·obtain⟨k,k1,k2⟩:=my h;have k1:k∈v.kids.take i++(x::v.kids.drop i):=k1;rcases jA.1 k1 with q|q
  ·grind[bA]
  ·grind[bA]
theorem OkB.ins{u x:TUnit}(hu:OkB u){q:PId}{i:Nat}(hx:(dx x).Nodup)(hd:∀p,p∈dx x→p∉dx u)(hn:nU u+nU x≤1024)(hw:∀y,y∈bp x→y.head.length≤300∧y.words.length≤300):OkB (dW q (du i x) u):=by
 refine hu.with fun v C hv hq hp=>?_
 have h1:(C++dx (du i x v)).Perm (dx u++dx x):=((List.Perm.append_left C UU).trans (by grind))
 refine⟨h1.nodup_iff.2 (List.nodup_append.2 ⟨hu.nd,hx,fun a ha b hb e=>hd b hb (e▸ha)⟩),by rw[h1.length_eq,eV,←lI,←lI];omega,fun y hy=>?_⟩;rcases Ty hy with rfl|h|h
 ·exact hu.w v hv
 all_goals grind[iM,cases OkB]
theorem KL{v y:TUnit}{i:Nat}(h:y∈bp (gh i v)):y=gh i v∨y∈bp v:=by
 rw[dw]at h;rcases ez.1 h with rfl|h
 ·simp_all
 ·obtain⟨k,k1,k2⟩:=my h;exact .inr (bA (List.mem_of_mem_eraseIdx (show k∈v.kids.eraseIdx i from k1)) k2)
theorem OkB.del{u v:TUnit}(hu:OkB u){i:Nat}(hv:v∈bp u)(hi:i<v.kids.length):OkB (dW (bv v) (gh i) u)∧(dx u).Perm (dx (dW (bv v) (gh i) u)++dx (gD v.kids i)):=by
 obtain⟨v',C,h1,h2,h3,h4⟩:=sx u (sR hv);obtain rfl:=hu.uni h1 hv h2;obtain⟨h5,h6⟩:=h4 (gh i);have h7:(dx u).Perm (dx (dW (bv v') (gh i) u)++dx (gD v'.kids i)):=h3.trans ((List.Perm.append_left C (Uq hi)).trans (by grind));have hnd:=h7.nodup_iff.1 hu.nd;refine⟨⟨(List.nodup_append.1 hnd).1,?_,fun x hx=>?_⟩,h7⟩
 ·have:=h7.length_eq;grind[lI,cases OkB]
 ·rcases h6 x hx with h|⟨y,y1,y2,y3,y4,y5⟩
  ·rcases KL h with rfl|h
   ·exact hu.w v' hv
   grind[iM,cases OkB]
  grind[cases OkB]
theorem OL{q:PId}{f:TUnit→TUnit}:∀u:TUnit,cq q u=true→∃v,v∈bp u∧bv v=q∧f v∈bp (dW q f u):=by
 refine TUnit.ind fun u ih h=>?_
 cases hi:fE q u with
 |true=>grind[dq,gc,qR]
 | false=>
  rw [kr hi];have key:∀r:List TUnit,(∀k,k∈r→k∈u.kids)→(∃k,k∈r∧cq q k=true)→∃v,v∈dr r∧bv v=q∧f v∈dr (eu q f r):=by
   intro r;induction r with
   |nil=>grind
   | cons k r ihr=>
    intro hs ⟨y,hy,hyq⟩;rw[jD,bM];cases hk:cq q k with
    |true=>grind[bM]
    |false=>
     rcases ez.1 hy with rfl|hy
     ·grind
     ·obtain⟨v,a,b,c⟩:=ihr (fun k hk=>hs k (eJ _ hk)) ⟨y,hy,hyq⟩;grind[bM]
  have hx:=vf h;have hne:ei q u≠u:=fun e=>by grind[gc]
  have hm:ei q u∈dr u.kids:=by grind[dw]
  obtain⟨k,k1,k2⟩:=my hm;obtain⟨v,a,b,c⟩:=key u.kids (fun _ h=>h) ⟨k,k1,Lg k ⟨_,k2,hx.2⟩⟩;grind[dw,wA]
theorem QN{u q:TUnit}(hu:OkB u){i:Nat}(hq:q∈bp u)(hi:i<q.kids.length){p t:PId}{w:Int}{anc bs:Bool}(ht:cq t u=true){ok:Bool}
  (he:(nI p t (bv q) (Int.ofNat i) ok anc bs (da w u t).1 (da w u t).2).2=0):
  EP (dW (bv q) (gh i) u) (nI p t (bv q) (Int.ofNat i) ok anc bs (da w u t).1 (da w u t).2).1:=by
 obtain⟨hr,_⟩:=hu.del hq hi;obtain⟨v',C,h1,h2,h3,h4⟩:=sx u (sR hq);obtain rfl:=hu.uni h1 hq h2;obtain⟨_,h6⟩:=h4 (gh i);have hlen:(gh i v').kids.length=v'.kids.length-1:=List.length_eraseIdx_of_lt hi;have own:∀v,v∈bp (dW (bv v') (gh i) u)→bv v=bv v'→v.kids.length=v'.kids.length-1:=fun v hv e=>by
  obtain⟨z,z1,z2,z3⟩:=OL (q:=bv v') (f:=gh i) u (sR hq);obtain rfl:=hu.uni z1 hq z2;rw[hr.uni hv z3 (e.trans rfl)];omega
 have oth:∀v,v∈bp (dW (bv v') (gh i) u)→bv v≠bv v'→∃y,y∈bp u∧bv v=bv y∧v.kids.length=y.kids.length:=fun v hv hne=>by
  rcases h6 v hv with h|⟨y,y1,y2,y3,_⟩
  ·rcases KL h with rfl|h
   ·exact absurd rfl hne
   ·exact⟨v,iM hq h,rfl,rfl⟩
  grind
 have hk:=bf v';have hb:=dM hq;have hn:=hu.n;unfold nI at he ⊢;cases c1:(aj ok||((aj (bg t p)&&anc)||(bg t p&&aj bs)))with
 |true=>grind
 | false=>
  rw[c1]at he;simp only[cond_false]at he ⊢;cases c2:bg t p with
  |true=>
   refine⟨i,rfl,by omega,fun v hv hid=>?_⟩;grind[gc]
  | false=>
   rw[c2]at he;simp only[cond_false]at he ⊢;have e0:(da w u t).2=0:=by grind
   obtain⟨n,n1,n2,n3⟩:=Gz hu ht e0;rw[e0,n1];cases c4:bg (da w u t).1.id (bv v')with
   |false=>
    have hne:(da w u t).1.id≠bv v':=fun e=>by grind[kL]
    rw[show(al 0 0&&(false&&ao (Int.ofNat i) (Int.ofNat n)))=false from rfl];refine⟨n,n1,n2,fun v hv hid=>?_⟩;grind[gc]
   | true=>
    have heq:=ud c4;have hn':=n3 v' hq ((gc _ v').2 heq.symm);cases c5:ao (Int.ofNat i) (Int.ofNat n)with
    |true=>
     have c5:=am c5;simp only[aP]at c5;rw[show(al 0 0&&(true&&true))=true from rfl];refine⟨n-1,by grind,by omega,fun v hv hid=>?_⟩;grind[gc]
    |false=>
     have c5:=aB c5;simp only[aP]at c5;rw[show(al 0 0&&(true&&false))=false from rfl];refine⟨n,n1,n2,fun v hv hid=>?_⟩;grind[gc]
def yL(a i:Int)(n k:Nat):List PId:=(List.range' (n+1) k).map fun j=>⟨a,i,Int.ofNat j⟩
mutual
theorem vz(a i:Int):∀(u:TUnit)(n w:Nat),dx (cR a i u n w)=yL a i n (nU u)
 |⟨a',i',n',k,l,h,ws,ks⟩,n,w=>by
  rw[nb,cR,nU];show _::ie (fV a i ks (n+1) _)=_
  rw[yI a i ks (n+1)];unfold yL;rw[Nat.add_comm 1 (eY ks),BN,eF];rfl
theorem yI(a i:Int):∀(l:List TUnit)(n w:Nat),ie (fV a i l n w)=yL a i n (eY l)
 |[],n,w=>by rw[fV,eY,rv];rfl
 |k::r,n,w=>by
  rw[fV,eY,gK,vz a i k n w,yI a i r (n+nU k)];unfold yL;rw[←rH,show n+nU k+1=n+1+nU k by omega,←List.range'_append_1]
end
theorem PU(a i:Int)(n k:Nat):(yL a i n k).Nodup:=by
 unfold yL;exact List.Pairwise.map _ (fun x y hne e=>hne (Int.ofNat.inj (congrArg PId.n e))) List.nodup_range'
mutual
theorem KX(a i:Int)(B:Nat):∀(u:TUnit)(n w:Nat),(∀x,x∈bp u→x.head.length≤B∧x.words.length≤B)→∀x,x∈bp (cR a i u n w)→x.head.length≤B∧x.words.length≤B
 |⟨a',i',n',k,l,h,ws,ks⟩,n,w,hB,x,hx=>by
  rw[cR,bp]at hx;rcases ez.1 hx with rfl|hx
  ·have:=hB _ (by rw[bp];exact eW);exact⟨by show(cA _ _ _ _).length≤B;rw[fO,b6,cJ];exact this.1,by show(cA _ _ _ _).length≤B;rw[fO,b6,cJ];exact this.2⟩
  ·exact Fv a i B ks _ _ (fun y hy=>hB y (by rw[bp];exact eJ _ hy)) x hx
theorem Fv(a i:Int)(B:Nat):∀(l:List TUnit)(n w:Nat),(∀x,x∈dr l→x.head.length≤B∧x.words.length≤B)→∀x,x∈dr (fV a i l n w)→x.head.length≤B∧x.words.length≤B
 |[],n,w,hB,x,hx=>by rw[fV,dr]at hx;cases hx
 |k::r,n,w,hB,x,hx=>by
  rw[fV,dr]at hx;rcases jA.1 hx with hx|hx
  ·exact KX a i B k _ _ (fun y hy=>hB y (by rw[dr];exact BE _ hy)) x hx
  ·exact Fv a i B r _ _ (fun y hy=>hB y (by rw[dr];exact wV _ hy)) x hx
end
theorem PV(a i:Int)(u:TUnit)(n w:Nat):nU (cR a i u n w)=nU u:=by grind[lI,vz,yL]
end Go.Ev
namespace Go.Ev
open Go
def Rt(u v:TUnit):Prop:=js v []=js u []
variable{q:PId}{f:TUnit→TUnit}{u:TUnit}
theorem KB(h:∀v,js (f v) []=js v [])(u:TUnit):Rt u (dW q f u):=by
 unfold Rt;cases hi:fE q u with
 |true=>grind[qR]
 |false=>rw[kr hi];rfl
theorem KA(h:iZ q u=true):Rt u (dW q f u):=by
 cases hi:fE q u with
 |true=>unfold iZ at h;rw[qS hi]at h;cases h
 |false=>unfold Rt;rw[kr hi];rfl
end Go.Ev
