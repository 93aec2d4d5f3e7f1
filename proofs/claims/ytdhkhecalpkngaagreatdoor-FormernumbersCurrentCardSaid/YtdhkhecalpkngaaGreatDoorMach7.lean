/- An abstract machine for runs of the program, proved sound against the model: part 7. No conditions. -/
import Derived.Test.YtdhkhecalpkngaaGreatDoorMach6
import Derived.Laws.Externs
import Derived.Lib.Join
import Derived.Lib.Repeat
namespace Go.Ev
open Go
section
variable{a i:Int}{l r x:List au}{s:au}{m:List PWord}{j n k:Nat}
theorem tG(h1:l.drop j=x)(h2:x=s::r)(h3:s::r=l):1=[(⟨s,a,i,.ofNat (n+j)⟩:PWord)].length/\0<[(⟨s,a,i,.ofNat (n+j)⟩:PWord)].length/\[(⟨s,a,i,.ofNat (n+j)⟩:PWord)]++ce a i r (n+[(⟨s,a,i,.ofNat (n+j)⟩:PWord)].length)=ce a i l n/\[(⟨s,a,i,.ofNat (n+j)⟩:PWord)].length+r.length=l.length:=by
 have e:=congrArg List.length (h1.trans h2);have e2:=congrArg List.length h3;simp only[uy,cO]at e e2;have:j=0:=by omega
 subst this;refine⟨rfl,Nat.one_pos,?_,by grind⟩;rw[<-h3,ce];rfl
theorem wm(h1:l.drop j=x)(h2:x=s::r)(h:k=m.length/\0<m.length/\m++ce a i (s::r) (n+m.length)=ce a i l n/\m.length+(s::r).length=l.length):
  k+1=(m++[(⟨s,a,i,.ofNat (n+j)⟩:PWord)]).length/\0<(m++[(⟨s,a,i,.ofNat (n+j)⟩:PWord)]).length/\(m++[(⟨s,a,i,.ofNat (n+j)⟩:PWord)])++ce a i r (n+(m++[(⟨s,a,i,.ofNat (n+j)⟩:PWord)]).length)=ce a i l n/\(m++[(⟨s,a,i,.ofNat (n+j)⟩:PWord)]).length+r.length=l.length:=by
 have e:=congrArg List.length (h1.trans h2);obtain⟨q1,q2,q3,q4⟩:=h;simp only[uy,cO]at e q4;have:j=m.length:=by omega
 subst this;simp only[eG,cO,iW];refine⟨by omega,by omega,?_,by omega⟩;rw[<-q3,ce,qP];rfl
end
theorem gG(l:List PWord):(b9 l).length=l.length:=cJ ..
structure StampI(a i:Int)(ks:List TUnit)(n0 w0:Nat)(k n w:Nat)(m:List TUnit):Prop where
 len:m.length=k
 le:k<=ks.length
 all:m++dM a i (ks.drop k) n w=dM a i ks n0 w0
 num:n+eL (ks.drop k)=n0+eL ks
 wd:w+(lw (ks.drop k)).length=w0+(lw ks).length
theorem StampI.start(a i:Int)(ks:List TUnit)(n0 w0:Nat):StampI a i ks n0 w0 0 n0 w0 []:=⟨rfl,b8 _,rfl,rfl,rfl⟩
theorem StampI.step{a i:Int}{ks:List TUnit}{n0 w0 k n w:Nat}{m:List TUnit}(h:StampI a i ks n0 w0 k n w m)(hk:k<ks.length):
  StampI a i ks n0 w0 (k+1) (n+nU (gD ks k)) (w+(mT (gD ks k)).length) (m++[co a i (gD ks k) n w]):=by
 have e:=y6 hk;obtain⟨h1,h2,h3,h4,h5⟩:=h;rw[e,Ew]at h3;rw[e,bF]at h4;rw[e,uz,eG]at h5;exact⟨by simp_all,hk,by simp_all,by omega,by omega⟩
theorem StampI.done{a i:Int}{ks:List TUnit}{n0 w0 k n w:Nat}{m:List TUnit}(h:StampI a i ks n0 w0 k n w m)(hk:¬k<ks.length):m=dM a i ks n0 w0/\n=n0+eL ks/\w=w0+(lw ks).length:=by grind[xa,mL,D9,cases StampI]
theorem Yz{α:Type}[Inhabited α]{m r:List α}{k:Nat}(h:m.length=k):gD (m++r) k=gD r 0:=by grind[gD]
theorem Vp{α:Type}[Inhabited α]{l:List α}{k:Nat}:gD (l.drop k) 0=gD l k:=by simp_all[gD]
theorem Uk{α:Type}{m r:List α}{k:Nat}{x y:α}(h:m.length=k):(m++x::r).set k y=(m++[y])++r:=by simp_all
def gN(a i:Int)(ks:List TUnit)(n0 w0 k n w:Nat)(L:List TUnit):Prop:=∃m,L=m++ks.drop k/\StampI a i ks n0 w0 k n w m
section
variable{a i:Int}{ks L:List TUnit}{n0 w0 k n w:Nat}
theorem gN.start(a i:Int)(ks:List TUnit)(n0 w0:Nat):gN a i ks n0 w0 0 n0 w0 ks:=⟨[],rfl,StampI.start ..⟩
theorem gN.len(h:gN a i ks n0 w0 k n w L):L.length=ks.length:=by
 obtain⟨m,rfl,hI⟩:=h;grind[cases StampI]
theorem gN.at_(h:gN a i ks n0 w0 k n w L):gD L k=gD ks k:=by
 obtain⟨m,rfl,hI⟩:=h;rw[Yz hI.len,Vp]
theorem gN.step(h:gN a i ks n0 w0 k n w L)(hk:k<ks.length):gN a i ks n0 w0 (k+1) (n+nU (gD L k)) (w+(mT (gD L k)).length) (L.set k (co a i (gD L k) n w)):=by
 rw[h.at_];obtain⟨m,rfl,hI⟩:=h;exact⟨m++[co a i (gD ks k) n w],by rw[y6 hk,Uk hI.len],hI.step hk⟩
theorem gN.num(h:gN a i ks n0 w0 k n w L):n+eL (ks.drop k)=n0+eL ks/\w+(lw (ks.drop k)).length=w0+(lw ks).length:=by
 obtain⟨m,rfl,hI⟩:=h;grind[cases StampI]
theorem gN.done(h:gN a i ks n0 w0 k n w L)(hk:¬k<ks.length):L=dM a i ks n0 w0/\n=n0+eL ks/\w=w0+(lw ks).length:=by
 obtain⟨m,rfl,hI⟩:=h;rw[FT (by omega),eF];exact hI.done hk
theorem gN.room(h:gN a i ks n0 w0 k n w L)(hk:k<ks.length):n+nU (gD L k)<=n0+eL ks/\w+(mT (gD L k)).length<=w0+(lw ks).length:=by
 have h1:=h.num;rw[h.at_];grind[y6,bF,uz]
end
section
variable{α:Type}
structure TotB(lt:α->α->Bool):Prop where
 trans:∀x y z,lt y x=false->lt z y=false->lt z x=false
 asym:∀x y,lt x y=true->lt y x=false
variable{lt:α->α->Bool}
theorem TotB.down(T:TotB lt){x y z:α}(h1:lt z y=false)(h2:lt z x=true):lt y x=true:=by
 cases h:lt y x with
 |true=>rfl
 |false=>grind[cases TotB]
theorem TotB.up(T:TotB lt){x y z:α}(h1:lt x y=true)(h2:lt z y=false):lt x z=true:=by
 cases h:lt x z with
 |true=>rfl
 |false=>grind[cases TotB]
end
section
variable{α:Type}[Inhabited α]{lt:α->α->Bool}{l x y z w:List α}{a b m n i j k s e p d:Nat}
theorem wE(h:l.length<=i):gD l i=default:=by grind[gD]
theorem Yq{v:α}(h:i<l.length):gD (l.set i v) k=if k=i then v else gD l k:=by
 unfold gD;grind
theorem rT(hi:i<l.length)(hj:j<l.length):((l.set i (gD l j)).set j (gD l i)).Perm l:=by grind[gD,List.set_set_perm]
theorem yp(hi:i<l.length)(hj:j<l.length)(q:Nat):gD ((l.set i (gD l j)).set j (gD l i)) q=if q=j then gD l i else if q=i then gD l j else gD l q:=by grind[Yq]
def dO(lt:α->α->Bool)(l:List α)(a b:Nat):Prop:=∀i j,a<=i->i<j->j<b->lt (gD l j) (gD l i)=false
structure SSeg(lt:α->α->Bool)(l x:List α)(a b:Nat):Prop where
 perm:x.Perm l
 out:∀i,i<a\/b<=i->gD x i=gD l i
 src:∀i,a<=i->i<b->∃j,a<=j/\j<b/\gD x i=gD l j
 srt:dO lt x a b
theorem SSeg.len(h:SSeg lt l x a b):x.length=l.length:=h.perm.length_eq
theorem nW(h:dO lt l a b):SSeg lt l l a b:=⟨.refl _,fun _ _=>rfl,fun i h1 h2=>⟨i,h1,h2,rfl⟩,h⟩
theorem SSeg.cast{p q:Nat}(h:SSeg lt l x p q)(hp:p=a)(hq:q=b):SSeg lt l x a b:=by simp_all
theorem dO.nil(h:b<=a+1):dO lt l a b:=fun i j _ _ _=>by omega
theorem dO.sub(h:dO lt l a b)(h1:a<=i)(h2:j<=b):dO lt l i j:=fun p q e1 e2 e3=>h p q (by omega) e2 (by omega)
theorem dO.le(T:TotB lt)(h:dO lt l a b)(h1:a<=i)(h2:i<=j)(h3:j<b):lt (gD l j) (gD l i)=false:=by
 rcases gQ i j with q|q
 ·exact h i j h1 q h3
 grind[cases TotB]
structure InsI(lt:α->α->Bool)(l x:List α)(a i j:Nat):Prop where
 perm:x.Perm l
 out:∀q,q<a\/i+1<=q->gD x q=gD l q
 src:∀q,a<=q->q<i+1->∃p,a<=p/\p<i+1/\gD x q=gD l p
 mid:∀p q,a<=p->p<q->q<=i->q≠j->lt (gD x q) (gD x p)=false
theorem InsI.start(h:SSeg lt l x a (min i b))(h1:i<b):InsI lt l x a i i:=by
 rw[show min i b=i by omega]at h;refine⟨h.perm,fun q hq=>h.out q (by omega),fun q h1 h2=>?_,fun p q h1 h2 h3 h4=>h.srt p q h1 h2 (by omega)⟩;grind[cases SSeg]
theorem InsI.step(T:TotB lt)(h:InsI lt l x a i j)(hi:i<l.length)(h1:a<j)(h2:j<=i)(hk:k+1=j)(hl:lt (gD x j) (gD x k)=true):InsI lt l ((x.set j (gD x k)).set k (gD x j)) a i k:=by
 have hx:x.length=l.length:=h.perm.length_eq;have hj:j<x.length:=by omega
 have hkx:k<x.length:=by omega
 have g:=yp hj hkx;refine⟨(rT hj hkx).trans h.perm,fun q hq=>?_,fun q q1 q2=>?_,fun p q h3 h4 h5 h6=>?_⟩
 ·rw[g,if_neg (by omega),if_neg (by omega)];exact h.out q hq
 ·rw[g];split
  ·grind[cases InsI]
  ·split
   ·grind[cases InsI]
   ·exact h.src q q1 q2
 ·rw[g,g];rw[if_neg (show ¬q=k by omega)];by_cases c1:q=j
  ·rw[if_pos c1];by_cases c2:p=k
   ·rw[if_pos c2];exact T.asym _ _ hl
   ·grind[cases InsI]
  ·rw[if_neg c1];by_cases c2:p=k
   ·grind[cases InsI]
   ·rw[if_neg c2];by_cases c3:p=j
    ·grind[cases InsI]
    ·rw[if_neg c3];exact h.mid p q h3 h4 h5 c1
theorem InsI.stop(T:TotB lt)(h:InsI lt l x a i j)(ha:a<=j)(h2:j<=i)(hb:i<b)(hs:s=i+1)(hl:j=a\/∃k,k+1=j/\lt (gD x j) (gD x k)=false):SSeg lt l x a (min s b):=by
 rw[show min s b=i+1 by omega];refine⟨h.perm,h.out,h.src,fun p q h3 h4 h5=>?_⟩;grind[cases TotB,cases InsI]
theorem Ol(hab:a<=b):SSeg lt l l a (min (a+1) b):=nW (dO.nil (by omega))
theorem Rt(h:SSeg lt l x a (min i b))(hi:b<=i):SSeg lt l x a b:=by simp_all
def sw(a b m i:Nat):Nat:=if a<=i/\i<a+m then i-a+b else if b<=i/\i<b+m then i-b+a else i
structure SwP(l x:List α)(a b m:Nat):Prop where
 perm:x.Perm l
 at_:∀i,i<l.length->gD x i=gD l (sw a b m i)
theorem SwP.len(h:SwP l x a b m):x.length=l.length:=h.perm.length_eq
theorem SwP.start:SwP l l a b 0:=⟨.refl _,fun i _=>by simp_all[sw,if_neg]⟩
theorem SwP.step(h:SwP l x a b k)(hk:k<m)(ha:a+m<=b)(hb:b+m<=l.length)(hi:i=a+k)(hj:j=b+k)(hs:s=k+1):SwP l ((x.set i (gD x j)).set j (gD x i)) a b s:=by
 subst hi hj hs;have hx:x.length=l.length:=h.perm.length_eq;have h1:a+k<x.length:=by omega
 have h2:b+k<x.length:=by omega
 refine⟨(rT h1 h2).trans h.perm,fun q hq=>?_⟩;rw[yp h1 h2];by_cases c1:q=b+k
 ·rw[if_pos c1,h.at_ _ (by omega)];congr 1;unfold sw;grind
 ·rw[if_neg c1];by_cases c2:q=a+k
  ·rw[if_pos c2,h.at_ _ (by omega)];congr 1;unfold sw;grind
  ·rw[if_neg c2,h.at_ _ (by omega)];congr 1;unfold sw;grind
theorem SwP.done(h:SwP l x a b k)(hk:k=m):SwP l x a b m:=hk▸h
def ro(a m b i:Nat):Nat:=if a<=i/\i<a+(b-m)then i-a+m else if a+(b-m)<=i/\i<b then i-(b-m)else i
structure RoP(l x:List α)(a m b:Nat):Prop where
 perm:x.Perm l
 at_:∀q,q<l.length->gD x q=gD l (ro a m b q)
theorem RoP.len(h:RoP l x a m b):x.length=l.length:=h.perm.length_eq
theorem RoP.cast{p q r:Nat}(h:RoP l x p q r)(hp:p=a)(hq:q=m)(hr:r=b):RoP l x a m b:=by simp_all
structure RoI(l x:List α)(a m b i j:Nat):Prop where
 perm:x.Perm l
 i0:0<i
 j0:0<j
 im:i<=m
 jn:m+j<=l.length
 at_:∀q,q<l.length->gD x (ro (m-i) m (m+j) q)=gD l (ro a m b q)
theorem RoI.len(h:RoI l x a m b i j):x.length=l.length:=h.perm.length_eq
theorem RoI.start(ha:a<m)(hm:m<b)(hb:b<=l.length)(hi:i=m-a)(hj:j=b-m):RoI l l a m b i j:=by
 subst hi hj;refine⟨.refl _,by omega,by omega,by omega,by omega,fun q _=>?_⟩;grind
theorem Wp(ham:a<=m)(hmb:m<=b)(hb:b<=n)(hi:i<n):ro a m b i<n:=by grind[ro]
theorem RoI.left{p q r:Nat}(h:RoI l x a m b i j)(hs:SwP x y p q r)(hp:p=m-i)(hq:q=m)(hr:r=j)(hij:j<i)(hk:k=i-j):RoI l y a m b k j:=by
 subst hk;subst hp;have hq:=hq.symm;subst hq;have hr:=hr.symm;subst hr;have hi:=h.im;have hj:=h.jn;have h0:=h.j0;refine⟨hs.perm.trans h.perm,by omega,h0,by omega,hj,fun q hq=>?_⟩;rw[hs.at_ _ (by rw[h.len];simp_all[Wp]),<-h.at_ q hq];congr 1;unfold sw ro;grind
theorem RoI.right{p q r:Nat}(h:RoI l x a m b i j)(hs:SwP x y p q r)(hp:p=m-i)(hq:q=m+j-i)(hr:r=i)(hij:i<j)(hk:k=j-i):RoI l y a m b i k:=by
 subst hk;subst hp;have hq:=hq.symm;subst hq;have hr:=hr.symm;subst hr;have hi:=h.im;have hj:=h.jn;have h0:=h.i0;refine⟨hs.perm.trans h.perm,h0,by omega,hi,by omega,fun q hq=>?_⟩;rw[hs.at_ _ (by rw[h.len];exact Wp (by omega) (by omega) (by omega) hq),<-h.at_ q hq];congr 1;unfold sw ro;by_cases c1:m-i<=q/\q<m-i+(m+(j-i)-m)
 ·grind
 ·rw[if_neg c1];by_cases c2:m-i+(m+(j-i)-m)<=q/\q<m+(j-i)
  ·grind
  ·rw[if_neg c2];grind
theorem RoI.stop{p q r:Nat}(h:RoI l x a m b i j)(hs:SwP x y p q r)(hp:p=m-i)(hq:q=m)(hr:r=i)(hij:i=j):RoP l y a m b:=by
 subst hij;subst hp;have hq:=hq.symm;subst hq;have hr:=hr.symm;subst hr;have hi:=h.im;have hj:=h.jn;refine⟨hs.perm.trans h.perm,fun q hq=>?_⟩;rw[hs.at_ _ (by rw[h.len];omega),<-h.at_ q hq];congr 1;unfold sw ro;grind
theorem RoP.none(h:m<=a\/b<=m)(ham:a<=m)(hmb:m<=b):RoP l l a m b:=⟨.refl _,fun q _=>by
 congr 1;unfold ro;grind⟩
structure FstI(lt:α->α->Bool)(l:List α)(a m b i j:Nat):Prop where
 mi:m<=i
 ij:i<=j
 jb:j<=b
 lo:∀q,m<=q->q<i->lt (gD l q) (gD l a)=true
 hi:∀q,j<=q->q<b->lt (gD l q) (gD l a)=false
theorem FstI.start(h:m<=b):FstI lt l a m b m b:=⟨by omega,by omega,by omega,fun q _ _=>by omega,fun q _ _=>by omega⟩
theorem FstI.more(T:TotB lt)(h:FstI lt l a m b i j)(hs:dO lt l m b)(hl:lt (gD l k) (gD l a)=true)(h1:i<=k)(h2:k<j)(hk:e=k+1):FstI lt l a m b e j:=by
 subst hk;have:=h.mi;have:=h.jb;refine⟨by omega,by omega,h.jb,fun q q1 q2=>?_,h.hi⟩;exact T.down (hs.le T q1 (by omega) (by omega)) hl
theorem FstI.less(T:TotB lt)(h:FstI lt l a m b i j)(hs:dO lt l m b)(hl:lt (gD l k) (gD l a)=false)(h1:i<=k)(h2:k<j):FstI lt l a m b i k:=by
 have:=h.mi;have:=h.jb;refine⟨h.mi,by omega,by omega,h.lo,fun q q1 q2=>?_⟩;exact T.trans _ _ _ hl (hs.le T (by omega) q1 q2)
structure UpI(l x:List α)(a k:Nat):Prop where
 perm:x.Perm l
 at_:∀q,q<l.length->gD x q=gD l (if a<=q/\q<k then q+1 else if q=k then a else q)
theorem UpI.len(h:UpI l x a k):x.length=l.length:=h.perm.length_eq
theorem UpI.start:UpI l l a a:=⟨.refl _,fun q _=>by grind⟩
theorem UpI.step(h:UpI l x a k)(hk:a<=k)(hn:k+1<l.length)(he:e=k+1):UpI l ((x.set k (gD x e)).set e (gD x k)) a e:=by
 subst he;have hx:=h.len;have h1:k<x.length:=by omega
 have h2:k+1<x.length:=by omega
 refine⟨(rT h1 h2).trans h.perm,fun q hq=>?_⟩;rw[yp h1 h2];by_cases c1:q=k+1
 ·rw[if_pos c1,h.at_ _ (by omega),if_neg (by omega),if_pos rfl,if_neg (by omega),if_pos c1]
 ·rw[if_neg c1];by_cases c2:q=k
  ·rw[if_pos c2,h.at_ _ (by omega),if_neg (by omega),if_neg (by omega),if_pos (by omega),c2]
  ·rw[if_neg c2,h.at_ _ hq];grind
theorem UpI.stop(T:TotB lt)(h:UpI l x a k)(hf:FstI lt l a m b i j)(hs:dO lt l m b)(hma:m=a+1)(hij:j<=i)(hk:k+1=i)(hb:b<=l.length):SSeg lt l x a b:=by
 have q1:=hf.mi;have q2:=hf.ij;have q3:=hf.jb;refine⟨h.perm,fun q hq=>?_,fun q h1 h2=>?_,fun p q h1 h2 h3=>?_⟩
 ·rcases gQ q l.length with c|c
  ·rw[h.at_ q c,if_neg (by omega),if_neg (by omega)]
  ·rw[wE (by rw[h.len];omega),wE c]
 ·rw[h.at_ q (by omega)];grind
 ·rw[h.at_ p (by omega),h.at_ q (by omega)];by_cases c1:p<k
  ·rw[if_pos (show a<=p/\p<k by omega)];by_cases c2:q<k
   ·rw[if_pos (show a<=q/\q<k by omega)];exact hs _ _ (by omega) (by omega) (by omega)
   ·rw[if_neg (show ¬(a<=q/\q<k) by omega)];by_cases c3:q=k
    ·grind[cases TotB,cases FstI]
    ·grind[cases TotB,cases FstI]
  ·rw[if_neg (show ¬(a<=p/\p<k) by omega),if_neg (show ¬(a<=q/\q<k) by omega),if_neg (show ¬q=k by omega)];by_cases c3:p=k
   ·rw[if_pos c3];exact hf.hi _ (by omega) (by omega)
   ·rw[if_neg c3];exact hs _ _ (by omega) (by omega) (by omega)
structure LstI(lt:α->α->Bool)(l:List α)(a m i j:Nat):Prop where
 ai:a<=i
 ij:i<=j
 jm:j<=m
 lo:∀q,a<=q->q<i->lt (gD l m) (gD l q)=false
 hi:∀q,j<=q->q<m->lt (gD l m) (gD l q)=true
theorem LstI.start(h:a<=m):LstI lt l a m a m:=⟨by omega,by omega,by omega,fun q _ _=>by omega,fun q _ _=>by omega⟩
theorem LstI.more(T:TotB lt)(h:LstI lt l a m i j)(hs:dO lt l a m)(hl:lt (gD l m) (gD l k)=false)(h1:i<=k)(h2:k<j)(hk:e=k+1):LstI lt l a m e j:=by
 subst hk;have:=h.ai;have:=h.jm;refine⟨by omega,by omega,h.jm,fun q q1 q2=>?_,h.hi⟩;exact T.trans _ _ _ (hs.le T q1 (by omega) (by omega)) hl
theorem LstI.less(T:TotB lt)(h:LstI lt l a m i j)(hs:dO lt l a m)(hl:lt (gD l m) (gD l k)=true)(h1:i<=k)(h2:k<j):LstI lt l a m i k:=by
 have:=h.ai;have:=h.jm;refine⟨h.ai,by omega,by omega,h.lo,fun q q1 q2=>?_⟩;exact T.up hl (hs.le T (by omega) q1 q2)
structure DnI(l x:List α)(m k:Nat):Prop where
 perm:x.Perm l
 at_:∀q,q<l.length->gD x q=gD l (if k<q/\q<=m then q-1 else if q=k then m else q)
theorem DnI.len(h:DnI l x m k):x.length=l.length:=h.perm.length_eq
theorem DnI.start:DnI l l m m:=⟨.refl _,fun q _=>by grind⟩
theorem DnI.step(h:DnI l x m k)(hk:k<=m)(hn:m<l.length)(he:e+1=k):DnI l ((x.set k (gD x e)).set e (gD x k)) m e:=by
 subst he;have hx:=h.len;have h1:e+1<x.length:=by omega
 have h2:e<x.length:=by omega
 refine⟨(rT h1 h2).trans h.perm,fun q hq=>?_⟩;rw[yp h1 h2];by_cases c1:q=e
 ·rw[if_pos c1,h.at_ _ (by omega),if_neg (by omega),if_pos rfl,if_neg (by omega),if_pos c1]
 ·rw[if_neg c1];by_cases c2:q=e+1
  ·rw[if_pos c2,h.at_ _ (by omega),if_neg (by omega),if_neg (by omega),if_pos (by omega)];simp_all
  ·rw[if_neg c2,h.at_ _ hq];grind
theorem DnI.stop(T:TotB lt)(h:DnI l x m k)(hf:LstI lt l a m i j)(hs:dO lt l a m)(hmb:b=m+1)(hij:j<=i)(hk:k=i)(hb:b<=l.length):SSeg lt l x a b:=by
 have q1:=hf.ai;have q2:=hf.ij;have q3:=hf.jm;refine⟨h.perm,fun q hq=>?_,fun q h1 h2=>?_,fun p q h1 h2 h3=>?_⟩
 ·rcases gQ q l.length with c|c
  ·rw[h.at_ q c,if_neg (by omega),if_neg (by omega)]
  ·rw[wE (by rw[h.len];omega),wE c]
 ·rw[h.at_ q (by omega)];grind
 ·rw[h.at_ p (by omega),h.at_ q (by omega)];by_cases c1:q<=k
  ·rw[if_neg (show ¬(k<q/\q<=m) by omega),if_neg (show ¬(k<p/\p<=m) by omega),if_neg (show ¬p=k by omega)];by_cases c3:q=k
   ·rw[if_pos c3];exact hf.lo _ h1 (by omega)
   ·rw[if_neg c3];exact hs _ _ h1 h2 (by omega)
  ·rw[if_pos (show k<q/\q<=m by omega)];by_cases c2:k<p
   ·rw[if_pos (show k<p/\p<=m by omega)];exact hs _ _ (by omega) (by omega) (by omega)
   ·rw[if_neg (show ¬(k<p/\p<=m) by omega)];by_cases c3:p=k
    ·grind[cases TotB,cases LstI]
    ·rw[if_neg c3];exact hs _ _ h1 (by omega) (by omega)
structure CutI(lt:α->α->Bool)(l:List α)(lo hi p i j:Nat):Prop where
 li:lo<=i
 ij:i<=j
 jh:j<=hi
 low:∀c,lo<=c->c<i->lt (gD l (p-c)) (gD l c)=false
 high:∀c,j<=c->c<hi->lt (gD l (p-c)) (gD l c)=true
variable{lo hi:Nat}
theorem CutI.start(h:lo<=hi):CutI lt l lo hi p lo hi:=⟨by omega,by omega,by omega,fun q _ _=>by omega,fun q _ _=>by omega⟩
theorem CutI.more(T:TotB lt)(h:CutI lt l lo hi p i j)(hA:dO lt l a m)(hB:dO lt l m b)(hl:lt (gD l s) (gD l k)=false)(b1:a<=lo)(b2:hi<=m)(b3:m+hi<=p+1)(b4:p<b+lo)(h1:i<=k)(h2:k<j)(hk:e=k+1)(hs:s=p-k):CutI lt l lo hi p e j:=by
 subst hk hs;have:=h.li;have:=h.jh;refine⟨by omega,by omega,h.jh,fun c c1 c2=>?_,h.high⟩;exact T.trans _ _ _ (hA.le T (i:=c) (j:=k) (by omega) (by omega) (by omega)) (T.trans _ _ _ hl (hB.le T (i:=p-k) (j:=p-c) (by omega) (by omega) (by omega)))
theorem CutI.less(T:TotB lt)(h:CutI lt l lo hi p i j)(hA:dO lt l a m)(hB:dO lt l m b)(hl:lt (gD l s) (gD l k)=true)(b1:a<=lo)(b2:hi<=m)(b3:m+hi<=p+1)(b4:p<b+lo)(h1:i<=k)(h2:k<j)(hs:s=p-k):CutI lt l lo hi p i k:=by
 subst hs;have:=h.li;have:=h.jh;refine⟨h.li,by omega,by omega,h.low,fun c c1 c2=>?_⟩;exact T.down (hB.le T (i:=p-c) (j:=p-k) (by omega) (by omega) (by omega)) (T.up hl (hA.le T (i:=k) (j:=c) (by omega) (by omega) (by omega)))
theorem O0(T:TotB lt)(h:CutI lt l lo hi p s s)(hA:dO lt l a m)(hB:dO lt l m b)(hr:RoP l y s m e)(hab:b<=l.length)
  (d1:d+m=p+1)(e1:e+s=p+1)(f1:a<=s)(f2:s<=m)(f3:m<=e)(f4:e<=b)(f5:lo<s\/s=a\/e=b)(f6:s<hi\/s=m\/e=m):
  ∀i j,a<=i->i<d->d<=j->j<b->lt (gD y j) (gD y i)=false:=by
 intro i j h1 h2 h3 h4;rw[hr.at_ i (by omega),hr.at_ j (by omega)];unfold ro;by_cases c1:i<s
 ·rw[if_neg (show ¬(s<=i/\i<s+(e-m)) by omega),if_neg (show ¬(s+(e-m)<=i/\i<e) by omega)];rw[if_neg (show ¬(s<=j/\j<s+(e-m)) by omega)];by_cases c2:j<e
  ·rw[if_pos (show s+(e-m)<=j/\j<e by omega)];exact hA.le T h1 (by omega) (by omega)
  ·rw[if_neg (show ¬(s+(e-m)<=j/\j<e) by omega)];have hc:=h.low (s-1) (by omega) (by omega);rw[show p-(s-1)=e by omega]at hc;exact T.trans _ _ _ (hA.le T (i:=i) (j:=s-1) h1 (by omega) (by omega)) (T.trans _ _ _ hc (hB.le T (i:=e) (j:=j) (by omega) (by omega) h4))
 ·rw[if_pos (show s<=i/\i<s+(e-m) by omega),if_neg (show ¬(s<=j/\j<s+(e-m)) by omega)];by_cases c2:j<e
  ·rw[if_pos (show s+(e-m)<=j/\j<e by omega)];have hc:=h.high s (by omega) (by omega);rw[show p-s=e-1 by omega]at hc;refine T.asym _ _ (T.up (T.down (hB.le T (i:=i-s+m) (j:=e-1) (by omega) (by omega) (by omega)) hc) (hA.le T (i:=s) (j:=j-(e-m)) (by omega) (by omega) (by omega)))
  ·rw[if_neg (show ¬(s+(e-m)<=j/\j<e) by omega)];exact hB.le T (by omega) (by omega) h4
theorem RoP.left(hr:RoP l y s m e)(hA:dO lt l a m)(f2:s<=m)(f3:m<=e)(f4:e<=l.length):dO lt y a s:=fun i j h1 h2 h3=>by
 rw[hr.at_ i (by omega),hr.at_ j (by omega)];unfold ro;rw[if_neg (by omega),if_neg (by omega),if_neg (by omega),if_neg (by omega)];exact hA i j h1 h2 (by omega)
theorem RoP.mid1(hr:RoP l y s m e)(hB:dO lt l m b)(f3:m<=e)(f4:e<=b)(f2:s<=m)(hb:b<=l.length)(hd:d=s+(e-m)):dO lt y s d:=fun i j h1 h2 h3=>by
 rw[hr.at_ i (by omega),hr.at_ j (by omega)];unfold ro;rw[if_pos (by omega),if_pos (by omega)];exact hB _ _ (by omega) (by omega) (by omega)
theorem RoP.mid2(hr:RoP l y s m e)(hA:dO lt l a m)(f1:a<=s)(f2:s<=m)(f3:m<=e)(f4:e<=l.length)(hd:d=s+(e-m)):dO lt y d e:=fun i j h1 h2 h3=>by
 rw[hr.at_ i (by omega),hr.at_ j (by omega)];unfold ro;rw[if_neg (by omega),if_pos (by omega),if_neg (by omega),if_pos (by omega)];exact hA _ _ (by omega) (by omega) (by omega)
theorem RoP.right(hr:RoP l y s m e)(hB:dO lt l m b)(f2:s<=m)(f3:m<=e)(hb:b<=l.length):dO lt y e b:=fun i j h1 h2 h3=>by
 rw[hr.at_ i (by omega),hr.at_ j (by omega)];unfold ro;rw[if_neg (by omega),if_neg (by omega),if_neg (by omega),if_neg (by omega)];exact hB i j (by omega) h2 h3
theorem RoP.lower(hr:RoP l y s m e)(hA:dO lt l a m)(hB:dO lt l m b)(hd:d+m=s+e)(h:s<=a\/d<=s)(f1:a<=s)(f2:s<=m)(f3:m<=e)(f4:e<=b)(hb:b<=l.length):dO lt y a d:=by
 rcases h with h|h
 ·have:=hr.mid1 hB f3 f4 f2 hb (d:=d) (by omega);grind
 ·have:=hr.left hA f2 f3 (by omega);grind
theorem RoP.upper(hr:RoP l y s m e)(hA:dO lt l a m)(hB:dO lt l m b)(hd:d+m=s+e)(h:b<=e\/e<=d)(f1:a<=s)(f2:s<=m)(f3:m<=e)(f4:e<=b)(hb:b<=l.length):dO lt y d b:=by
 rcases h with h|h
 ·have:=hr.mid2 hA f1 f2 f3 (by omega) (d:=d) (by omega);grind
 ·have:=hr.right hB f2 f3 hb;grind
theorem YV(hr:RoP l y s m e)(hz:SSeg lt y z a d)(hw:SSeg lt z w d b)(had:a<=d)(hdb:d<=b)(hb:b<=l.length)(f1:a<=s)(f2:s<=m)(f3:m<=e)(f4:e<=b)
  (hx:∀i j,a<=i->i<d->d<=j->j<b->lt (gD y j) (gD y i)=false):SSeg lt l w a b:=by
 have hro:∀q,a<=q->q<b->a<=ro s m e q/\ro s m e q<b:=fun q h1 h2=>by grind[ro]
 have hy:∀q,q<a\/b<=q->gD y q=gD l q:=fun q hq=>by
  rcases gQ q l.length with c|c
  ·rw[hr.at_ q c];congr 1;unfold ro;grind
  ·rw[wE (by rw[hr.len];omega),wE c]
 refine⟨hw.perm.trans (hz.perm.trans hr.perm),fun q hq=>?_,fun q h1 h2=>?_,fun i j h1 h2 h3=>?_⟩
 ·grind[cases SSeg]
 ·rcases gQ q d with c|c
  ·obtain⟨j,j1,j2,j3⟩:=hz.src q h1 c;have:=hro j j1 (by omega);exact⟨_,this.1,this.2,by rw[hw.out q (.inl c),j3,hr.at_ j (by omega)]⟩
  ·obtain⟨j,j1,j2,j3⟩:=hw.src q c h2;have:=hro j (by omega) j2;exact⟨_,this.1,this.2,by rw[j3,hz.out j (.inr j1),hr.at_ j (by omega)]⟩
 ·rcases gQ j d with c|c
  ·rw[hw.out i (.inl (by omega)),hw.out j (.inl c)];exact hz.srt i j h1 h2 c
  ·rcases gQ i d with c2|c2
   ·obtain⟨i',i1,i2,i3⟩:=hz.src i h1 c2;obtain⟨j',j1,j2,j3⟩:=hw.src j c h3;rw[hw.out i (.inl c2),i3,j3,hz.out j' (.inr j1)];simp_all
   ·exact hw.srt i j c2 h2 h3
theorem wl(T:TotB lt)(h:CutI lt l lo hi p i s)(hA:dO lt l a m)(hB:dO lt l m b)(hr:RoP l y i m e)(hz:SSeg lt y z a d)(hw:SSeg lt z w d b)(his:s<=i)(hd:d+m=p+1)(he:e+i=p+1)(had:a<=d)(hdb:d<=b)(hb:b<=l.length)(f1:a<=i)(f2:i<=m)(f3:m<=e)(f4:e<=b)(f5:lo<i\/i=a\/e=b)(f6:i<hi\/i=m\/e=m):SSeg lt l w a b:=by
 have:i=s:=Nat.le_antisymm h.ij his;grind[YV,O0]
theorem SSeg.keep(h:SSeg lt l x a b)(hs:dO lt l i j)(hd:j<=a\/b<=i):dO lt x i j:=fun p q h1 h2 h3=>by rw[h.out p (by omega),h.out q (by omega)];exact hs p q h1 h2 h3
def Pa(lt:α->α->Bool)(x:List α)(s n:Nat):Prop:=∀c,dO lt x (c*s) (min ((c+1)*s) n)
theorem sf{t c d:Nat}(h:a=d*t):(c+1)*t<=a\/c=d\/a+t<=c*t:=by
 subst h;rcases Nat.lt_trichotomy c d with q|q|q
 ·exact .inl (fV _ q)
 ·omega
 ·refine .inr (.inr ?_);have:=fV t q;grind
structure BlkA(lt:α->α->Bool)(l x:List α)(s a:Nat):Prop where
 perm:x.Perm l
 dv:∃c,a=c*s
 ok:∀c,dO lt x (c*s) (min ((c+1)*s) a)
theorem BlkA.len(h:BlkA lt l x s a):x.length=l.length:=h.perm.length_eq
theorem BlkA.start:BlkA lt l l s 0:=⟨.refl _,⟨0,by omega⟩,fun c=>dO.nil (by omega)⟩
theorem BlkA.step(h:BlkA lt l x s a)(hy:SSeg lt x y a b)(hb:b=a+s):BlkA lt l y s b:=by
 obtain⟨d,hd⟩:=h.dv;subst hb;refine⟨hy.perm.trans h.perm,⟨d+1,by grind⟩,fun c=>?_⟩;rcases sf (c:=c) hd with q|q|q
 ·have:=h.ok c;rw[show min ((c+1)*s) a=(c+1)*s by omega]at this;rw[show min ((c+1)*s) (a+s)=(c+1)*s by omega];exact hy.keep this (.inl q)
 all_goals grind[dO.nil,cases SSeg]
theorem BlkA.last(h:BlkA lt l x s a)(hy:SSeg lt x y a n)(hn:n<a+s)(ha:a<=n):y.Perm l/\Pa lt y s n:=by
 obtain⟨d,hd⟩:=h.dv;refine⟨hy.perm.trans h.perm,fun c=>?_⟩;rcases sf (c:=c) hd with q|q|q
 ·have:=h.ok c;rw[show min ((c+1)*s) a=(c+1)*s by omega]at this;rw[show min ((c+1)*s) n=(c+1)*s by omega];exact hy.keep this (.inl q)
 all_goals grind[dO.nil,cases SSeg]
structure BlkB(lt:α->α->Bool)(l x:List α)(s a n:Nat):Prop where
 perm:x.Perm l
 dv:∃c,a=c*(2*s)
 ok:∀c,dO lt x (c*(2*s)) (min ((c+1)*(2*s)) a)
 rest:∀c,a<=c*s->dO lt x (c*s) (min ((c+1)*s) n)
theorem BlkB.len(h:BlkB lt l x s a n):x.length=l.length:=h.perm.length_eq
theorem BlkB.start(h:x.Perm l/\Pa lt x s n):BlkB lt l x s 0 n:=⟨h.1,⟨0,by omega⟩,fun c=>dO.nil (by omega),fun c _=>h.2 c⟩
theorem BlkB.pre1(h:BlkB lt l x s a n)(hm:m=a+s)(hn:m<=n):dO lt x a m:=by
 obtain⟨d,hd⟩:=h.dv;have e:a=(d*2)*s:=by grind
 have:=h.rest (d*2) (by omega);grind
theorem BlkB.pre2(h:BlkB lt l x s a n)(hm:m=a+s)(hb:b<=m+s)(hn:b<=n):dO lt x m b:=by
 obtain⟨d,hd⟩:=h.dv;have e:a=(d*2)*s:=by grind
 have e2:m=(d*2+1)*s:=by grind
 have:=h.rest (d*2+1) (by omega);rw[<-e2,qw,<-e2]at this;exact this.sub (af _) (by omega)
theorem BlkB.step(h:BlkB lt l x s a n)(hy:SSeg lt x y a b)(hb:b=a+2*s):BlkB lt l y s b n:=by
 obtain⟨d,hd⟩:=h.dv;subst hb;refine⟨hy.perm.trans h.perm,⟨d+1,by grind⟩,fun c=>?_,fun c hc=>hy.keep (h.rest c (by omega)) (.inr hc)⟩;rcases sf (c:=c) hd with q|q|q
 ·have:=h.ok c;rw[show min ((c+1)*(2*s)) a=(c+1)*(2*s) by omega]at this;rw[show min ((c+1)*(2*s)) (a+2*s)=(c+1)*(2*s) by omega];exact hy.keep this (.inl q)
 all_goals grind[dO.nil,cases SSeg]
theorem BlkB.last(h:BlkB lt l x s a n)(hy:SSeg lt x y a n)(hn:n<a+2*s)(ht:d=2*s)(ha:a<=n):y.Perm l/\Pa lt y d n:=by
 subst ht;obtain⟨d,hd⟩:=h.dv;refine⟨hy.perm.trans h.perm,fun c=>?_⟩;rcases sf (c:=c) hd with q|q|q
 ·have:=h.ok c;rw[show min ((c+1)*(2*s)) a=(c+1)*(2*s) by omega]at this;rw[show min ((c+1)*(2*s)) n=(c+1)*(2*s) by omega];exact hy.keep this (.inl q)
 all_goals grind[dO.nil,cases SSeg]
theorem BlkB.one(h:BlkB lt l x s a n)(hn:n<=a+s):SSeg lt x x a n:=by
 obtain⟨d,hd⟩:=h.dv;have e:a=(d*2)*s:=by grind
 have:=h.rest (d*2) (by omega);simp_all[qw,nW]
theorem Pa.all(h:Pa lt x s n)(hn:n<=s):dO lt x 0 n:=by
 have:=h 0;simp_all
theorem dO.pair:∀{x:List α},dO lt x 0 x.length->x.Pairwise fun u v=>lt v u=false
 |[],_=>.nil
 | u::r,h=>lz.2 ⟨fun v hv=>by
   obtain⟨i,hi,rfl⟩:=zK hv;have:=h 0 (i+1) (by omega) (by omega) (by simp_all);have e:gD (u::r) (i+1)=r[i]:=by grind[gD]
   rw[e]at this;exact this,dO.pair fun i j _ h2 h3=>h (i+1) (j+1) (by omega) (by omega) (by simp_all)⟩
end
section
variable{α:Type}{lt:α->α->Bool}
theorem C6:∀{x y:List α},x.Pairwise (fun u v=>lt v u=false)->y.Pairwise (fun u v=>lt v u=false)->x.Perm y->(∀u v,u∈x->v∈x->lt u v=false->lt v u=false->u=v)->x=y
 |[],y,_,_,hp,_=>hp.nil_eq
 |u::r,[],_,_,hp,_=>by simp_all
 |u::r,v::t,hx,hy,hp,H=>by
  obtain⟨x1,x2⟩:=lz.1 hx;obtain⟨y1,y2⟩:=lz.1 hy;have hv:v∈u::r:=hp.mem_iff.2 (ef ..);have hu:u∈v::t:=hp.mem_iff.1 (ef ..);have e:u=v:=by grind
  subst e;rw[C6 x2 y2 ((List.perm_cons u).1 hp) fun a b ha hb=>H a b (dA _ ha) (dA _ hb)]
def E1(lt:α->α->Bool)(a:α):List α->List α
 |[]=>[a]
 |b::r=>match lt b a with|true=>b::E1 lt a r|false=>a::b::r
def QV(lt:α->α->Bool)(l:List α):List α:=l.foldl (fun o a=>E1 lt a o) []
theorem wC(a:α):∀(l:List α),(E1 lt a l).Perm (a::l)
 |[]=>.refl _
 |b::r=>by
  unfold E1;cases lt b a with
  |true=>exact((wC a r).cons b).trans (.swap a b r)
  |false=>simp_all
theorem Db(T:TotB lt)(a:α):∀{l:List α},l.Pairwise (fun u v=>lt v u=false)->(E1 lt a l).Pairwise (fun u v=>lt v u=false)
 |[],_=>List.pairwise_singleton ..
 | b::r,h=>by
  obtain⟨h1,h2⟩:=lz.1 h;unfold E1;cases q:lt b a with
  |true=>
   refine lz.2 ⟨fun v hv=>?_,Db T a h2⟩;grind[wC,cases TotB]
  |false=>
   refine lz.2 ⟨fun v hv=>?_,h⟩;grind[cases TotB]
theorem zD(T:TotB lt):∀(l o:List α),o.Pairwise (fun u v=>lt v u=false)->((l.foldl (fun o a=>E1 lt a o) o).Perm (o++l)/\(l.foldl (fun o a=>E1 lt a o) o).Pairwise fun u v=>lt v u=false)
 |[],o,h=>⟨by simp_all,h⟩
 |a::r,o,h=>by
  obtain⟨h1,h2⟩:=zD T r (E1 lt a o) (Db T a h);refine⟨h1.trans ?_,h2⟩;exact((wC a o).append_right r).trans (List.perm_middle.symm)
theorem zC(T:TotB lt)(l:List α):(QV lt l).Perm l:=(zD T l [] .nil).1
theorem QK(T:TotB lt){l x:List α}(hp:x.Perm l)(hs:x.Pairwise fun u v=>lt v u=false)(H:∀u v,u∈l->v∈l->lt u v=false->lt v u=false->u=v):x=QV lt l:=C6 hs (zD T l [] .nil).2 (hp.trans (zC T l).symm) fun u v hu hv=>H u v (hp.mem_iff.1 hu) (hp.mem_iff.1 hv)
end
theorem VRel.unren{ρ:Nat->Nat}{n:Nat}{pl pl2:Pl}{M:dT}{v:AV}{x:Value}(h:VRel pl2 M v x)(hp:∀id p,id<n->pl2 id=some p->pl (ρ id)=some p)(ht:v.top<=n):VRel pl M (Ev.ren ρ v) x:=by
 have gt:∀{xs:List AV}{i:Nat}{z:AV},(xs.map (Ev.ren ρ))[i]?=some z->∃y,xs[i]?=some y/\z=Ev.ren ρ y:=by grind
 have tp:∀{xs:List AV}{i j:Nat}{z y:AV},az xs<=n->xs[i]?=some z->z.cells[j]?=some y->y.top<=n:=by
  intro xs i j x y h1 h2 h3;exact lH (eJ.1 h1 x (bH h2)) (bH h3)
 have sc:∀{xs:List AV}{sz:Nat},(∀x,x∈xs->x.cells.length=sz/\Sc x)->∀x,x∈xs.map (Ev.ren ρ)->x.cells.length=sz/\Sc x:=by
  intro xs sz h x hx;obtain⟨y,hy,rfl⟩:=gO.1 hx;obtain⟨h1,h2⟩:=h y hy;rw[gi];refine⟨by simp_all,fun u hu=>?_⟩;rw[gi]at hu;obtain⟨z,hz,rfl⟩:=gO.1 hu;rw[oF];exact h2 z hz
 have cel:∀{xs:List AV}{c:Array Value}{o sz:Nat},az xs<=n->(∀i x j y,xs[i]?=some x->x.cells[j]?=some y->y.top<=n->VRel pl M (Ev.ren ρ y) (c.getD (o+i*sz+j) undef))->
   ∀i x j y,(xs.map (Ev.ren ρ))[i]?=some x->x.cells[j]?=some y->VRel pl M y (c.getD (o+i*sz+j) undef):=by
  intro xs c o sz ht h i x j y h1 h2;obtain⟨x0,e1,rfl⟩:=gt h1;rw[gi]at h2;grind
 induction h with
 |bool b=>exact .bool b
 |int k n=>exact .int k n
 |str s=>exact .str s
 |nilp=>exact .nilp
 |ptr h1 h2 h3=>simp only[AV.top]at ht;exact .ptr (hp _ _ (by omega) h1) h2 h3
 |pptr hm hs hi hc ih=>
  simp only[AV.top]at ht;simp only[Ev.ren,fE];exact .pptr ⟨hm.1,hm.2.1,by simp_all,hm.2.2.2⟩ (sc hs) (by simp_all) (cel ht fun i x j y h1 h2 h3=>ih i x j y h1 h2 h3)
 |nils=>exact .nils
 |slice h1 h2 h3 h4 h5=>simp only[AV.top]at ht;exact .slice (hp _ _ (by omega) h1) h2 h3 h4 h5
 |sl0n _ ih=>exact .sl0n (ih (b8 _))
 |sl0s _ ih=>exact .sl0s (ih ht)
 |ps hl ht' hm hs hc ih=>
  simp only[AV.top]at ht;simp only[Ev.ren,fE];have:=VRel.ps (pl:=pl) (xs:=_) (by simpa using hl) (by simpa using ht') (by simp_all) (sc hs) (cel ht fun i x j y h1 h2 h3=>ih i x j y h1 h2 h3);simp_all
 |lsn=>exact .lsn
 |lsp h ht0 ih=>
  have:=ih (by grind[AV.top]);simp only[Ev.ren,fm ρ _ ht0]at this;exact .lsp this ht0
 |nilm=>exact .nilm
 |map h1 h2=>simp only[AV.top]at ht;exact .map (hp _ _ (by omega) h1) h2
 |func h1 h2 _ _ ih1 ih2=>
  simp only[AV.top,ra]at ht;simp only[Ev.ren,fE];refine .func (by simp_all) (by simp_all) (fun j y hj=>?_) (fun j y hj=>?_)
  ·obtain⟨z,e,rfl⟩:=gt hj;exact ih1 j z e (eJ.1 ht.1 z (bH e))
  ·obtain⟨z,e,rfl⟩:=gt hj;exact ih2 j z e (eJ.1 ht.2 z (bH e))
 |nilf=>exact .nilf
 |iface _ ih=>simp only[AV.top]at ht;exact .iface (ih ht)
 |nili=>exact .nili
 |agg h1 h2 _ ih=>
  simp only[AV.top]at ht;simp only[Ev.ren,fE];refine .agg (by simp_all) (fun y hy=>?_) (fun j y hj=>?_)
  ·grind[oF]
  ·obtain⟨z,e,rfl⟩:=gt hj;exact ih j z e (eJ.1 ht z (bH e))
 |tuple h1 _ ih=>
  simp only[AV.top]at ht;simp only[Ev.ren,fE];refine .tuple (by simp_all) (fun j y hj=>?_);obtain⟨z,e,rfl⟩:=gt hj;exact ih j z e (eJ.1 ht z (bH e))
def ep0:AObj->Bool
 | .row _ _ e _=>Nat.beq e 0
 | .map _ _=>true
 |_=>false
theorem bm.ep0{pl:Pl}{M:dT}{p:Place}{o:AObj}{x:Option Obj}(h:bm pl M p o x)(he:Ev.ep0 o=true):p.ep=0:=by
 match o,x with
 | .row sz op ep xs,some (.cells c t fr)=>rw[h.1];exact qx he
 | .map es clock,some (.map entries clock')=>exact h.1
theorem VI{ρ:Nat->Nat}{o:AObj}:ep0 (kF ρ o)=ep0 o:=by cases o<;>rfl
theorem bm.unren{ρ:Nat->Nat}{n:Nat}{pl pl2:Pl}{M:dT}{o:AObj}{p:Place}{x:Option Obj}(h:bm pl2 M p o x)(he:Ev.ep0 o=true)(hp:∀id p,id<n->pl2 id=some p->pl (ρ id)=some p)(ht:o.top<=n):bm pl M p (kF ρ o) x:=by
 match o,x with
 | .row sz op ep xs,some (.cells c t fr)=>
  obtain⟨h1,h2,h3,h4,h5,h6,h7,h8⟩:=h;simp only[AObj.top]at ht;have gt:∀{xs:List AV}{i:Nat}{z:AV},(xs.map (Ev.ren ρ))[i]?=some z->∃y,xs[i]?=some y/\z=Ev.ren ρ y:=by grind
  simp only[kF,fE];refine⟨h1,h2,by simp_all,h4,h5,h6,by simp_all,⟨by simpa using h8.fit,fun y hy=>?_,fun i z j y k1 k2=>?_⟩⟩
  ·obtain⟨z,hz,rfl⟩:=gO.1 hy;obtain⟨q1,q2⟩:=h8.elem z hz;rw[gi];refine⟨by simp_all,fun u hu=>?_⟩;rw[gi]at hu;obtain⟨z,hz,rfl⟩:=gO.1 hu;rw[oF];exact q2 z hz
  ·obtain⟨z0,e1,rfl⟩:=gt k1;rw[gi]at k2;obtain⟨y0,e2,rfl⟩:=gt k2;exact(h8.cell i z0 j y0 e1 e2).unren hp (lH (eJ.1 ht z0 (bH e1)) (bH e2))
 | .map es clock,some (.map entries clock')=>
  obtain⟨h1,h2,h3,h4⟩:=h;simp only[AObj.top]at ht;simp only[kF,rU];refine⟨h1,h2,by simp_all,fun i e hi=>?_⟩;rw[qO]at hi;cases hx:es[i]? with
  |none=>grind
  |some e0=>
   rw[hx]at hi;cases hi
   obtain⟨e',k1,k2,k3,k4⟩:=h4 i e0 hx;have:=qZ.1 ht e0 (bH hx);exact⟨e',k1,k2.unren hp this.1,k3.unren hp this.2,k4⟩
theorem aN.frame{P:Program}{G:fy}(hG:jc G){f:FuncId}{args:List AV}{v:AV}(ρ:Nat->Nat){L L':List AObj}(hl:L'.length=L.length)
  (hL:∀o,o∈L->ep0 o=true/\o.top<=L.length)(hL':∀o,o∈L'->ep0 o=true/\o.top<=L.length)(hm:∀i o,L'[i]?=some o->(aw L').get i=some o)(ht:az args<=L.length)(hv:v.top<=L.length)
  (hi:∀i j,i<L.length->j<L.length->ρ i=ρ j->i=j)
  (h0:aN P G f args (aw L) (fun v1 h1=>v1=v/\h1=aw L')){h h':AHeap}(hg:∀i o,L[i]?=some o->h.get (ρ i)=some (kF ρ o))
  (hg':∀k o,h'.get k=some o->(∃i o',L'[i]?=some o'/\k=ρ i/\o=kF ρ o')\/((∀i,i<L.length->k≠ρ i)/\h.get k=some o))(hn:h'.n=h.n):
  aN P G f (mB ρ args) h (fun v1 h1=>v1=Ev.ren ρ v/\h1=h'):=by
 intro pl M w vs hG1 hr hvs;obtain⟨n,en⟩:∃n,n=L.length:=⟨_,rfl⟩
 rw[<-en]at hL hL' ht hi hg' hv;have hat:∀i,i<n->∃o,L[i]?=some o/\o∈L:=fun i h=>⟨L[i],mn (by omega),EW _⟩
 have hat':∀i,i<n->∃o,L'[i]?=some o/\o∈L':=fun i h=>⟨L'[i]'(by omega),mn (by omega),EW _⟩
 have hpl1:∀k q,kY ρ n pl k=some q->k<n/\pl (ρ k)=some q:=fun k q hk=>by grind[kY]
 have hnH:(aw L).n=n:=en.symm;have hnH':(aw L').n=n:=hl.trans en.symm;have hr1:cN (kY ρ n pl) M (aw L) w:=by
  refine⟨fun k q hk=>?_,fun k q o hk hgo=>?_,fun k q hk=>?_,fun k k' q q' hk hk' e=>?_,hr.imm,fun k q hk=>?_⟩
  ·simp_all
  ·obtain⟨hk1,hk2⟩:=hpl1 k q hk;have:=oJ hgo;exact(hr.obj (ρ k) q _ hk2 (hg k o this)).ren (hL o (bH this)).2
  ·exact hr.blk _ q (hpl1 k q hk).2
  ·obtain⟨a1,a2⟩:=hpl1 k q hk;obtain⟨b1,b2⟩:=hpl1 k' q' hk';exact hi k k' a1 b1 (hr.inj _ _ q q' a2 b2 e)
  ·exact hr.sep _ q (hpl1 k q hk).2
 have hvs1:VRels (kY ρ n pl) M args vs:=⟨by rw[<-hvs.len,fE,cJ],fun j y hj=>(hvs.at_ j (Ev.ren ρ y) (by grind[fE])).ren rfl (eJ.1 ht y (bH hj))⟩
 have hG1':qr G (kY ρ n pl) M:=hG1.none hG;have fin:∀cv w',iD (kY ρ n pl) M (aw L) w v (aw L') cv w'->iD pl M h w (Ev.ren ρ v) h' cv w':=by
  intro cv w' ⟨pl2,M2,k1,k2,k3,k4⟩;have kept:∀b,b<w.heap.size->(∀i q,i<n->pl (ρ i)=some q->q.blk≠b)->w'.heap[b]?=w.heap[b]?:=fun b hb hne=>k3.kept b hb fun k q hk _=>hne k q (hpl1 k q hk).1 (hpl1 k q hk).2
  have same:∀i,i<n->pl2 i=pl (ρ i):=by
   intro i hin;cases hp:pl (ρ i)with
   |none=>exact k3.new i (by omega) (by simp_all[kY])
   |some p=>
    obtain⟨p2,e1,e2,e3⟩:=k3.ext i p (uI hin hp);obtain⟨o,h1,h2⟩:=hat i hin;obtain⟨o',h1',h2'⟩:=hat' i hin;have q1:p.ep=0:=(hr.obj (ρ i) p _ hp (hg i o h1)).ep0 (by grind[VI]);have q2:p2.ep=0:=(k2.obj i p2 o' e1 (hm i o' h1')).ep0 (hL' o' h2').1;simp_all
  have hun:∀id p,id<n->pl2 id=some p->pl (ρ id)=some p:=fun id p h1 h2=>by simp_all
  refine⟨pl,M2,k1.unren hun hv,⟨fun k q hk=>by rw[hn];exact hr.dom k q hk,fun k q o hk hgo=>?_,fun k q hk=>F5 (hr.blk k q hk) k3.size,hr.inj,k2.imm,fun k q hk=>?_⟩,⟨n8.refl _,fun _ _ h=>h,k3.mem,k3.size,fun b hb hk=>kept b hb fun i q hin hp e=>?_,fun k q hk=>.inl ⟨q,hk,rfl⟩,fun k q hk hno=>?_,fun _ _ h _=>h,k3.memNew,k3.os,k3.tape,k3.out,k3.drawn⟩,xQ hn.symm⟩
  ·rcases hg' k o hgo with⟨i,o',h1,rfl,rfl⟩|⟨hne,hgo⟩
   ·have hin:i<n:=by grind
    have hm':=bH h1;exact(k2.obj i q o' (by simp_all) (hm i o' h1)).unren (hL' o' hm').1 hun (hL' o' hm').2
   ·rw[kept _ (hr.blk k q hk) fun i q' hin hp e=>hne i hin (hr.inj _ _ q q' hk hp e.symm)];exact(hr.obj k q o hk hgo).mono (n8.refl _) k3.mem
  ·cases hM:M2 q.blk with
   |none=>rfl
   |some c2=>
    rcases k3.memNew _ c2 hM with k5|k5
    ·rw[hr.sep k q hk]at k5;grind
    ·have:=hr.blk k q hk;omega
  ·grind
  ·cases hq:h'.get k with
   |none=>rfl
   |some o=>grind
 rcases h0 (kY ρ n pl) M w vs hG1' hr1 hvs1 with⟨h1,h2⟩|⟨cv,w',v1,h1,q1,⟨q2,q3⟩,q4⟩
 ·exact .inl ⟨h1,Calls.mono h2 fun e w' ⟨cv,v1,h1,k1,⟨k2,k3⟩,k4⟩=>⟨cv,Ev.ren ρ v,h',k1,⟨rfl,rfl⟩,by simp_all⟩⟩
 ·exact .inr ⟨cv,w',Ev.ren ρ v,h',q1,⟨rfl,rfl⟩,by simp_all⟩
section
variable{P:Program}{G:fy}{call:cA}{m:Nat}{c:Code}{d:D}{s s':St}{ops:Array Oper}
theorem E3(hm:P.follows .mixedOrders=true)(hG:jc G)(hc:cL P G call)(d:D)(e:(WP P G call m c).run d s (fun e _ s=>e=.normal/\s=s')=(AExit.normal=.normal/\s'=s')):ar P G (some m) c s (fun e s=>e=.normal/\s=s'):=W7 hm hG hc c d s _ _ (e▸⟨rfl,rfl⟩) fun _ _ _ _ h=>h
theorem yE(hG:jc G)(hc:cL P G call){id:Nat}{Ψ:St->Prop}(d:D){W:Prop}(p:W)(e:Y8 P G call m ops ops.toList d s (fun _ s=>Ψ s)=W):ar P G (some m) (.region id ops false) s (fun e s=>e=.normal/\Ψ s):=ar.region (gM hG hc _ d s _ (e▸p) fun _ _ _ h=>⟨rfl,h⟩)
end
section
variable{P:Program}{G:fy}{ops:Array Oper}{o:Oper}{l:List Oper}{s:St}{b:Option Nat}
theorem so{Y:Type}{I:Y->Prop}{r:Y->AV}{H:Y->AHeap}{Φ:St->Prop}(hg:fK s.tmps (e9 ops o)=some true)
  (hO:∀(pl:Pl)(M:dT)(a:Act)(w:World),qr G pl M->cN pl M s.heap w->FrRel pl M s.tmps a->∃y pl' M' cv w',I y/\(execOp a.eval o).run P w=.ok (.value cv) w'/\VRel pl' M' (r y) cv/\cN pl' M' (H y) w'/\dQ s.heap pl M w (H y) pl' M' w'/\s.heap.n<=(H y).n)
  (h:∀y,I y->∃A',je s.tmps o.dst (r y)=some A'/\cH P G b ops l ⟨A',H y⟩ Φ):cH P G b ops (o::l) s Φ:=by
 intro i N h0' pl0 M0 w0 a w Q hb hl' hs hQ;have ho:ops[i]?=some o:=by simpa using hl' 0
 obtain⟨pl,M,g1,g2,g3,g4,g5⟩:=hs.ex;simp only[cO,Cp,wpOps,ho];rw[f8 g3 hg];simp only[if_true];left;obtain⟨y,pl',M',cv,w',i1,i2,i3,i4,i5,i6⟩:=hO pl M a w g1 g2 g3;obtain⟨A',e1,e2⟩:=h y i1;obtain⟨p1,p2⟩:=oW (g3.mono i5.ext i5.mem) i3 (by rw[hs.n];exact hs.small) e1;have nxt:=e2 (i+1) N h0' pl0 M0 w0 (a.put o.dst cv) w' Q hb (fun j=>by have:=hl' (j+1);grind)
  ⟨⟨pl',M',g1.mono i5.ext i5.mem,i4,p1,g4.trans i5 g5,bu g5 i6⟩,by rw[<-hs.n];omega,hs.small⟩ hQ
 unfold Oper.wp;rw[i2];exact nxt
theorem vM{t tx e:TypeId}{i:TypeInfo}{sz bt:Nat}(hsz:i.size=sz)(hbt:i.bytes=bt){z z0:AV}{sO xO:Operand}{dst:Option Tmp}{ty:TypeId}{pos:String}{after:Array Edge}{guard:Option (Nat×Bool)}{xs:List AV}
  (ht:P.underlying t=some (.slice e))(hk:∃e',P.underlying tx=some (.slice e'))(hi:P.info? e=some i)(hz:iS P e=some z0)(hzl:Le z z0)
  (hs:(cE G sO).run s.tmps=some (.ps [] true))(hx:(cE G xO).run s.tmps=some (.ls xs))(hne:xs≠[])(hfit:eX sz xs=true)(hzf:eX sz [z]=true)(hsm:small xs.length bt=true)(hs0:0<sz)
  (pl:Pl)(M:dT)(a:Act)(w:World)(g1:qr G pl M)(g2:cN pl M s.heap w)(g3:FrRel pl M s.tmps a):
  ∃(k:Nat)(pl':Pl)(M':dT)(cv:Value)(w':World),True/\(execOp a.eval ⟨dst,.call ⟨.builtin .append,#[sO,xO],#[t,tx]⟩,ty,pos,after,guard⟩).run P w=.ok (.value cv) w'/\
   VRel pl' M' (.slice s.heap.n 0 0 xs.length (some (xs.length+k))) cv/\cN pl' M' (s.heap.push (.row sz false 0 (xs++List.replicate k z))) w'/\dQ s.heap pl M w (s.heap.push (.row sz false 0 (xs++List.replicate k z))) pl' M' w'/\s.heap.n<=(s.heap.push (.row sz false 0 (xs++List.replicate k z))).n:=by
 subst hsz;subst hbt;have hsr:=bq g1 g3 hs;have hxr:=bq g1 g3 hx;obtain⟨news,hsrc⟩:=zB (P:=P) g2 hxr (show lU s.heap (.ls xs)=some xs from rfl) hne hfit;obtain⟨i2,zv,hz1,hz2,hz3⟩:=nK hz;rw[hi]at hz1;cases hz1
 obtain⟨b1,b2⟩:=j4 hsm;have hpos:0<xs.length:=qN.2 hne;generalize hq:a.eval sO=cs at hsr;generalize hq2:a.eval xO=cx at hxr hsrc;cases hsr with
 | ps hl htt hm hs2 hc=>
  rename_i ad cap sz c;have hcap:cap=0:=htt rfl;subst hcap;have hzr:=hzl _ _ _ (dn (pl:=pl) (M:=M) hz3);have hzt:=mP hzf z (by simp);have hzsz:zv.cells.size=i.size:=by rw[<-hzr.cells.len];omega
  have hrun:=run_append_grow_src (P:=P) w t tx ty e i zv ht hi hz2 (some ad) 0 0 [] (by simp[Builtin.firstCells,loadCells,loadCellsFrom]) cx xs.length news (hsrc.src (.inl hk)) (by omega) (by omega) (growslice_fits (by omega) (by grind));have hge:=grownCap_ge w (0+xs.length) 0 e;obtain⟨C,hC⟩:∃C,C=grownCap w (0+xs.length) 0 e:=⟨_,rfl⟩
  rw[<-hC]at hrun hge;have hin:=ft hzr hzt.2 (C-(0+xs.length)) hzt.1 hs0;have hzl:(Builtin.zeroCells zv.cells (C-(0+xs.length))).toList.toArray=(Array.range ((C-(0+xs.length))*i.size)).map (zv.cells[· %zv.cells.size]!):=by grind[Builtin.zeroCells]
  have hnl:(Builtin.zeroCells zv.cells (C-(0+xs.length))).toList.length=(List.replicate (C-(0+xs.length)) z).length *i.size:=by grind[Builtin.zeroCells]
  have hin2:=kO (news:=(Builtin.zeroCells zv.cells (C-(0+xs.length))).toList) hsrc.mem (by grind) hsrc.newsLen hnl #[];have hce:(news++(Builtin.zeroCells zv.cells (C-(0+xs.length))).toList).toArray++#[]=([]++news).toArray++Builtin.zeroCells zv.cells (C-(0+xs.length)):=by grind
  rw[hce]at hin2;have hcs:(([]++news).toArray++Builtin.zeroCells zv.cells (C-(0+xs.length))).size=(xs++List.replicate (C-(0+xs.length)) z).length *i.size:=by simp only[zV,F6,Cs,hsrc.newsLen,size_zeroCells,hzsz,eG,qM,kW]
  obtain⟨cells,hcells⟩:∃cells,cells=([]++news).toArray++Builtin.zeroCells zv.cells (C-(0+xs.length)):=⟨_,rfl⟩
  rw[<-hcells]at hrun hin2 hcs;have hxl:(xs++List.replicate (C-(0+xs.length)) z).length=C:=by grind
  let p:Place:=⟨w.heap.size,0,i.size,C,C*i.size⟩
  have hwd:(w.drew.alloc (.cells cells e)).heap=w.heap.push (.cells cells e):=rfl;obtain⟨r1,r2⟩:=cN.alloc (o:=.row i.size false 0 (xs++List.replicate (C-(0+xs.length)) z)) (p:=p) g2 hwd ⟨rfl,rfl,rfl,n9 _⟩ rfl
   ⟨rfl,rfl,hxl.symm,by grind,rfl,hs0,fun _=>hcs,hin2.mono (fun id q hq=>⟨q,by rw[dJ (by have:=g2.dom id q hq;omega)];omega,af _,fun _=>rfl⟩) (fun _ _ h=>h)⟩
  refine⟨C-(0+xs.length),upd pl s.heap.n p,M,.slice (some ⟨w.heap.size,0,none⟩) (0+xs.length) C,w.drew.alloc (.cells cells e),trivial,?_,?_,r1,r2,n9 _⟩
  ·simp only[execOp,resolve,invoke,builtin,Sem.run_bind,Sem.run_pure,Result.andThen_ok,List.map_toArray,eg,zX,hq,hq2];show(Sem.run P (Builtin.append_ #[t,tx] ty #[Value.slice (some ad) 0 0,cx]) w).andThen _=_
   rw[hrun];rfl
  ·rw[gn]at hge ⊢;refine .slice (eh _ _ _) (af _) hge (fun k hk=>by grind) (fun _=>⟨.inr (by grind),by grind,by grind,(fun hk=>by grind),(fun k hk=>by grind)⟩)
end
section
variable{s id ep off len c l h m a b d sz bt i n k:Nat}{hp H:AHeap}{xs ys zs new:List AV}{lo hi mx cap:Option Nat}{op:Bool}{x z:AV}{vl vh vm:Option AV}
theorem iL(hg:rJ s hp id ep=some xs)(h1:jt 0 vl=some l)(h2:jt len vh=some h)(q1:l<=h)(q2:h<=c)(q3:c≠l)(e1:off+l=a)(e2:h-l=b)(e3:c-l=d):
  bA H (di s hp (some (.slice id ep off len (some c))) vl vh none)=some (.val (.slice id ep a b (some d)) H):=by
 have p1:Nat.ble l h=true:=uf q1;have p2:Nat.ble h c=true:=uf q2;have p3:Nat.beq c l=false:=by grind[aB]
 simp only[di,gp,hg,h1,h2,room,qo,p1,p2,p3,zY,e1,e2,e3,bA]
theorem Ec(hg:rJ s hp id ep=some xs)(h1:jt 0 vl=some l)(h2:gj x=some h)(h3:gj z=some m)(q1:l<=h)(q2:h<=m)(q3:m<=c)(q4:m≠l)(e1:off+l=a)(e2:h-l=b)(e3:m-l=d):
  bA H (di s hp (some (.slice id ep off len (some c))) vl (some x) (some z))=some (.val (.slice id ep a b (some d)) H):=by
 have p1:Nat.ble l h=true:=uf q1;have p2:Nat.ble h m=true:=uf q2;have p3:Nat.beq m l=false:=by grind[aB]
 simp_all[uf,di,gp,room,qo,bA]
theorem Lp(hg:rJ s hp id ep=some xs)(h1:jt 0 vl=some l)(h2:jt len vh=some h)(q1:l=h)(q3:c=l):
  bA H (di s hp (some (.slice id ep off len (some c))) vl vh none)=some (.val (.slice id ep 0 0 (some 0)) H):=by
 subst q1;subst q3;have p1:Nat.ble c c=true:=uf (af _);have p3:Nat.beq c c=true:=qH _;simp only[di,gp,hg,h1,h2,room,qo,p1,p3,zY,bA]
theorem Lo(hg:rJ s hp id ep=some xs)(h1:jt 0 vl=some l)(h2:jt len vh=some h)(q1:l<=h)(q2:h+off<=xs.length)(e1:off+l=a)(e2:h-l=b):
  bA H (di s hp (some (.slice id ep off len none)) vl vh none)=some (.val (.slice id ep a b none) H):=by
 grind[Nat.ble_eq_true_of_le,di,gp,room,qo,bA]
theorem zA(hg:H.get id=some (.row sz op ep xs))(e:(xs.drop off).take len=zs):lU H (.slice id ep off len cap)=some zs:=by grind[Nat.beq_refl,lU,lW]
theorem P3{xs ys:List AV}{n:Nat}(h:xs.length=n):((xs++ys).drop 0).take n=xs:=by simp_all
theorem xq{xs:List AV}{t:Bool}{n:Nat}(h:az xs=0):Nat.ble (AV.ps xs t).top n=true:=by simp_all[AV.top]
theorem Nh(hg:H.get id=some (.row sz op ep xs))(hx:lU H x=some new)(hf:eX sz new=true)(hne:new≠[])(hc:len+new.length<=c)(hl:off+len+new.length<=xs.length)(hs:small (len+new.length) bt=true)(e1:len+new.length=n)(e2:cQ xs (off+len) new=ys):
  fG (du sz bt H (some (.slice id ep off len (some c))) (some x))=some (.val (.slice id ep off n (some c)) (H.put id (.row sz op ep ys))):=by
 subst e1;cases new with
 |nil=>simp_all
 |cons y r=>simp_all[uf,du,gT,ii,fG]
theorem Tk(hx:lU H x=some []):fG (du sz bt H (some (.slice id ep off len cap)) (some x))=some (.val (.slice id ep off len cap) H):=by grind[du,gT,ii,fG]
theorem Wx(hg:H.get id=some (.row sz op ep xs))(hx:lU H x=some new)(hf:eX sz new=true)(hne:new≠[])(hc:c<len+new.length)(hs:small (len+new.length) bt=true)(e1:(xs.drop off).take len++new=ys)(e2:ys.length=n):
  fG (du sz bt H (some (.slice id ep off len (some c))) (some x))=some (.val (.slice H.n 0 0 n none) (H.push (.row sz true 0 ys))):=by
 cases new with
 |nil=>simp_all
 |cons y r=>
  have p1:Nat.beq ep ep=true:=qH ep;have p2:Nat.beq sz sz=true:=qH sz;have p3:Nat.ble (len+(y::r).length) c=false:=by grind[ba]
  simp_all[du,gT,ii,i7,fG]
theorem U0(hg:H.get id=some (.row sz op ep xs))(hk:0<k)(hc:c<len+k)(hf:eX sz [z]=true)(hs:small (len+k) bt=true)(hs2:small k bt=true)(e1:(xs.drop off).take len++List.replicate k z=ys)(e2:ys.length=n):
  fG (Dj sz bt z H (some (.slice id ep off len (some c))) (some (.int .i64 (.ofNat k))))=some (.val (.slice H.n 0 0 n none) (H.push (.row sz true 0 ys))):=by
 have p1:Nat.beq ep ep=true:=qH ep;have p2:Nat.beq sz sz=true:=qH sz;grind[Nat.ble_eq_true_of_le,Nat.blt,Dj,MZ,i7,fG]
theorem Nw(hg:H.get id=some (.row sz op ep xs))(hx:lU H x=some zs)(hf:eX sz (zs.take len)=true)(e1:min zs.length len=k)(e2:cQ xs off (zs.take len)=ys):
  fG (vB sz H (some (.slice id ep off len cap)) (some x))=some (.val (.int .i64 (.ofNat k)) (H.put id (.row sz op ep ys))):=by
 grind[Nat.beq_refl,vB,Nv,fG]
theorem KN(hg:H.get id=some (.row sz op ep xs))(hf:eX sz [z]=true)(e2:cQ xs off (List.replicate len z)=ys):
  fG (wM sz z H (some (.slice id ep off len cap)))=some (.val gF (H.put id (.row sz op ep ys))):=by
 grind[Nat.beq_refl,wM,fG]
theorem sj{sz:Nat}:∀{xs:List AV}{n:Nat},eX sz xs=true->eX sz (xs.take n)=true
 |[],n,h=>by simp_all
 |x::r,0,_=>rfl
 |x::r,n+1,h=>by
  simp only[List.take_succ_cons,eX,bZ]at h ⊢;exact⟨h.1,sj h.2⟩
theorem sk{sz:Nat}:∀{xs:List AV}{n:Nat},eX sz xs=true->eX sz (xs.drop n)=true
 |[],n,h=>by simp_all
 |x::r,0,h=>h
 |x::r,n+1,h=>by
  simp only[List.drop_succ_cons,eX,bZ]at h ⊢;exact sk h.2
end
theorem Cz{P:Program}{G:fy}{f:FuncId}{fn:Func}{tS tR e:TypeId}{n:Nat}(hf:P.funcs[f]?=some fn)(hname:(fn.name== "runtime.NumGoroutine")=false)(hb:fn.body.isNone=true)(hn:Extern.findNext fn=none)(he:Extern.find fn=some (Extern.SlicesOverlaps.overlaps #[tS,tS] #[tR]))
  (ht:P.underlying tS=some (.slice e))(hi:dZ P e=some n){xs ys:List AV}{t:Bool}{id off len c sz:Nat}{op:Bool}{h:AHeap}(hne:xs≠[])(hgo:h.get id=some (.row sz op 0 ys)):
  aN P G f [.ps xs t,.slice id 0 off len (some c)] h (fun v h'=>v=.bool false/\h'=h):=by
 intro pl M w vs hG hr hv;right;refine⟨.bool false,w,.bool false,h,?_,⟨rfl,rfl⟩,pl,M,.bool false,hr,dQ.refl _ _ _ _,af _⟩;have v0:=hv.at_ 0 _ rfl;have v1:=hv.at_ 1 _ rfl;have hvs:vs=#[vs.getD 0 undef,vs.getD 1 undef]:=by
  have hl:vs.size=2:=hv.len.symm;apply Array.ext
  ·omega
  ·intro i h1 h2
   match i,h2 with
   |0,_=>simp_all
   |1,_=>simp_all
 rw[run_callFunc_extern hf hname hb hn he,hvs];generalize vs.getD 0 undef=x0 at v0;generalize vs.getD 1 undef=x1 at v1;cases v0 with
 | ps hl htt hm hs hc=>
  rename_i a cap0 sz0 c0;obtain⟨m1,m2,m3,m4⟩:=hm hne;have hpos:0<xs.length:=qN.2 hne;cases v1 with
  | slice hp hep hl1 hk ha=>
   rename_i cap1 b p;have hcap:=hk c rfl;subst hcap;obtain⟨tA,frA,hA⟩:=hr.imm _ _ m2;have ho:=hr.obj id p _ hp hgo;obtain⟨cB,tB,hB,hpe⟩:∃cB tB,w.heap[p.blk]?=some (.cells cB tB (0,0))/\p.ep=0:=by
    cases hb2:w.heap[p.blk]? with
    |none=>rw[hb2]at ho;exact ho.elim
    |some ob=>
     rw[hb2]at ho;cases ob with
     |cells cB tB fr=>obtain⟨h1,_,_,_,h5,_⟩:=ho;grind
     |_=>exact ho.elim
   have hsep:=hr.sep id p hp;have hsz:=cR hi w;have hc0:c0.size≠0:=by
    have:0<xs.length*sz0:=Nat.mul_pos hpos m4;omega
   obtain⟨q1,-⟩:=ha hpe.symm
   suffices hh:(Extern.SlicesOverlaps.overlaps #[tS,tS] #[tR] #[.slice (some a) xs.length cap0,.slice (some b) len cap1]).run P w=.ok (.bool false) w by rw[hh];rfl
   generalize xs.length=la;change Sem.run P (α:=Value) (do
    let some t:=(#[tS,tS]:Array TypeId)[0]?|stuck "slices.overlaps: no parameter types"
    let .slice elem <-underlying t|stuck "slices.overlaps: slice type expected"
    let size <-sizeOf elem
    match(some a:Option Addr),(some b:Option Addr)with
    | some a,some b=>
     if la=0\/len=0\/size=0 then pure (Value.bool false)
     else if a.block !=b.block&&(<-frozen a)&&(<-frozen b)then unsupported .addressObserved
     else do
      if a.block !=b.block then do
       noView a;noView b
       if <-mayBeOne a b then return Value.bool ((<-choose (.extern "sameAddr.stringBytes" 2))==1)
      pure (Value.bool (a.block==b.block&&a.off<b.off+len*size&&b.off<a.off+la*size))
    |_,_=>pure (Value.bool false)) w=_
   by_cases h0:la=0\/len=0\/n=0
   ·simp[run_underlying ht,hsz,h0]
   ·have hbk:b=⟨p.blk,off*p.sz,none⟩:=by grind
    subst hbk;have hnb:a.block≠p.blk:=fun e=>by grind
    have hnb1:(a.block !=p.blk)=true:=by grind
    have hnb2:(a.block==p.blk)=false:=by grind
    have f1:∀o,w.frozen? ⟨p.blk,o,none⟩=false:=fun o=>by grind[World.frozen?]
    have s1:w.shape? a.block=some (tA,c0.size):=by grind[World.shape?]
    have s2:w.shape? p.blk=some (tB,cB.size):=by grind[World.shape?]
    cases hsx:c0.size with
    |zero=>omega
    |succ kA=>
     rw[hsx]at s1;cases hfa:w.frozen? a<;>cases hfb:w.frozen? {block:=a.block,off:=kA+1}<;>
     simp[run_underlying ht,hsz,h0,hnb1,hnb2,frozen,noView,viewAt,mayBeOne,stringish,shape,Sem.run,s1,s2,f1,hfa,hfb]
def Ur(rs:List Nat):AHeap->List AObj->Nat->AHeap
 |h,[],_=>h
 |h,o::r,i=>Ur rs (h.put (gy rs i) (kF (gy rs) o)) r (i+1)
def YS(rs:List Nat)(h:AHeap):List AObj->Nat->Prop
 |[],_=>True
 |o::r,i=>h.get (gy rs i)=some (kF (gy rs) o)/\YS rs h r (i+1)
def R3(h:AHeap):List AObj->Nat->Prop
 |[],_=>True
 |o::r,i=>h.get i=some o/\R3 h r (i+1)
def Ez(n:Nat):List AObj->Prop
 |[]=>True
 |o::r=>(ep0 o=true/\o.top<=n)/\Ez n r
theorem Qm(rs:List Nat):∀(l:List AObj)(h:AHeap)(i:Nat),(Ur rs h l i).n=h.n
 |[],_,_=>rfl
 |_::r,h,i=>Qm rs r _ (i+1)
theorem Nd{rs:List Nat}{h:AHeap}:∀{l:List AObj}{i j:Nat}{o:AObj},YS rs h l i->l[j]?=some o->h.get (gy rs (i+j))=some (kF (gy rs) o)
 |x::r,i,0,o,a,e=>by simp at e;subst e;exact a.1
 |x::r,i,j+1,o,a,e=>by
  have:=Nd (i:=i+1) (j:=j) a.2 (by simpa using e);grind
theorem HI{h:AHeap}:∀{l:List AObj}{i j:Nat}{o:AObj},R3 h l i->l[j]?=some o->h.get (i+j)=some o
 |x::r,i,0,o,a,e=>by simp at e;subst e;exact a.1
 |x::r,i,j+1,o,a,e=>by
  have:=HI (i:=i+1) (j:=j) a.2 (by simpa using e);grind
theorem wW{n:Nat}:∀{l:List AObj},Ez n l->∀o,o∈l->ep0 o=true/\o.top<=n
 |x::r,a,o,e=>by
  rcases dP.1 e with rfl|e
  ·exact a.1
  ·exact wW a.2 o e
theorem GS{rs:List Nat}:∀{l:List AObj}{h:AHeap}{i k:Nat}{o:AObj},(∀j,j<l.length->gy rs (i+j)<1000000)->(Ur rs h l i).get k=some o->
  (∃j o',l[j]?=some o'/\k=gy rs (i+j)/\o=kF (gy rs) o')\/((∀j,j<l.length->k≠gy rs (i+j))/\h.get k=some o)
 |[],h,i,k,o,_,e=>.inr ⟨fun j hj=>absurd hj (qL _),e⟩
 | x::r,h,i,k,o,hb,e=>by
  rcases GS (l:=r) (i:=i+1) (fun j hj=>by have:=hb (j+1) (by simp_all);grind) e with⟨j,o',h1,h2,h3⟩|⟨h1,h2⟩
  ·exact .inl ⟨j+1,o',by simp_all,by grind,h3⟩
  ·rcases AHeap.get_put (by have:=hb 0 (Nat.zero_lt_succ _);omega) h2 with⟨h3,h4⟩|⟨h3,h4⟩
   ·exact .inl ⟨0,x,rfl,h3,h4⟩
   grind
theorem HB{q:Nat->Bool}:∀{rs:List Nat}{i:Nat},rs.all q=true->i<rs.length->q (gy rs i)=true
 |x::r,0,h,_=>by simp only[List.all_cons,bZ]at h;exact h.1
 |x::r,i+1,h,hi=>by
  simp only[List.all_cons,bZ]at h;exact HB (rs:=r) (i:=i) h.2 (by simp_all)
theorem qq{P:Program}{G:fy}(hG:jc G){f:FuncId}{args args':List AV}{v v':AV}{L L' os os':List AObj}(rs:List Nat)
  (h0:aN P G f args (aw L) (fun v1 h1=>v1=v/\h1=aw L'))(ea:mB (gy rs) args=args')(ev:Ev.ren (gy rs) v=v')
  (c:(Ax rs&&(Nat.beq rs.length L.length&&(Nat.beq L'.length L.length&&rs.all fun x=>Nat.blt x 1000000)))=true)
  (hL:Ez L.length L)(hL':Ez L.length L')(ht:az args<=L.length)(hv:v.top<=L.length)
  (a1:YS rs (aw os) L 0)(a2:R3 (aw L') L' 0)(a3:aw os'=Ur rs (aw os) L' 0):aN P G f args' (aw os) (fun v1 h1=>v1=v'/\h1=aw os'):=by
 simp only[bZ,aB,decide_eq_true_eq]at c;obtain⟨c1,c2,c3,c4⟩:=c;subst ea;subst ev;rw[a3];refine aN.frame hG (gy rs) c3 (wW hL) (wW hL') (fun i o hi=>by have:=HI a2 hi;simp_all) ht hv (fun i j hi hj=>sX c1 i j (by omega) (by omega)) h0
  (fun i o hi=>by have:=Nd a1 hi;simp_all) (fun k o hk=>?_) (Qm rs L' _ 0)
 rcases GS (fun j hj=>by have:=HB c4 (show 0+j<rs.length by omega);simp_all) hk with⟨j,o',h1,h2,h3⟩|⟨h1,h2⟩
 all_goals grind
theorem ww{ρ:Nat->Nat}{sz ep:Nat}{b:Bool}{xs:List AV}(h:az xs=0):kF ρ (.row sz b ep xs)=.row sz b ep xs:=by grind[kF,fm]
theorem fO{P:Program}{G:fy}(hG:jc G){f:FuncId}{args args':List AV}{v v':AV}{sz:Nat}{b b':Bool}{xs xs':List AV}{os os':List AObj}(id:Nat)(hx:az xs=0)(hx':az xs'=0)
  (h0:aN P G f args (aw [.row sz b 0 xs]) (fun v1 h1=>v1=v/\h1=aw [.row sz b' 0 xs']))(ea:mB (gy [id]) args=args')(ev:Ev.ren (gy [id]) v=v')(c:Nat.blt id 1000000=true)
  (ht:Nat.ble (az args) 1=true)(hv:Nat.ble v.top 1=true)(a1:(aw os).get id=some (.row sz b 0 xs))(a3:aw os'=(aw os).put id (.row sz b' 0 xs')):aN P G f args' (aw os) (fun v1 h1=>v1=v'/\h1=aw os'):=
 qq hG [id] h0 ea ev (by simp only[Ax,jq,List.all_cons,List.all_nil,c];rfl) ⟨⟨rfl,by grind[AObj.top]⟩,trivial⟩ ⟨⟨rfl,by grind[AObj.top]⟩,trivial⟩ (v8 ht) (v8 hv)
  ⟨by rw[ww hx];exact a1,trivial⟩ ⟨rfl,trivial⟩ (by rw[a3];show _=AHeap.put _ _ (kF _ _);rw[ww hx'];rfl)
def lu(u:TUnit)(ks:List TUnit):TUnit:=⟨u.act,u.item,u.n,u.kind,u.label,u.head,u.words,ks⟩
def jN(w:List PWord)(u:TUnit):TUnit:=⟨u.act,u.item,u.n,u.kind,u.label,u.head,w,u.kids⟩
def rl(w:List PWord)(u:TUnit):TUnit:=⟨u.act,u.item,u.n,u.kind,u.label,w,u.words,u.kids⟩
def ji(s:au)(u:TUnit):TUnit:=⟨u.act,u.item,u.n,u.kind,s,u.head,u.words,u.kids⟩
def rh(i:Nat)(x:TUnit)(l:List TUnit):List TUnit:=l.take i++(x::l.drop i)
def fu(i:Nat)(u:TUnit):TUnit:=lu u (u.kids.eraseIdx i)
def dV(i:Nat)(x:TUnit)(u:TUnit):TUnit:=lu u (rh i x u.kids)
mutual
def cK(p:PId)(f:TUnit->TUnit):TUnit->TUnit
 |⟨a,i,n,k,l,h,w,ks⟩=>bif eD p ⟨a,i,n,k,l,h,w,ks⟩then f ⟨a,i,n,k,l,h,w,ks⟩else⟨a,i,n,k,l,h,w,dB p f ks⟩
def dB(p:PId)(f:TUnit->TUnit):List TUnit->List TUnit
 |[]=>[]
 |k::r=>bif bX p k then cK p f k::r else k::dB p f r
end
section
variable{p:PId}{f:TUnit->TUnit}{u w:TUnit}{l r:List TUnit}{i:Nat}
theorem GW(p:PId)(f:TUnit->TUnit)(u:TUnit):cK p f u=bif eD p u then f u else lu u (dB p f u.kids):=by cases u;rw[cK];rfl
theorem nY:dB p f []=[]:=by rw[dB]
theorem iK(k:TUnit)(r:List TUnit):dB p f (k::r)=bif bX p k then cK p f k::r else k::dB p f r:=by rw[dB]
theorem m0(h:eD p u=true):cK p f u=f u:=by rw[GW,h];rfl
theorem jS(h:eD p u=false):cK p f u=lu u (dB p f u.kids):=by rw[GW,h];rfl
def jB(p:PId)(f:TUnit->TUnit)(l:List TUnit)(i:Nat)(r:List TUnit):Prop:=dB p f l=l.take i++dB p f r
theorem jB.start:jB p f l 0 l:=rfl
theorem jB.skip(h:jB p f l i (w::r))(hd:l.drop i=w::r)(hw:bX p w=false):jB p f l (i+1) r:=by
 unfold jB at *;have hi:i<l.length:=by grind[List.drop_eq_nil_of_le]
 have e:l[i]=w:=by
  have:=congrArg (·[0]?) hd;grind
 grind[iK]
theorem jB.hit(h:jB p f l i (w::r))(hd:l.drop i=w::r)(hw:bX p w=true):dB p f l=l.set i (cK p f w):=by
 unfold jB at h;have hi:i<l.length:=by grind[List.drop_eq_nil_of_le]
 rw[h,iK,hw,List.set_eq_take_append_cons_drop,if_pos hi];have:l.drop (i+1)=r:=by rw[<-Cn,hd];rfl
 simp_all
theorem jB.done(h:jB p f l i [])(hd:l.drop i=[]):dB p f l=l:=by simp_all[jB,nY,Cm]
theorem za:∀(u:TUnit),bX p u=false->cK p f u=u:=TUnit.ind fun u ih h=>by
 have hw:=uZ h;rw[fF]at hw;cases hi:eD p u with
 |true=>grind
 | false=>
  rw[hi]at hw;simp only[cond_false]at hw;have key:∀(r:List TUnit),(∀k,k∈r->k∈u.kids)->be p r=[]->dB p f r=r:=by
   intro r;induction r with
   |nil=>grind[nY]
   |cons k r ihr=>
    intro hm hr;cases hk:bX p k with
    |true=>grind[nq,jl]
    |false=>simp_all[fQ,iK]
  have hk:be p u.kids=[]:=by grind
  rw[jS hi,key u.kids (fun _ h=>h) hk];cases u;rfl
end
end Go.Ev
namespace Go.Ev
open Go
noncomputable def bB(n:Nat):AV:=.int .i64 (.ofNat n)
theorem Yl(n:Nat):(bB n).top=0:=rfl
section
variable{l part:List au}{i:Nat}{acc:List Nat}
def n7(l part:List au)(i:Nat)(acc:List Nat):Prop:=acc.length<=i/\i<=l.length+part.length/\∃f,tC l part=acc++we part f l i/\l.length<i+f
theorem n7.start(hp:0<part.length):n7 l part 0 []:=by
 refine⟨af _,b8 _,l.length+1,?_,by omega⟩;unfold tC;grind
theorem L2{f:Nat}(hi:i+part.length<=l.length):we part (f+1) l i=bif dl dH ((l.take (i+part.length)).drop i) part then i::we part f l (i+part.length)else we part f l (i+1):=by
 have e:(l.take (i+part.length)).drop i=(l.drop i).take part.length:=by grind
 rw[we,uf hi,e];rfl
theorem n7.skip(h:n7 l part i acc)(hi:i+part.length<=l.length)(hp:0<part.length)(hm:dl dH ((l.take (i+part.length)).drop i) part=false):n7 l part (i+1) acc:=by
 obtain⟨h1,h2,f,h3,h4⟩:=h;cases f with
 |zero=>omega
 |succ f=>rw[L2 hi,hm]at h3;exact⟨by omega,by omega,f,h3,by omega⟩
theorem n7.hit(h:n7 l part i acc)(hi:i+part.length<=l.length)(hp:0<part.length)(hm:dl dH ((l.take (i+part.length)).drop i) part=true):n7 l part (i+part.length) (acc++[i]):=by
 obtain⟨h1,h2,f,h3,h4⟩:=h;cases f with
 |zero=>omega
 |succ f=>
  rw[L2 hi,hm]at h3;exact⟨by grind,by omega,f,by simp_all,by omega⟩
theorem n7.done(h:n7 l part i acc)(hi:l.length<i+part.length):tC l part=acc:=by
 obtain⟨h1,h2,f,h3,h4⟩:=h;cases f with
 |zero=>grind[we]
 |succ f=>grind[we,ba]
theorem n7.len(h:n7 l part i acc):acc.length<=l.length+part.length:=bu h.1 h.2.1
end
def rN(g:Nat):List Nat->Nat->Nat->Prop
 |[],_,_=>True
 |p::r,lo,n=>lo<=p/\p+g<=n/\rN g r (p+g) n
theorem tu(part:List au)(hp:0<part.length):∀(f:Nat)(l:List au)(i:Nat),rN part.length (we part f l i) i l.length
 |0,l,i=>by rw[we];trivial
 | f+1,l,i=>by
  rw[we];have key:∀(m:List Nat)(a b n:Nat),a<=b->rN part.length m b n->rN part.length m a n:=by
   intro m;cases m with
   |nil=>intro _ _ _ _ _;trivial
   |cons p r=>intro a b n h ⟨h1,h2,h3⟩;exact⟨bu h h1,h2,h3⟩
  cases hb:Nat.ble (i+part.length) l.length with
  |false=>trivial
  |true=>
   rw[ba]at hb;have hb:=of_decide_eq_true hb;simp only[cond_true];cases dl dH ((l.drop i).take part.length) part with
   |true=>exact⟨af _,hb,tu part hp f l _⟩
   |false=>exact key _ _ _ _ (n9 i) (tu part hp f l (i+1))
theorem DW(l part:List au):rN part.length (tC l part) 0 l.length:=by
 unfold tC;cases part with
 |nil=>trivial
 |cons x r=>exact tu (x::r) (Nat.succ_pos _) _ l 0
def pj(g:Nat)(l:List Nat)(n:Nat):Prop:=∀i,i<l.length->gD l i+g<=n/\∀j,j<i->gD l j+g<=gD l i
theorem BI{g n:Nat}:∀{l:List Nat}{lo:Nat},rN g l lo n->pj g l n
 |[],_,_=>fun i hi=>absurd hi (qL _)
 | p::r,lo,⟨h1,h2,h3⟩=>by
  have low:∀(m:List Nat)(a:Nat),rN g m a n->∀i,i<m.length->a<=gD m i:=by
   intro m;induction m with
   |nil=>simp_all
   |cons q m ih=>
    intro a ⟨k1,k2,k3⟩ i hi;cases i with
    |zero=>exact k1
    |succ i=>have:=ih _ k3 i (by simp_all);grind[gD]
  intro i hi;cases i with
  |zero=>exact⟨h2,fun j hj=>absurd hj (qL _)⟩
  |succ i=>
   have hi':i<r.length:=by simp_all
   obtain⟨k1,k2⟩:=BI h3 i hi';refine⟨k1,fun j hj=>?_⟩;cases j with
   |zero=>exact low r _ h3 i hi'
   |succ j=>exact k2 j (by omega)
def gx(at_ g:Nat)(m l:List PWord):List PWord:=l.take at_++m++l.drop (at_+g)
def qA(a b:Int)(g:Nat)(ps:List Nat)(fresh:List au):Nat->List PWord->List PWord
 |0,l=>l
 |i+1,l=>qA a b g ps fresh i (gx (gD ps i) g (ce a b fresh (i*fresh.length)) l)
theorem N5{at_ g:Nat}{m l:List PWord}(h:at_+g<=l.length):(gx at_ g m l).length+g=l.length+m.length:=by grind[gx]
structure PutI(a b:Int)(g:Nat)(ps:List Nat)(fresh:List au)(w:List PWord)(i:Nat)(l:List PWord):Prop where
 le:i<=ps.length
 all:qA a b g ps fresh ps.length w=qA a b g ps fresh i l
 room:∀j,j<i->gD ps j+g<=l.length
 small:l.length<=w.length+(ps.length-i)*fresh.length
theorem PutI.start{a b:Int}{g:Nat}{ps:List Nat}{fresh:List au}{w:List PWord}(h:pj g ps w.length):PutI a b g ps fresh w ps.length w:=⟨af _,rfl,fun j hj=>(h j hj).1,by omega⟩
theorem PutI.step{a b:Int}{g:Nat}{ps:List Nat}{fresh:List au}{w l:List PWord}{i:Nat}(hg:pj g ps w.length)(h:PutI a b g ps fresh w (i+1) l):PutI a b g ps fresh w i (gx (gD ps i) g (ce a b fresh (i*fresh.length)) l):=by
 have hr:=h.room i (Nat.lt_succ_self i);have hl:=N5 (m:=ce a b fresh (i*fresh.length)) hr;rw[fg]at hl;have hle:=h.le;refine⟨by omega,h.all,fun j hj=>?_,?_⟩
 ·have:=(hg i (by omega)).2 j hj;grind
 ·have hs:=h.small;have e:(ps.length-i)*fresh.length=(ps.length-(i+1))*fresh.length+fresh.length:=by rw[show ps.length-i=(ps.length-(i+1))+1 by omega,qw]
  omega
theorem PutI.done{a b:Int}{g:Nat}{ps:List Nat}{fresh:List au}{w l:List PWord}(h:PutI a b g ps fresh w 0 l):qA a b g ps fresh ps.length w=l:=h.all
theorem PutI.len{a b:Int}{g:Nat}{ps:List Nat}{fresh:List au}{w l:List PWord}{i:Nat}(h:PutI a b g ps fresh w i l)(h1:w.length<=2^18)(h2:ps.length<=2^9)(h3:fresh.length<=2^9):l.length<=2^19:=by
 have:=h.small;have:(ps.length-i)*fresh.length<=2^9*2^9:=Nat.mul_le_mul (by omega) h3;omega
section
variable{sz b id n n' k l h m:Nat}{H:AHeap}{xs ys zs:List AV}{t:Bool}{x z:AV}{vl:Option AV}
theorem Ji(hh:pM sz xs=true)(h1:jt 0 vl=some l)(h2:gj x=some h)(h3:gj z=some h)(q1:l<=h)(q2:h<=xs.length)(e:(xs.take h).drop l=ys):bA H (di sz H (some (.ps xs t)) vl (some x) (some z))=some (.val (.ps ys true) H):=by simp_all[uf,di,gp,vo,bA]
theorem QY(hh:pM sz xs=true)(h1:gj x=some l)(q1:l<=xs.length)(e:xs.drop l=ys):bA H (di sz H (some (.ps xs false)) (some x) none none)=some (.val (.ps ys false) H):=by
 have p2:Nat.ble l xs.length=true:=uf q1;have p3:Nat.ble xs.length xs.length=true:=uf (af _);simp only[di,gp,hh,jt,h1,vo,p2,p3,zY,List.take_length,e,Bool.false_and,bA]
theorem aat(hf:eX sz xs=true)(hf2:eX sz ys=true)(hne:ys≠[])(hs:small (xs.length+ys.length) b=true)(e:xs++ys=zs)(e2:zs.length=n):fG (du sz b H (some (.ps xs true)) (some (.ls ys)))=some (.val (.slice H.n 0 0 n none) (H.push (.row sz true 0 zs))):=by
 cases ys with
 |nil=>simp_all
 |cons y r=>simp_all[du,gT,lU,lW,ii,i7,fG]
theorem Tj(e:ys=[]):fG (du sz b H (some (.ps xs true)) (some (.ls ys)))=some (.val (.ps xs true) H):=by subst e;rfl
def uB:List AV->Nat
 |[]=>0
 |_::_=>1
theorem Wz(hg:H.get id=some (.row sz true 0 xs))(hp:H.put id (.row sz true 0 xs)=H)(hf:eX sz ys=true)(hl:xs.length=n)(hs:small (n+ys.length) b=true)(e:xs++ys=zs)(e2:zs.length=n'):
  fG (du sz b H (some (.slice id 0 0 n none)) (some (.ps ys t)))=some (.val (.slice id (uB ys) 0 n' none) (H.put id (.row sz true (uB ys) zs))):=by
 cases ys with
 |nil=>
  rw[eF]at e;subst e;simp only[uB,hp,<-e2,hl];rfl
 |cons y r=>
  have p1:Nat.beq 0 0=true:=rfl;have p2:Nat.beq sz sz=true:=qH sz;have p4:xs.take n=xs:=Cm (by omega);have p5:n+(y::r).length=n':=by grind
  have p3:Nat.ble n' xs.length=false:=by grind[ba]
  rw[p5]at hs;simp only[du,gT,lU,lW,ii,hf,hg,p1,p2,hs,zY,p3,p4,e,p5,uB,fG,gn]
theorem Tx(hf:eX sz xs=true)(hf2:eX sz ys=true)(hne:ys≠[])(hs:small (xs.length+ys.length) b=true)(e:xs++ys=zs)(e2:zs.length=n):fG (du sz b H (some (.ps xs true)) (some (.ps ys t)))=some (.val (.slice H.n 0 0 n none) (H.push (.row sz true 0 zs))):=by
 cases ys with
 |nil=>simp_all
 |cons y r=>simp_all[du,gT,lU,lW,ii,i7,fG]
end
def nC(l:List Nat)(n:Int):List Nat:=bif aa n 0 then l else bif aL (Int.ofNat l.length) n then[]else(l.take n.toNat).drop (n.toNat-1)
theorem Vn{l:List Nat}{a b i:Nat}(h:i<((l.take b).drop a).length):gD ((l.take b).drop a) i=gD l (a+i):=by grind[gD]
theorem Ou{g n a b:Nat}{l:List Nat}(h:pj g l n):pj g ((l.take b).drop a) n:=by
 intro i hi;have hl:((l.take b).drop a).length<=l.length-a:=by grind
 obtain⟨h1,h2⟩:=h (a+i) (by omega);grind[Vn]
theorem HM{g n:Nat}{l:List Nat}{k:Int}(h:pj g l n):pj g (nC l k) n:=by
 unfold nC;cases aa k 0 with
 |true=>grind
 |false=>
  cases aL (Int.ofNat l.length) k with
  |true=>exact fun i hi=>absurd hi (qL _)
  |false=>exact Ou h
theorem G9(l:List Nat)(k:Int):(nC l k).length<=l.length:=by
 unfold nC;grind
theorem D6{g n:Nat}(hg:0<g):∀{l:List Nat}{lo:Nat},rN g l lo n->lo<=n->l.length+lo<=n
 |[],lo,_,h=>by simp_all
 |p::r,lo,⟨h1,h2,h3⟩,_=>by have:=D6 hg h3 h2;grind
theorem L1(l part:List au):(tC l part).length<=l.length:=by
 cases part with
 |nil=>exact b8 _
 |cons x r=>have:=D6 (Nat.succ_pos _) (DW l (x::r)) (b8 _);omega
theorem G8(l part:List au):pj part.length (tC l part) l.length:=BI (DW l part)
def yf(c i:Nat)(l:List Nat):List Nat:=(l.take i).map (· +c)++l.drop i
theorem Tu(c i:Nat)(l:List Nat):(yf c i l).length=l.length:=by grind[yf]
theorem Wd{c i:Nat}{l:List Nat}(h:i<l.length):gD (yf c i l) i=gD l i:=by
 unfold yf gD List.getD;grind
theorem Pz{c i:Nat}{l:List Nat}(h:i<l.length):(yf c i l).set i (gD l i+c)=yf c (i+1) l:=by
 unfold yf;have h1:((l.take i).map (· +c)).length=i:=by grind
 rw[List.set_append_right _ _ (by omega),h1,Nat.sub_self,Po h,List.set_cons_zero,Pp h,sH];grind[gD]
theorem Pq{c n:Nat}{l m:List Nat}(h:l.length=n):(yf c n (l++m)).take n=l.map (· +c):=by grind[yf]
theorem KW{c i:Nat}{l:List Nat}(h:i<l.length):gD (l.map (· +c)) i=gD l i+c:=by grind[gD]
theorem R6{c n:Nat}{l:List Nat}(h:pj c l n):pj 0 (l.map (· +c)) n:=by
 intro i hi;rw[cJ]at hi;obtain⟨h1,h2⟩:=h i hi;grind[KW]
def rq(l:List PWord):List PWord:=bif aL 256 (Int.ofNat l.length)then[]else l
def AW(l:List PWord):Int:=bif aL 256 (Int.ofNat l.length)then 6 else 0
def ya(a b:Int)(g:Nat)(ps:List Nat)(fresh:List au)(w:List PWord):List PWord×Int:=(rq (qA a b g ps fresh ps.length w),AW (qA a b g ps fresh ps.length w))
def z8(a b:Int)(w:List PWord)(old new:List au)(n:Int):List PWord×Int:=bif aa (Int.ofNat old.length) 0 then([],1)else bif aa (Int.ofNat (nC (tC (b9 w) old) n).length) 0 then([],4)else ya a b old.length (nC (tC (b9 w) old) n) new w
def AO(a b:Int)(w:List PWord)(part new:List au)(n:Int):List PWord×Int:=
 bif aa (Int.ofNat new.length) 0||(aa (Int.ofNat part.length) 0&&aj (aa n 0))then([],1)
 else bif aa (Int.ofNat part.length) 0 then ya a b 0 [0] new w
 else bif aa (Int.ofNat (nC (tC (b9 w) part) n).length) 0 then([],4)else ya a b 0 ((nC (tC (b9 w) part) n).map (· +part.length)) new w
def kE(x k:TUnit):Bool:=aa k.kind x.kind&&dH k.label x.label
def ld(p x:TUnit):Int:=bif iz p.kind x.kind then(bif p.kids.any (kE x)then 10 else 0)else 9
def yZ(u:TUnit)(p:PId)(x:TUnit):Bool:=aL 8 (Int.ofNat ((pJ p u).length+1+gd x))
abbrev qE:=TUnit×Int
def Om(u:TUnit)(te:Int)(full cf:Bool)(u2:TUnit):qE:=bif aa te 0 then(bif full then(u,6)else bif cf then(u,5)else(u2,0))else(u,te)
def GQ(u:TUnit)(e:Int)(u2:TUnit):qE:=bif aa e 0 then(u2,0)else(u,e)
def Um(u:TUnit)(te:Int)(u2:TUnit):qE:=bif aa te 10 then(u,10)else(u2,0)
def RK(u:TUnit)(te:Int)(full:Bool)(u2:TUnit):qE:=bif aa te 0 then(bif full then(u,6)else(u2,0))else(u,te)
def Ie(e1 e2:Int)(sp:PSpot)(e3:Int):PSpot×Int:=bif aa e1 0 then(bif aa e2 0 then(bif aa e3 0 then(sp,0)else(eb,e3))else(eb,e2))else(eb,e1)
noncomputable def fx(r:qE):AV:=.tuple [eU r.1,.int .i64 r.2]
theorem oa{p:PId}{u:TUnit}(h:bX p u=true):ch p u∈bv u/\am (ch p u)=p:=by grind[PG,T3,Dm]
theorem sU(l m:List TUnit):bG (l++m)=bG l++bG m:=by
 induction l with
 |nil=>rw[lF];rfl
 |cons k r ih=>grind[dS]
theorem ri(u:TUnit)(l:List TUnit):de (lu u l)=am u::bG l:=by rw[ib];rfl
theorem kL(u:TUnit):nU u=(de u).length:=(vw u).symm
theorem xf(u:TUnit)(l:List TUnit):bv (lu u l)=lu u l::dD l:=by rw[da];rfl
theorem tV{q:PId}:∀(u:TUnit),bX q u=true->∃v C,v∈bv u/\am v=q/\(de u).Perm (C++de v)/\∀f,(de (cK q f u)).Perm (C++de (f v))/\
  ∀x,x∈bv (cK q f u)->x∈bv (f v)\/∃y,y∈bv u/\am x=am y/\x.kids.length=y.kids.length/\x.head=y.head/\x.words=y.words:=TUnit.ind fun u ih h=>by
 cases hi:eD q u with
 |true=>
  refine⟨u,[],cX u,(gV q u).1 hi,List.Perm.refl _,fun f=>?_⟩;grind[m0]
 | false=>
  have key:∀(r:List TUnit),(∀k,k∈r->k∈u.kids)->be q r≠[]->∃v C,v∈dD r/\am v=q/\(bG r).Perm (C++de v)/\∀f,(bG (dB q f r)).Perm (C++de (f v))/\(dB q f r).length=r.length/\
    ∀x,x∈dD (dB q f r)->x∈bv (f v)\/∃y,y∈dD r/\am x=am y/\x.kids.length=y.kids.length/\x.head=y.head/\x.words=y.words:=by
   intro r;induction r with
   |nil=>grind[kJ]
   | cons k r ihr=>
    intro hm hw;cases hk:bX q k with
    | true=>
     obtain⟨v,C,h1,h2,h3,h4⟩:=ih k (hm k (ef ..)) hk;refine⟨v,C++bG r,by grind[b7],h2,?_,fun f=>?_⟩
     ·grind[dS]
     ·have e:dB q f (k::r)=cK q f k::r:=by rw[iK,hk];rfl
      rw[e];refine⟨?_,rfl,fun x hx=>?_⟩
      ·grind[dS]
      ·rw[b7]at hx;rcases mZ.1 hx with hx|hx
       ·grind[b7]
       ·exact .inr ⟨x,by grind[b7],rfl,rfl,rfl,rfl⟩
    |false=>
     rw[fQ hk]at hw;obtain⟨v,C,h1,h2,h3,h4⟩:=ihr (fun x hx=>hm x (dA _ hx)) hw;refine⟨v,de k++C,by grind[b7],h2,by grind[dS],fun f=>?_⟩;have e:dB q f (k::r)=k::dB q f r:=by rw[iK,hk];rfl
     rw[e];refine⟨by grind[dS],by simp_all,fun x hx=>?_⟩;rw[b7]at hx;rcases mZ.1 hx with hx|hx
     ·exact .inr ⟨x,by grind[b7],rfl,rfl,rfl,rfl⟩
     grind[b7]
  have hw:be q u.kids≠[]:=by
   intro e;have:=jl h;rw[fF,hi,e]at this;simp_all
  obtain⟨v,C,h1,h2,h3,h4⟩:=key u.kids (fun _ h=>h) hw;refine⟨v,am u::C,by grind[da],h2,by grind[ib],fun f=>?_⟩;rw[jS hi];refine⟨by grind[ri],fun x hx=>?_⟩;rw[xf]at hx;rcases dP.1 hx with rfl|hx
  ·exact .inr ⟨u,cX u,rfl,(h4 f).2.1,rfl,rfl⟩
  grind[da]
theorem oH{p:PId}:∀(u:TUnit),iZ p u=true->∃q i,q∈bv u/\rx p u=am q/\rj p u=Int.ofNat i/\i<q.kids.length/\am (gD q.kids i)=p:=TUnit.ind fun u ih h=>by
 have hh:bX p u=true:=by
  cases e:bX p u with
  |true=>rfl
  |false=>grind[RP]
 cases hi:eD p u with
 |true=>
  unfold iZ at h;rw[lP hi]at h;cases h
 | false=>
  have key:∀(r:List TUnit),be p r≠[]->∃j k,j<r.length/\gD r j=k/\bX p k=true/\be p r=aE p k/\∀n,eZ (bX p) r n=Int.ofNat (n+j):=by
   intro r;induction r with
   |nil=>grind[kJ]
   | cons k r ihr=>
    intro hw;cases hk:bX p k with
    |true=>
     refine⟨0,k,Nat.succ_pos _,rfl,hk,nq hk,fun n=>?_⟩;unfold eZ;simp_all
    | false=>
     rw[fQ hk]at hw;obtain⟨j,k2,h1,h2,h3,h4,h5⟩:=ihr hw;refine⟨j+1,k2,by simp_all,h2,h3,by grind[fQ],fun n=>?_⟩;have e:eZ (bX p) (k::r) n=eZ (bX p) r (n+1):=by
      show(bif bX p k then _ else _)=_
      simp_all
     grind
  have hw:be p u.kids≠[]:=by
   intro e;have:=jl hh;rw[fF,hi,e]at this;simp_all
  obtain⟨j,k,h1,h2,h3,h4,h5⟩:=key u.kids hw;obtain⟨y,t,e⟩:=pN h3;have hway:aE p u=u::aE p k:=by rw[fF,hi,h4,e];rfl
  have hkm:k∈u.kids:=h2▸gc h1;rw[JF h,JG h];cases hk:iZ p k with
  | true=>
   obtain⟨q,i,q1,q2,q3,q4,q5⟩:=ih k hkm hk;rw[JF hk]at q2;rw[JG hk]at q3;have e2:Ja p u=Ja p k:=by
    unfold Ja;rw[hway];have:2<=(aE p k).length:=by
     unfold iZ at hk;cases hl:aL (Int.ofNat (aE p k).length) 2 with
     |true=>grind
     |false=>have:=aG hl;grind
    show gD (u::aE p k) ((aE p k).length+1-2)=_
    rw[show(aE p k).length+1-2=((aE p k).length -2)+1 by omega];rfl
   grind[bj]
  | false=>
   have hl:(aE p k).length=1:=by
    unfold iZ at hk;cases hl:aL (Int.ofNat (aE p k).length) 2 with
    |false=>grind
    |true=>have:=ap hl;grind
   have hik:eD p k=true:=by
    cases hik:eD p k with
    |true=>rfl
    |false=>
     rw[fF,hik]at hl e;grind
   have e2:Ja p u=u:=by
    unfold Ja;rw[hway];show gD (u::aE p k) ((aE p k).length+1-2)=_
    rw[hl];rfl
   rw[e2,h5 0,gn];exact⟨u,j,cX u,rfl,rfl,h1,by grind[gV]⟩
theorem Vl{p:PId}{u:TUnit}(h:bX p u=true)(hi:eD p u=false):iZ p u=true:=by
 have hw:aE p u≠[]:=jl h;have e:aE p u=match be p u.kids with|[]=>[]|y::t=>u::y::t:=by rw[fF,hi];rfl
 unfold iZ;rw[e]at hw ⊢;cases ew:be p u.kids with
 |nil=>simp_all
 |cons y t=>
  show aj (aL (Int.ofNat (u::y::t).length) 2)=true
  rw[jI (by grind)];rfl
theorem Vg{v:TUnit}{i:Nat}(h:i<v.kids.length):(de v).Perm (de (fu i v)++de (gD v.kids i)):=by
 unfold fu;rw[ib v,ri,Pm,sU];have e:v.kids=v.kids.take i++(gD v.kids i::v.kids.drop (i+1)):=by grind[gD,List.drop_eq_getElem_cons,List.take_append_drop]
 grind[sU,dS]
theorem Vf{v x:TUnit}{i:Nat}:(de (dV i x v)).Perm (de v++de x):=by
 unfold dV rh;rw[ib v,ri,sU,dS,zx];grind[List.take_append_drop,sU]
section
variable{P:Program}{G:fy}{call:cA}{m:Nat}{c:Code}{d:D}{s s':St}{ops:Array Oper}{h h':AHeap}{o:AObj}{f:FuncId}{args:List AV}{v u:AV}{pl pl':Pl}{M M':dT}{w w':World}
theorem cN.psh(g2:cN pl M h w):cN pl M (h.push o) w:=
 ⟨fun id p hp=>Nat.lt_succ_of_lt (g2.dom id p hp),(fun id p o' hp hg=>by
  rcases dg hg with⟨rfl,_⟩|⟨_,h2⟩
  ·exact absurd (g2.dom _ p hp) (xZ _)
  ·exact g2.obj id p o' hp h2),g2.blk,g2.inj,g2.imm,g2.sep⟩
theorem dQ.psh(g2:cN pl M h w)(g4:dQ h pl M w h' pl' M' w')(g2':cN pl' M' h' w'):dQ h pl M w (h'.push o) pl' M' w':=
 ⟨g4.ext,g4.new,g4.mem,g4.size,g4.kept,g4.blks,(fun id p hp hg=>by
  have:=g4.live id p hp hg;cases hh:(h'.push o).get id with
  |none=>rfl
  |some o'=>
   rcases dg hh with⟨rfl,_⟩|⟨_,h2⟩
   ·obtain⟨p',e1,_⟩:=g4.ext _ p hp;exact absurd (g2'.dom _ p' e1) (xZ _)
   simp_all),g4.stay,g4.memNew,g4.os,g4.tape,g4.out,g4.drawn⟩
theorem aN.psh(h0:aN P G f args h (fun v1 h1=>v1=v/\h1=h'))(hl:Le u v):aN P G f args h (fun v1 h1=>v1=u/\h1=h'.push o):=by
 intro pl M w vs hg hr hv;have key:∀{cv w'},iD pl M h w v h' cv w'->iD pl M h w u (h'.push o) cv w':=fun⟨pl',M',k1,k2,k3,k4⟩=>⟨pl',M',hl _ _ _ k1,cN.psh k2,dQ.psh hr k3 k2,Nat.le_succ_of_le k4⟩
 rcases h0 pl M w vs hg hr hv with⟨h1,h2⟩|⟨cv,w',v',h'',h1,⟨rfl,rfl⟩,h3⟩
 ·exact .inl ⟨h1,Calls.mono h2 fun e w' ⟨cv,v',h'',k1,⟨k2,k2'⟩,k3⟩=>⟨cv,u,h'.push o,k1,⟨rfl,rfl⟩,by simp_all⟩⟩
 ·exact .inr ⟨cv,w',u,_,h1,⟨rfl,rfl⟩,key h3⟩
theorem LY{Ψ Ψ':AV->AHeap->Prop}(o:AObj)(h0:aN P G f args h Ψ)(hΨ:∀v h',Ψ v h'->∃u,Le u v/\Ψ' u (h'.push o)):aN P G f args h Ψ':=by
 intro pl M w vs hg hr hv;have key:∀{v u h' cv w'},Le u v->iD pl M h w v h' cv w'->iD pl M h w u (h'.push o) cv w':=fun hl ⟨pl',M',k1,k2,k3,k4⟩=>⟨pl',M',hl _ _ _ k1,cN.psh k2,dQ.psh hr k3 k2,Nat.le_succ_of_le k4⟩
 rcases h0 pl M w vs hg hr hv with⟨h1,h2⟩|⟨cv,w',v',h'',h1,h2,h3⟩
 ·refine .inl ⟨h1,Calls.mono h2 fun e w' ⟨cv,v',h'',k1,k2,k3⟩=>?_⟩;grind
 ·obtain⟨u,q1,q2⟩:=hΨ _ _ h2;exact .inr ⟨cv,w',u,_,h1,q2,key q1 h3⟩
theorem Qc(pl:Pl)(M:dT)(p:Place)(x:Option Obj):bm pl M p .dead x:=by cases x<;>trivial
theorem aN.dead{i:Nat}{Ψ Ψ':AV->AHeap->Prop}(h0:aN P G f args h Ψ)(hi:h.n<=i)(hm:i<1000000)(hΨ:∀v h',Ψ v h'->Ψ' v (h'.put i .dead)):aN P G f args h Ψ':=by
 intro pl M w vs hg hr hv;have key:∀{v h' cv w'},iD pl M h w v h' cv w'->iD pl M h w v (h'.put i .dead) cv w':=fun⟨pl',M',k1,k2,k3,k4⟩=>⟨pl',M',k1,⟨k2.dom,(fun id p o hp hg=>by
  rcases AHeap.get_put hm hg with⟨_,rfl⟩|⟨_,h2⟩
  ·grind[Qc]
  ·exact k2.obj id p o hp h2),k2.blk,k2.inj,k2.imm,k2.sep⟩,⟨k3.ext,k3.new,k3.mem,k3.size,k3.kept,k3.blks,(fun id p hp hg=>by
   have hl:=hr.dom id p hp;have hn:=k3.live id p hp hg;cases hh:AHeap.get (AHeap.put _ i .dead) id with
   |none=>rfl
   |some o'=>grind[AHeap.get_put]),k3.stay,k3.memNew,k3.os,k3.tape,k3.out,k3.drawn⟩,k4⟩
 rcases h0 pl M w vs hg hr hv with⟨h1,h2⟩|⟨cv,w',v',h'',h1,h2,h3⟩
 ·exact .inl ⟨h1,Calls.mono h2 fun e w' ⟨cv,v',h'',k1,k2,k3⟩=>⟨cv,v',h''.put i .dead,k1,hΨ _ _ k2,key k3⟩⟩
 ·exact .inr ⟨cv,w',v',_,h1,hΨ _ _ h2,key h3⟩
end
section
variable{P:Program}{G:fy}{ops:Array Oper}{o:Oper}{l:List Oper}{s:St}{b:Option Nat}
theorem yU{t tx e:TypeId}{i:TypeInfo}{sz bt:Nat}(hsz:i.size=sz)(hbt:i.bytes=bt){z z0:AV}{sO xO:Operand}{dst:Option Tmp}{ty:TypeId}{pos:String}{after:Array Edge}{guard:Option (Nat×Bool)}{xs:List AV}
  (ht:P.underlying t=some (.slice e))(hk:∃e',P.underlying tx=some (.slice e'))(hi:P.info? e=some i)(hz:iS P e=some z0)(hzl:Le z z0)
  (hs:(cE G sO).run s.tmps=some (.ps [] true))(hx:(cE G xO).run s.tmps=some (.ls xs))(hne:xs≠[])(hfit:eX sz xs=true)(hzf:eX sz [z]=true)(hsm:small xs.length bt=true)(hs0:0<sz)
  (pl:Pl)(M:dT)(a:Act)(w:World)(g1:qr G pl M)(g2:cN pl M s.heap w)(g3:FrRel pl M s.tmps a):
  ∃(k:Nat)(pl':Pl)(M':dT)(cv:Value)(w':World),k=0/\(execOp a.eval ⟨dst,.call ⟨.builtin .append,#[sO,xO],#[t,tx]⟩,ty,pos,after,guard⟩).run P w=.ok (.value cv) w'/\
   VRel pl' M' (.slice s.heap.n 0 0 xs.length none) cv/\cN pl' M' (s.heap.push (.row sz true 0 xs)) w'/\dQ s.heap pl M w (s.heap.push (.row sz true 0 xs)) pl' M' w'/\s.heap.n<=(s.heap.push (.row sz true 0 xs)).n:=by
 subst hsz;subst hbt;have hsr:=bq g1 g3 hs;have hxr:=bq g1 g3 hx;obtain⟨news,hsrc⟩:=zB (P:=P) g2 hxr (show lU s.heap (.ls xs)=some xs from rfl) hne hfit;obtain⟨i2,zv,hz1,hz2,hz3⟩:=nK hz;rw[hi]at hz1;cases hz1
 obtain⟨b1,b2⟩:=j4 hsm;have hpos:0<xs.length:=qN.2 hne;generalize hq:a.eval sO=cs at hsr;generalize hq2:a.eval xO=cx at hxr hsrc;cases hsr with
 | ps hl htt hm hs2 hc=>
  rename_i ad cap sz c;have hcap:cap=0:=htt rfl;subst hcap;have hzr:=hzl _ _ _ (dn (pl:=pl) (M:=M) hz3);have hzt:=mP hzf z (by simp);have hzsz:zv.cells.size=i.size:=by rw[<-hzr.cells.len];omega
  have hrun:=run_append_grow_src (P:=P) w t tx ty e i zv ht hi hz2 (some ad) 0 0 [] (by simp[Builtin.firstCells,loadCells,loadCellsFrom]) cx xs.length news (hsrc.src (.inl hk)) (by omega) (by omega) (growslice_fits (by omega) (by grind));have hge:=grownCap_ge w (0+xs.length) 0 e;obtain⟨C,hC⟩:∃C,C=grownCap w (0+xs.length) 0 e:=⟨_,rfl⟩
  rw[<-hC]at hrun hge;have hin:=ft hzr hzt.2 (C-(0+xs.length)) hzt.1 hs0;have hzl:(Builtin.zeroCells zv.cells (C-(0+xs.length))).toList.toArray=(Array.range ((C-(0+xs.length))*i.size)).map (zv.cells[· %zv.cells.size]!):=by grind[Builtin.zeroCells]
  have hnl:(Builtin.zeroCells zv.cells (C-(0+xs.length))).toList.length=(List.replicate (C-(0+xs.length)) z).length *i.size:=by grind[Builtin.zeroCells]
  have hin2:=kO (news:=(Builtin.zeroCells zv.cells (C-(0+xs.length))).toList) hsrc.mem (by grind) hsrc.newsLen hnl #[];have hce:(news++(Builtin.zeroCells zv.cells (C-(0+xs.length))).toList).toArray++#[]=([]++news).toArray++Builtin.zeroCells zv.cells (C-(0+xs.length)):=by grind
  rw[hce]at hin2;have hcs:(([]++news).toArray++Builtin.zeroCells zv.cells (C-(0+xs.length))).size=(xs++List.replicate (C-(0+xs.length)) z).length *i.size:=by simp only[zV,F6,Cs,hsrc.newsLen,size_zeroCells,hzsz,eG,qM,kW]
  obtain⟨cells,hcells⟩:∃cells,cells=([]++news).toArray++Builtin.zeroCells zv.cells (C-(0+xs.length)):=⟨_,rfl⟩
  rw[<-hcells]at hrun hin2 hcs;have hxC:xs.length<=C:=by omega
  have hszc:cells.size=C*i.size:=by grind
  have hin3:InMem pl M cells 0 i.size xs:=⟨by rw[gn,hszc];exact fV _ hxC,fun x hx=>hin2.elem x (Ch _ hx),fun i x j y h1 h2=>hin2.cell i x j y (by grind) h2⟩
  let p:Place:=⟨w.heap.size,0,i.size,xs.length,C*i.size⟩
  have hwd:(w.drew.alloc (.cells cells e)).heap=w.heap.push (.cells cells e):=rfl;obtain⟨r1,r2⟩:=cN.alloc (o:=.row i.size true 0 xs) (p:=p) g2 hwd ⟨rfl,rfl,rfl,n9 _⟩ rfl
   ⟨rfl,rfl,rfl,hszc.symm,rfl,hs0,fun h=>(by grind),hin3.mono (fun id q hq=>⟨q,by rw[dJ (by have:=g2.dom id q hq;omega)];omega,af _,fun _=>rfl⟩) (fun _ _ h=>h)⟩
  refine⟨0,upd pl s.heap.n p,M,.slice (some ⟨w.heap.size,0,none⟩) (0+xs.length) C,w.drew.alloc (.cells cells e),rfl,?_,?_,r1,r2,n9 _⟩
  ·simp only[execOp,resolve,invoke,builtin,Sem.run_bind,Sem.run_pure,Result.andThen_ok,List.map_toArray,eg,zX,hq,hq2];show(Sem.run P (Builtin.append_ #[t,tx] ty #[Value.slice (some ad) 0 0,cx]) w).andThen _=_
   rw[hrun];rfl
  ·rw[gn]at hge ⊢;refine .slice (eh _ _ _) (af _) hge (fun k hk=>by grind) (fun _=>⟨.inr (by grind),by grind,by grind,(fun _=>by grind),(fun k hk=>by grind)⟩)
end
theorem jp{s u:List UInt8}{H:AHeap}(h:s.length+u.length<=2^62):bA H (Wc (.str s) (.str u))=some (.val (.str (s++u)) H):=by grind[Nat.ble_eq_true_of_le,Wc,bA]
def OM(s:au):au:=bif aa (.ofNat (gD s 0).toNat) 124 then[92]else bif aa (.ofNat (gD s 0).toNat) 92 then[92]else[]
def Cc(s:au)(w:PWord):au:=s++[32]++OM w.text++w.text
def iX(s:au)(l:List PWord):au:=l.foldl Cc s
theorem pY(s:au)(w:PWord)(r:List PWord):iX s (w::r)=iX (Cc s w) r:=rfl
theorem FD{x:au}{w:PWord}(h1:aa (.ofNat (gD w.text 0).toNat) 124=true):Cc x w=x++[32]++[92]++w.text:=by grind[Cc,OM]
theorem FC{x:au}{w:PWord}(h1:aa (.ofNat (gD w.text 0).toNat) 124=false)(h2:aa (.ofNat (gD w.text 0).toNat) 92=true):Cc x w=x++[32]++[92]++w.text:=by grind[Cc,OM]
theorem FB{x:au}{w:PWord}(h1:aa (.ofNat (gD w.text 0).toNat) 124=false)(h2:aa (.ofNat (gD w.text 0).toNat) 92=false):Cc x w=x++[32]++w.text:=by grind[Cc,OM]
theorem XD(d:Nat):aL (.ofNat d) 0=false:=rfl
def uD(u:TUnit):TUnit:=⟨0,0,0,u.kind,u.label,u.head,u.words,[]⟩
def EH(u:TUnit)(d:Nat):Bool:=aj (aL (.ofNat d) 0)&&(aj (aL 8 (.ofNat d))&&ki (dX (uD u)))
def gr(u:TUnit)(d:Nat):au:=
 bif aj (EH u d)then[]else
  let a:=Lib.repeatL [32,32] d++bL u.kind
  let b:=bif aj (aa u.kind 0)then a++([32]++u.label)else a
  let c:=bif aL 0 (.ofNat u.head.length)then iX (b++[58]) u.head else b
  bif aL 0 (.ofNat u.words.length)then iX (c++[32,124]) u.words else c
mutual
def eO:Nat->TUnit->List au
 |d,⟨a,i,n,k,l,h,w,ks⟩=>gr ⟨a,i,n,k,l,h,w,ks⟩ d::dc (d+1) ks
def dc:Nat->List TUnit->List au
 |_,[]=>[]
 |d,k::r=>eO d k++dc d r
end
theorem Dk(d:Nat)(u:TUnit):eO d u=gr u d::dc (d+1) u.kids:=by cases u;rw[eO];rfl
theorem xp(d:Nat):dc d []=[]:=by rw[dc]
theorem mM(d:Nat)(k:TUnit)(r:List TUnit):dc d (k::r)=eO d k++dc d r:=by rw[dc]
def yb(u:TUnit):au×Int:=
 bif aj (ki (dX u))then([],1)else
  bif aL 16384 (.ofNat (Lib.join (eO 0 u) [10]++[10]).length)then([],6)else(Lib.join (eO 0 u) [10]++[10],0)
theorem Sd(s:au):(OM s).length<=1:=by grind[OM]
theorem TA(s:au)(w:PWord):(Cc s w).length<=s.length+(w.text.length+2):=by grind[Sd,Cc]
theorem vS{l:List PWord}(h:∀w,w∈l->w.text.length<=24)(s:au):(iX s l).length<=s.length+26*l.length:=by
 induction l generalizing s with
 |nil=>exact af _
 |cons w r ih=>grind[TA,pY]
theorem pI(k:Int):(bL k).length<=16:=by
 unfold bL;split<;>decide
theorem fP{a b:Int}(h:aj (aL a b)=true):b<=a:=aG (by cases q:aL a b<;>rw[q]at h<;>first|rfl|grind)
theorem J3{s:au}(h:gI s=true):s.length<=7:=by
 unfold gI at h;simp only[bZ]at h;have h1:=fP h.2.1;have h2:=fP h.2.2.2.1;grind
theorem NA{s:au}(h:qv s=true):1<=s.length/\s.length<=24:=by
 unfold qv at h;simp only[bZ]at h;have h1:=fP h.1;have h2:=fP h.2.1;grind
theorem Jx{l:List PWord}(h:eM l=true):l.length<=256/\∀w,w∈l->1<=w.text.length/\w.text.length<=24:=by
 unfold eM mA at h;simp only[bZ,kX]at h;have h1:=fP h.1;simp only[bW]at h1;exact⟨by omega,fun w hw=>NA (h.2.2 _ (gO.2 ⟨w,hw,rfl⟩))⟩
theorem PV{u:TUnit}(h:j9 u=true):u.label.length<=7/\(u.head.length<=256/\∀w,w∈u.head->1<=w.text.length/\w.text.length<=24)/\(u.words.length<=256/\∀w,w∈u.words->1<=w.text.length/\w.text.length<=24):=by
 unfold j9 at h;simp only[bZ]at h;have h:=h.1;cases hk:aa u.kind 0 with
 |true=>
  rw[hk]at h;simp only[cond_true,bZ]at h;have h1:u.label=[]:=xP h.1;have h2:=fP h.2;grind
 |false=>grind[J3,Jx]
theorem Qx{q:TUnit->Bool}{u:TUnit}(h:vP q u=true):q u=true:=by grind[y9]
theorem L8{u:TUnit}{d:Nat}(h:EH u d=true):d<=8/\u.label.length<=7/\(u.head.length<=256/\∀w,w∈u.head->1<=w.text.length/\w.text.length<=24)/\(u.words.length<=256/\∀w,w∈u.words->1<=w.text.length/\w.text.length<=24):=by
 unfold EH ki at h;simp only[bZ]at h;have h1:=fP h.2.1;simp only[bW]at h1;have h2:=PV (Qx h.2.2.1);rw[m5]at h2;obtain⟨e1,⟨e2,e3⟩,e4,e5⟩:=h2;refine⟨by omega,e1,⟨by grind[uD,TUnit.head],fun w hw=>?_⟩,⟨by grind[uD,TUnit.words],fun w hw=>?_⟩⟩
 ·exact e3 (iq w) (gO.2 ⟨w,hw,rfl⟩)
 ·exact e5 (iq w) (gO.2 ⟨w,hw,rfl⟩)
theorem Fe{b:Bool}{x y:au}{n:Nat}(h1:x.length<=n)(h2:y.length<=n):(bif b then x else y).length<=n:=by grind
theorem Rx(u:TUnit)(d:Nat):(gr u d).length<=2^14:=by
 unfold gr;cases h:EH u d with
 |false=>simp_all
 |true=>
  obtain⟨h1,h2,⟨h3,h4⟩,h5,h6⟩:=L8 h;have k:=pI u.kind;have r:=Lib.repeatL_length [32,32] d;simp only[cO,iW]at r;have ha:(Lib.repeatL [32,32] d++bL u.kind).length<=32:=by grind
  have hh:∀w,w∈u.head->w.text.length<=24:=fun w hw=>(h4 w hw).2
  have hw:∀w,w∈u.words->w.text.length<=24:=fun w hw=>(h6 w hw).2
  simp only[aj,cond_false];have hb:∀x:au,x.length<=32->(bif aj (aa u.kind 0)then x++([32]++u.label)else x).length<=40:=fun x hx=>Fe (by grind) (by omega)
  have hc:∀x:au,x.length<=40->(bif aL 0 (.ofNat u.head.length)then iX (x++[58]) u.head else x).length<=6700:=fun x hx=>Fe (by grind[vS]) (by omega)
  have hd:∀x:au,x.length<=6700->(bif aL 0 (.ofNat u.words.length)then iX (x++[32,124]) u.words else x).length<=2^14:=fun x hx=>Fe (by have:=vS hw (x++[32,124]);grind) (by omega)
  grind
mutual
theorem lr(d:Nat):∀u:TUnit,(eO d u).length=nU u
 |⟨a,i,n,k,l,h,w,ks⟩=>by rw[eO,cO,xt (d+1) ks,nU];omega
theorem xt(d:Nat):∀l:List TUnit,(dc d l).length=eL l
 |[]=>by rw[dc,eL];rfl
 |k::r=>by rw[dc,eL,eG,lr d k,xt d r]
end
mutual
theorem AB(d:Nat):∀(u:TUnit)(s:au),s∈eO d u->s.length<=2^14
 |⟨a,i,n,k,l,h,w,ks⟩,s,hs=>by
  rw[eO]at hs;rcases dP.1 hs with rfl|hs
  ·exact Rx _ _
  ·exact xr (d+1) ks s hs
theorem xr(d:Nat):∀(l:List TUnit)(s:au),s∈dc d l->s.length<=2^14
 |[],s,hs=>by rw[dc]at hs;cases hs
 |k::r,s,hs=>by
  rw[dc]at hs;rcases mZ.1 hs with hs|hs
  ·exact AB d k s hs
  ·exact xr d r s hs
end
theorem vq{sep:au}{B:Nat}:∀{l:List au},(∀s,s∈l->s.length<=B)->(Lib.joinTail sep l).length<=l.length*(sep.length+B)
 |[],_=>b8 _
 |x::r,h=>by
  have h1:=h x ef;have h2:=vq (sep:=sep) (l:=r) fun s hs=>h s (dA _ hs)
  grind[Lib.joinTail,Nat.succ_mul]
theorem vU{sep:au}{B:Nat}{l:List au}(h:∀s,s∈l->s.length<=B):(Lib.join l sep).length<=l.length*(sep.length+B):=by
 cases l with
 |nil=>exact b8 _
 |cons x r=>
  have h1:=h x ef;have h2:=vq (sep:=sep) (l:=r) fun s hs=>h s (dA _ hs)
  grind[Lib.join_cons,Nat.succ_mul]
theorem xk:∀(l:List TUnit),(∀k,k∈l->nU (dX k)=nU k/\∀x,x∈bv (dX k)->∃y,y∈bv k/\x=dX y)->eL (l.map dX)=eL l/\∀x,x∈dD (l.map dX)->∃y,y∈dD l/\x=dX y
 |[],_=>⟨rfl,fun x hx=>by grind[fS]⟩
 |k::r,h=>by
  obtain⟨a1,a2⟩:=h k ef;obtain⟨b1,b2⟩:=xk r fun k hk=>h k (dA _ hk)
  grind[eL,b7]
theorem NL:∀u:TUnit,nU (dX u)=nU u/\∀x,x∈bv (dX u)->∃y,y∈bv u/\x=dX y:=by
 refine TUnit.ind fun u ih=>?_
 obtain⟨h1,h2⟩:=xk u.kids ih;refine⟨?_,fun x hx=>?_⟩
 ·rw[ju (dX u),ju u,m5];exact congrArg (1+ ·) h1
 ·rw[da,m5]at hx;rcases dP.1 hx with rfl|hx
  ·grind[da,List.mem_cons_self,m5]
  ·obtain⟨y,h3,h4⟩:=h2 x hx;grind[da]
structure OkB(u:TUnit):Prop where
 nd:(de u).Nodup
 n:nU u<=1024
 w:∀x,x∈bv u->x.head.length<=300/\x.words.length<=300
theorem OkB.uni{u v x:TUnit}(h:OkB u)(hv:v∈bv u)(hx:x∈bv u)(e:am v=am x):v=x:=DV h.nd hv hx e
theorem nH{u x:TUnit}(hx:x∈bv u):bX (am x) u=true:=E4 u ⟨x,hx,rfl⟩
theorem lm:∀{l:List TUnit}{x:TUnit},x∈dD l->∃k,k∈l/\x∈bv k
 |[],x,h=>by grind[fS]
 |k::r,x,h=>by
  rw[b7]at h;rcases mZ.1 h with h|h
  ·simp_all
  ·obtain⟨k',h1,h2⟩:=lm h;grind
theorem CN{u:TUnit}:∀(p:List PStep)(l:List TUnit),(∀x,x∈l->x∈bv u)->∀x,x∈gH p l->x∈bv u
 |[],l,h,x,hx=>h x hx
 |s::r,l,h,x,hx=>by
  refine CN r _ (fun y hy=>?_) x hx;grind[fW,bj,cX]
theorem OA{u:TUnit}{p:List PStep}{x:TUnit}(h:x∈dF u p):x∈bv u:=by
 unfold dF at h;grind[cX,CN]
theorem rB{u:TUnit}{p:List PStep}(h:(aH u p).2=0):bX (aH u p).1 u=true:=by
 unfold aH at h ⊢;split at h
 ·omega
 ·rename_i x e;exact nH (OA (by rw[e];simp_all))
 omega
def FM(u:TUnit)(sp:PSpot):Prop:=∃n:Nat,sp.at_=Int.ofNat n/\n<=2^20/\∀v,v∈bv u->eD sp.id v=true->n<=v.kids.length
theorem QD{u:TUnit}(hu:OkB u){p:PId}(h:iZ p u=true){n:Nat}(hn:n<=1):FM u ⟨rx p u,rj p u+Int.ofNat n⟩:=by
 obtain⟨q,i,h1,h2,h3,h4,h5⟩:=oH u h;have hk:=bg q;have:=eA h1;have:=hu.n;refine⟨i+n,by simp_all,by omega,fun v hv hi=>?_⟩;have hi:eD (rx p u) v=true:=hi;rw[gV,h2]at hi;rw[hu.uni hv h1 hi];omega
theorem Hy{u:TUnit}(hu:OkB u){p:PId}(hp:bX p u=true){w:Int}(he:(dx w u p).2=0):FM u (dx w u p).1:=by
 unfold dx at he ⊢;cases h0:aa w 0 with
 |true=>exact⟨0,rfl,b8 _,fun v _ _=>b8 _⟩
 | false=>
  rw[h0]at he;simp only[cond_false]at he ⊢;cases h1:aa w 1 with
  |true=>
   obtain⟨a,b⟩:=oa hp;have hk:=bg (ch p u);have:=eA a;have:=hu.n;refine⟨_,rfl,by omega,fun v hv hi=>?_⟩;rw[gV]at hi;rw[hu.uni hv a (hi.trans b.symm)];omega
  |false=>
   rw[h1]at he;simp only[cond_false]at he ⊢;have key:∀n:Nat,n<=1->(oU u p (Int.ofNat n)).2=0->FM u (oU u p (Int.ofNat n)).1:=fun n hn he=>by grind[oU,QD]
   cases h2:aa w 2 with
   |true=>grind
   |false=>rw[h2]at he;exact key 0 (b8 _) he
theorem OkB.with{u:TUnit}(hu:OkB u){q:PId}{f:TUnit->TUnit}
  (hf:∀v C,v∈bv u->am v=q->(de u).Perm (C++de v)->(C++de (f v)).Nodup/\(C++de (f v)).length<=1024/\∀x,x∈bv (f v)->x.head.length<=300/\x.words.length<=300):OkB (cK q f u):=by
 cases hq:bX q u with
 |false=>grind[za]
 |true=>
  obtain⟨v,C,h1,h2,h3,h4⟩:=tV u hq;obtain⟨h5,h6⟩:=h4 f;obtain⟨a,b,c⟩:=hf v C h1 h2 h3;refine⟨h5.nodup_iff.2 a,by rw[kL,h5.length_eq];omega,fun x hx=>?_⟩;grind[cases OkB]
theorem OkB.keep{u:TUnit}(hu:OkB u){q:PId}{f:TUnit->TUnit}(h1:∀v,am (f v)=am v/\(f v).kids=v.kids)(h2:∀v,v∈bv u->(f v).head.length<=300/\(f v).words.length<=300):OkB (cK q f u):=by
 refine hu.with fun v C hv hq hp=>?_
 have e:de (f v)=de v:=by grind[ib]
 rw[e];refine⟨hp.nodup_iff.1 hu.nd,by rw[<-hp.length_eq,<-kL];exact hu.n,fun x hx=>?_⟩;rw[da]at hx;rcases dP.1 hx with rfl|hx
 ·simp_all
 ·rw[(h1 v).2]at hx;obtain⟨k,k1,k2⟩:=lm hx;grind[fW,bj,cases OkB]
theorem Uu{v x y:TUnit}{i:Nat}(h:y∈bv (dV i x v)):y=dV i x v\/y∈bv x\/y∈bv v:=by
 rw[da]at h;rcases dP.1 h with rfl|h
 ·simp_all
 ·obtain⟨k,k1,k2⟩:=lm h;have k1:k∈v.kids.take i++(x::v.kids.drop i):=k1;rcases mZ.1 k1 with q|q
  ·grind[bj]
  ·grind[bj]
theorem OkB.ins{u x:TUnit}(hu:OkB u){q:PId}{i:Nat}(hx:(de x).Nodup)(hd:∀p,p∈de x->p∉de u)(hn:nU u+nU x<=1024)(hw:∀y,y∈bv x->y.head.length<=300/\y.words.length<=300):OkB (cK q (dV i x) u):=by
 refine hu.with fun v C hv hq hp=>?_
 have h1:(C++de (dV i x v)).Perm (de u++de x):=((List.Perm.append_left C Vf).trans (by grind))
 refine⟨h1.nodup_iff.2 (List.nodup_append.2 ⟨hu.nd,hx,fun a ha b hb e=>hd b hb (e▸ha)⟩),by rw[h1.length_eq,eG,<-kL,<-kL];omega,fun y hy=>?_⟩;rcases Uu hy with rfl|h|h
 ·exact hu.w v hv
 all_goals grind[fW,cases OkB]
theorem LO{v y:TUnit}{i:Nat}(h:y∈bv (fu i v)):y=fu i v\/y∈bv v:=by
 rw[da]at h;rcases dP.1 h with rfl|h
 ·simp_all
 ·obtain⟨k,k1,k2⟩:=lm h;exact .inr (bj (List.mem_of_mem_eraseIdx (show k∈v.kids.eraseIdx i from k1)) k2)
theorem OkB.del{u v:TUnit}(hu:OkB u){i:Nat}(hv:v∈bv u)(hi:i<v.kids.length):OkB (cK (am v) (fu i) u)/\(de u).Perm (de (cK (am v) (fu i) u)++de (gD v.kids i)):=by
 obtain⟨v',C,h1,h2,h3,h4⟩:=tV u (nH hv);obtain rfl:=hu.uni h1 hv h2;obtain⟨h5,h6⟩:=h4 (fu i);have h7:(de u).Perm (de (cK (am v') (fu i) u)++de (gD v'.kids i)):=h3.trans ((List.Perm.append_left C (Vg hi)).trans (by grind));have hnd:=h7.nodup_iff.1 hu.nd;refine⟨⟨(List.nodup_append.1 hnd).1,?_,fun x hx=>?_⟩,h7⟩
 ·have:=h7.length_eq;grind[kL,cases OkB]
 ·rcases h6 x hx with h|⟨y,y1,y2,y3,y4,y5⟩
  ·rcases LO h with rfl|h
   ·exact hu.w v' hv
   grind[fW,cases OkB]
  grind[cases OkB]
theorem GX{q:PId}{f:TUnit->TUnit}:∀u:TUnit,bX q u=true->∃v,v∈bv u/\am v=q/\f v∈bv (cK q f u):=by
 refine TUnit.ind fun u ih h=>?_
 cases hi:eD q u with
 |true=>grind[cX,gV,m0]
 | false=>
  rw [jS hi];have key:∀r:List TUnit,(∀k,k∈r->k∈u.kids)->(∃k,k∈r/\bX q k=true)->∃v,v∈dD r/\am v=q/\f v∈dD (dB q f r):=by
   intro r;induction r with
   |nil=>grind
   | cons k r ihr=>
    intro hs ⟨y,hy,hyq⟩;rw[iK,b7];cases hk:bX q k with
    |true=>grind[b7]
    |false=>
     rcases dP.1 hy with rfl|hy
     ·grind
     ·obtain⟨v,a,b,c⟩:=ihr (fun k hk=>hs k (dA _ hk)) ⟨y,hy,hyq⟩;grind[b7]
  have hx:=oa h;have hne:ch q u≠u:=fun e=>by grind[gV]
  have hm:ch q u∈dD u.kids:=by grind[da]
  obtain⟨k,k1,k2⟩:=lm hm;obtain⟨v,a,b,c⟩:=key u.kids (fun _ h=>h) ⟨k,k1,E4 k ⟨_,k2,hx.2⟩⟩;grind[da,xf]
theorem RS{u q:TUnit}(hu:OkB u){i:Nat}(hq:q∈bv u)(hi:i<q.kids.length){p t:PId}{w:Int}{anc bs:Bool}(ht:bX t u=true){ok:Bool}
  (he:(oe p t (am q) (Int.ofNat i) ok anc bs (dx w u t).1 (dx w u t).2).2=0):
  FM (cK (am q) (fu i) u) (oe p t (am q) (Int.ofNat i) ok anc bs (dx w u t).1 (dx w u t).2).1:=by
 obtain⟨hr,_⟩:=hu.del hq hi;obtain⟨v',C,h1,h2,h3,h4⟩:=tV u (nH hq);obtain rfl:=hu.uni h1 hq h2;obtain⟨_,h6⟩:=h4 (fu i);have hlen:(fu i v').kids.length=v'.kids.length-1:=List.length_eraseIdx_of_lt hi;have own:∀v,v∈bv (cK (am v') (fu i) u)->am v=am v'->v.kids.length=v'.kids.length-1:=fun v hv e=>by
  obtain⟨z,z1,z2,z3⟩:=GX (q:=am v') (f:=fu i) u (nH hq);obtain rfl:=hu.uni z1 hq z2;rw[hr.uni hv z3 (e.trans rfl)];omega
 have oth:∀v,v∈bv (cK (am v') (fu i) u)->am v≠am v'->∃y,y∈bv u/\am v=am y/\v.kids.length=y.kids.length:=fun v hv hne=>by
  rcases h6 v hv with h|⟨y,y1,y2,y3,_⟩
  ·rcases LO h with rfl|h
   ·exact absurd rfl hne
   ·exact⟨v,fW hq h,rfl,rfl⟩
  grind
 have hk:=bg v';have hb:=eA hq;have hn:=hu.n;unfold oe at he ⊢;cases c1:(aj ok||((aj (bh t p)&&anc)||(bh t p&&aj bs)))with
 |true=>grind
 | false=>
  rw[c1]at he;simp only[cond_false]at he ⊢;cases c2:bh t p with
  |true=>
   refine⟨i,rfl,by omega,fun v hv hid=>?_⟩;grind[gV]
  | false=>
   rw[c2]at he;simp only[cond_false]at he ⊢;have e0:(dx w u t).2=0:=by grind
   obtain⟨n,n1,n2,n3⟩:=Hy hu ht e0;rw[e0,n1];cases c4:bh (dx w u t).1.id (am v')with
   |false=>
    have hne:(dx w u t).1.id≠am v':=fun e=>by grind[nM]
    rw[show(aa 0 0&&(false&&aL (Int.ofNat i) (Int.ofNat n)))=false from rfl];refine⟨n,n1,n2,fun v hv hid=>?_⟩;grind[gV]
   | true=>
    have heq:=sy c4;have hn':=n3 v' hq ((gV _ v').2 heq.symm);cases c5:aL (Int.ofNat i) (Int.ofNat n)with
    |true=>
     have c5:=ap c5;simp only[bW]at c5;rw[show(aa 0 0&&(true&&true))=true from rfl];refine⟨n-1,by grind,by omega,fun v hv hid=>?_⟩;grind[gV]
    |false=>
     have c5:=aG c5;simp only[bW]at c5;rw[show(aa 0 0&&(true&&false))=false from rfl];refine⟨n,n1,n2,fun v hv hid=>?_⟩;grind[gV]
def zu(a i:Int)(n k:Nat):List PId:=(List.range' (n+1) k).map fun j=>⟨a,i,Int.ofNat j⟩
mutual
theorem wJ(a i:Int):∀(u:TUnit)(n w:Nat),de (co a i u n w)=zu a i n (nU u)
 |⟨a',i',n',k,l,h,ws,ks⟩,n,w=>by
  rw[ib,co,nU];show _::bG (dM a i ks (n+1) _)=_
  rw[zt a i ks (n+1)];unfold zu;rw[Nat.add_comm 1 (eL ks),Cp,eg];rfl
theorem zt(a i:Int):∀(l:List TUnit)(n w:Nat),bG (dM a i l n w)=zu a i n (eL l)
 |[],n,w=>by rw[dM,eL,lF];rfl
 |k::r,n,w=>by
  rw[dM,eL,dS,wJ a i k n w,zt a i r (n+nU k)];unfold zu;rw[<-sH,show n+nU k+1=n+1+nU k by omega,<-List.range'_append_1]
end
theorem QJ(a i:Int)(n k:Nat):(zu a i n k).Nodup:=by
 unfold zu;exact List.Pairwise.map _ (fun x y hne e=>hne (Int.ofNat.inj (congrArg PId.n e))) List.nodup_range'
mutual
theorem Li(a i:Int)(B:Nat):∀(u:TUnit)(n w:Nat),(∀x,x∈bv u->x.head.length<=B/\x.words.length<=B)->∀x,x∈bv (co a i u n w)->x.head.length<=B/\x.words.length<=B
 |⟨a',i',n',k,l,h,ws,ks⟩,n,w,hB,x,hx=>by
  rw[co,bv]at hx;rcases dP.1 hx with rfl|hx
  ·have:=hB _ (by rw[bv];exact ef);exact⟨by show(ce _ _ _ _).length<=B;rw[fg,b9,cJ];exact this.1,by show(ce _ _ _ _).length<=B;rw[fg,b9,cJ];exact this.2⟩
  ·exact Gh a i B ks _ _ (fun y hy=>hB y (by rw[bv];exact dA _ hy)) x hx
theorem Gh(a i:Int)(B:Nat):∀(l:List TUnit)(n w:Nat),(∀x,x∈dD l->x.head.length<=B/\x.words.length<=B)->∀x,x∈dD (dM a i l n w)->x.head.length<=B/\x.words.length<=B
 |[],n,w,hB,x,hx=>by rw[dM,dD]at hx;cases hx
 |k::r,n,w,hB,x,hx=>by
  rw[dM,dD]at hx;rcases mZ.1 hx with hx|hx
  ·exact Li a i B k _ _ (fun y hy=>hB y (by rw[dD];exact Ch _ hy)) x hx
  ·exact Gh a i B r _ _ (fun y hy=>hB y (by rw[dD];exact Cg _ hy)) x hx
end
theorem QX(a i:Int)(u:TUnit)(n w:Nat):nU (co a i u n w)=nU u:=by grind[kL,wJ,zu]
def mD(p k:Int):Bool:=bif aa p 0 then aa k 1||aa k 2 else bif aa p 1 then aa k 2 else bif aa p 2||aa p 3 then aa k 3||(aa k 4||aa k 7)else bif aa p 4 then aa k 5 else bif aa p 5 then aa k 6 else false
theorem HJ{p k:Int}(h:mD p k=true):k≠0:=by
 rintro rfl
 simp_all[aa,mD]
def iP(u:TUnit):Bool:=aj (aL u.kind 0)&&(aj (aL 7 u.kind)&&(aj (aL 64 (.ofNat u.kids.length))&&(eM u.head&&(eM u.words&&
 (bif aa u.kind 0 then dH u.label []&&(aa (.ofNat u.head.length) 0&&aa (.ofNat u.words.length) 0)else gI u.label)))))
def Qk(k d:TUnit):Bool:=aa d.kind k.kind&&dH d.label k.label
variable{S T:Int->Int->Prop}{u v x:TUnit}{q:PId}{f:TUnit->TUnit}{a i:Int}
theorem Qi{l:List PWord}{w:PWord}(h:w∈rq l):w∈l:=by grind[rq]
end Go.Ev
namespace Go.Ev
open Go
def qg(u:TUnit):Int×au:=(u.kind,u.label)
structure Lc(x:TUnit):Prop where
 al:iP x=true
 ne:∀k,k∈x.kids->mD x.kind k.kind=true
 nd:(x.kids.map qg).Nodup
def Rg(u:TUnit):Prop:=∀x,x∈bv u->Lc x
theorem tc{u k:TUnit}(h:Rg u)(hk:k∈u.kids):Rg k:=fun x hx=>h x (bj hk hx)
theorem wx{u v:TUnit}(h:Rg u)(hv:v∈bv u):Rg v:=fun x hx=>h x (fW hv hx)
theorem GL{u:TUnit}(h:Lc u)(hk:∀k,k∈u.kids->Rg k):Rg u:=fun x hx=>by
 rw[da]at hx;rcases dP.1 hx with rfl|hx
 ·omega
 ·obtain⟨k,h1,h2⟩:=lm hx;exact hk k h1 x h2
theorem zL{k d:TUnit}:Qk k d=true↔qg d=qg k:=by
 unfold Qk qg;constructor
 ·grind[i9,xP]
 ·intro h;obtain⟨h1,h2⟩:=Prod.mk.inj h;rw[h1,h2,bc,rD];rfl
variable{u v x:TUnit}{q:PId}{f:TUnit->TUnit}{a i:Int}
theorem TJ{b:Bool}(h:aj b=true):b=false:=by simp_all
theorem Fl{ks:List TUnit}(h:iP u=true)(hl:ks.length<=64):iP (lu u ks)=true:=by
 unfold iP at h ⊢;simp only[bZ]at h ⊢;exact⟨h.1,h.2.1,(by rw[jI (show Int.ofNat (lu u ks).kids.length<=64 by show Int.ofNat ks.length<=64;grind)];rfl),h.2.2.2⟩
theorem K9(h:iP u=true):u.kids.length<=64:=by
 unfold iP at h;simp only[bZ]at h;have:=aG (TJ h.2.2.1);grind
theorem I4{l:List PWord}(h:iP u=true)(hk:u.kind≠0)(hl:eM l=true):iP (jN l u)=true/\iP (rl l u)=true:=by
 unfold iP at h ⊢;have e:aa u.kind 0=false:=by grind[l8]
 simp only[bZ]at h;obtain⟨h1,h2,h3,h4,h5,h6⟩:=h;rw[e]at h6;constructor<;>simp only[bZ]
 ·exact⟨h1,h2,h3,h4,hl,(by show(bif aa u.kind 0 then _ else _)=true;rw[e];exact h6)⟩
 ·exact⟨h1,h2,h3,hl,h5,(by show(bif aa u.kind 0 then _ else _)=true;rw[e];exact h6)⟩
theorem Ti{s:au}(h:iP u=true)(hk:u.kind≠0)(hs:gI s=true):iP (ji s u)=true:=by
 unfold iP at h ⊢;have e:aa u.kind 0=false:=by grind[l8]
 simp only[bZ]at h ⊢;obtain⟨h1,h2,h3,h4,h5,h6⟩:=h;exact⟨h1,h2,h3,h4,h5,(by show(bif aa u.kind 0 then _ else _)=true;rw[e];exact hs)⟩
theorem uo:∀u:TUnit,Rg u->(∀v,v∈bv u->am v=q->Rg (f v))->(∀p k,p∈bv u->k∈p.kids->am k=q->(f k).kind=k.kind/\(qg (f k)=qg k\/∀d,d∈p.kids->qg d≠qg (f k)))->Rg (cK q f u):=TUnit.ind fun u ih h hf hk=>by
 cases hi:eD q u with
 |true=>grind[m0,cX,gV]
 | false=>
  have hs:=h u (cX u);have one:∀k,k∈u.kids->Rg (cK q f k)/\(cK q f k).kind=k.kind/\(qg (cK q f k)=qg k\/∀d,d∈u.kids->qg d≠qg (cK q f k)):=fun k hm=>by
   refine⟨ih k hm (tc h hm) (fun v hv=>hf v (bj hm hv)) (fun p z hp=>hk p z (bj hm hp)),?_⟩;cases hik:eD q k with
   |true=>grind[m0,cX,gV]
   |false=>rw[jS hik];exact⟨rfl,.inl rfl⟩
  have key:∀r:List TUnit,(∀k,k∈r->k∈u.kids)->(r.map qg).Nodup->(dB q f r).length=r.length/\(∀k,k∈dB q f r->Rg k/\mD u.kind k.kind=true)/\((dB q f r).map qg).Nodup/\∀y,y∈(dB q f r).map qg->y∈r.map qg\/∀d,d∈u.kids->qg d≠y:=by
   intro r;induction r with
   |nil=>intro _ _;rw[nY];simp_all
   | cons k r ihr=>
    intro hm hd;have hk1:=hm k (ef ..);have hm2:=fun x hx=>hm x (dA k hx)
    rw[eg,Cf]at hd;rw[iK];cases hq:bX q k with
    | true=>
     obtain⟨o1,o2,o3⟩:=one k hk1;refine⟨rfl,fun z hz=>?_,?_,fun y hy=>?_⟩
     ·rcases dP.1 hz with rfl|hz
      ·exact⟨o1,by rw[o2];exact hs.ne k hk1⟩
      ·exact⟨tc h (hm2 z hz),hs.ne z (hm2 z hz)⟩
     ·show(qg (cK q f k)::r.map qg).Nodup
      refine Cf.2 ⟨fun hc=>?_,hd.2⟩;rcases o3 with e|e
      ·grind
      ·obtain⟨d,d1,d2⟩:=gO.1 hc;simp_all
     grind
    | false=>
     obtain⟨k1,k2,k3,k4⟩:=ihr hm2 hd.2;refine⟨by simp_all,fun z hz=>?_,?_,fun y hy=>?_⟩
     ·rcases dP.1 hz with rfl|hz
      ·exact⟨tc h hk1,hs.ne z hk1⟩
      simp_all
     all_goals grind
  obtain⟨k1,k2,k3,_⟩:=key u.kids (fun _ h=>h) hs.nd;rw[jS hi];exact GL ⟨Fl hs.al (by grind[K9,cases Lc]),fun k hk=>(k2 k hk).2,k3⟩ fun k hk=>(k2 k hk).1
theorem Ae(p k:Int):iz p k=mD p k:=by
 have h:(p<0\/7<p)\/p=0\/p=1\/p=2\/p=3\/p=4\/p=5\/p=6\/p=7:=by omega
 rcases h with h|rfl|rfl|rfl|rfl|rfl|rfl|rfl|rfl
 ·have e:∀c:Int,0<=c->c<=7->aa p c=false:=fun c h1 h2=>by grind[l8]
  unfold iz mD;rw[zf h,e 0 (by omega) (by omega),e 1 (by omega) (by omega),e 2 (by omega) (by omega),e 3 (by omega) (by omega),e 4 (by omega) (by omega),e 5 (by omega) (by omega)];rfl
 all_goals simp[iz,mD,EU,l8,eq_comm]
theorem UZ(h:ld v x=0):mD v.kind x.kind=true/\∀k,k∈v.kids->qg k≠qg x:=by
 unfold ld at h;rw[Ae]at h;cases h1:mD v.kind x.kind with
 |false=>grind
 |true=>
  rw[h1]at h;cases h2:v.kids.any (kE x)with
  |true=>grind
  |false=>exact⟨rfl,fun k hk e=>List.any_eq_false.1 h2 k hk (zL.2 e)⟩
theorem Hp{j:Nat}{l:List TUnit}:(rh j x l).Perm (x::l):=by
 unfold rh;exact List.perm_middle.trans (by simp_all)
theorem Xe{j:Nat}(hv:Rg v)(hx:Rg x)(hl:v.kids.length<64)(ht:mD v.kind x.kind=true/\∀k,k∈v.kids->qg k≠qg x):Rg (dV j x v):=by
 have hs:=hv v (cX v);have hp:=Hp (x:=x) (j:=j) (l:=v.kids);refine GL ⟨Fl hs.al (by rw[hp.length_eq];grind),fun k hk=>?_,(hp.map qg).nodup_iff.2 (Cf.2 ⟨fun hc=>?_,hs.nd⟩)⟩ fun k hk=>?_
 ·rcases dP.1 (hp.mem_iff.1 hk)with rfl|hk
  ·exact ht.1
  ·exact hs.ne k hk
 ·grind
 ·rcases dP.1 (hp.mem_iff.1 hk)with rfl|hk
  all_goals grind[tc]
theorem Xf{j:Nat}(hv:Rg v):Rg (fu j v):=by
 have hs:=hv v (cX v);have hp:(v.kids.eraseIdx j).Sublist v.kids:=List.eraseIdx_sublist ..;exact GL ⟨Fl hs.al (bu hp.length_le (K9 hs.al)),fun k hk=>hs.ne k (hp.mem hk),hs.nd.sublist (hp.map qg)⟩ fun k hk=>tc hv (hp.mem hk)
theorem Jp(hv:Rg v)(h1:(f v).kids=v.kids)(h2:(f v).kind=v.kind)(h3:iP (f v)=true):Rg (f v):=by
 have hs:=hv v (cX v);exact GL ⟨h3,by grind[cases Lc],by grind[cases Lc]⟩ (by grind[tc])
def ER(p:TUnit):List PId:=p.kids.map am
theorem RI:∀u:TUnit,(de u).Perm (am u::(bv u).flatMap ER):=TUnit.ind fun u ih=>by
 have key:∀r:List TUnit,(∀k,k∈r->k∈u.kids)->(bG r).Perm (r.map am++(dD r).flatMap ER):=by
  intro r;induction r with
  |nil=>grind[lF,fS]
  |cons k r ihr=>grind[dS,b7]
 rw[ib,da,zJ];exact .cons _ (key u.kids fun _ h=>h)
theorem UB{p1 p2 k1 k2:TUnit}(hu:(de u).Nodup)(h1:p1∈bv u)(h2:p2∈bv u)(m1:k1∈p1.kids)(m2:k2∈p2.kids)(e:am k1=am k2):p1=p2:=by
 have hn:=(Cf.1 ((RI u).nodup_iff.1 hu)).2;have hp:=(List.pairwise_flatMap.1 hn).2;obtain⟨i1,l1,e1⟩:=zK h1;obtain⟨i2,l2,e2⟩:=zK h2;have hp:=F0.1 hp;have a1:am k1∈ER p1:=F3 m1;have a2:am k1∈ER p2:=e▸F3 m2;rcases Nat.lt_trichotomy i1 i2 with h|h|h
 ·exact absurd rfl (hp i1 i2 l1 l2 h _ (by rw[e1];exact a1) _ (by simp_all))
 ·simp_all
 ·exact absurd rfl (hp i2 i1 l2 l1 h _ (by rw[e2];exact a2) _ (by simp_all))
def fl{α:Type}(g:TUnit->List α)(u:TUnit):List α:=(bv u).flatMap g
section
variable{α:Type}{g:TUnit->List α}
end
variable{l:List PWord}{old new part:List au}{n:Int}
theorem tK:eM l=true↔l.length<=256/\∀w,w∈l->qv w.text=true:=by
 unfold eM mA;simp only[bZ,kX,cJ,gO];constructor
 ·intro ⟨h1,_,h2⟩;have:=aG (TJ h1);grind
 ·intro ⟨h1,h2⟩;have e:aj (aL 256 (Int.ofNat l.length))=true:=by rw[jI (by grind)];rfl
  simp_all
theorem LF{l:List au}(h:mA l=true):l.length<=256/\∀s,s∈l->qv s=true:=by
 unfold mA at h;rw[bZ,kX]at h;have:=aG (TJ h.1);grind
theorem EI:∀{l:List au}{n:Nat}{w:PWord},w∈ce a i l n->w.text∈l
 |s::r,n,w,h=>by
  rw[ce]at h;rcases dP.1 h with rfl|h
  ·simp_all
  ·exact dA _ (EI h)
theorem L9{l:List au}{n:Nat}(h:mA l=true):eM (ce a i l n)=true:=by
 obtain⟨h1,h2⟩:=LF h;exact tK.2 ⟨by grind[fg],fun w hw=>h2 _ (EI hw)⟩
theorem Ql{g:Nat}{ps:List Nat}{fresh:List au}{w:PWord}:∀{n:Nat}{l:List PWord},w∈qA a i g ps fresh n l->w∈l\/w.text∈fresh
 |0,l,h=>.inl h
 |n+1,l,h=>by
  rw[qA]at h;rcases Ql h with h|h
  all_goals grind[gx,EI]
theorem JB{g:Nat}{ps:List Nat}(h:eM l=true)(hn:mA new=true):eM (rq (qA a i g ps new ps.length l))=true:=by
 refine tK.2 ⟨?_,fun w hw=>?_⟩
 ·unfold rq;cases q:aL 256 (Int.ofNat (qA a i g ps new ps.length l).length)with
  |true=>simp_all
  |false=>have:=aG q;grind
 ·rcases Ql (Qi hw)with q|q
  ·exact(tK.1 h).2 w q
  ·exact(LF hn).2 _ q
theorem py:eM []=true:=rfl
theorem Ug(h:eM l=true)(hn:mA new=true):eM (z8 a i l old new n).1=true:=by
 unfold z8;cases aa (Int.ofNat old.length) 0
 ·cases aa (Int.ofNat (nC (tC (b9 l) old) n).length) 0
  ·exact JB h hn
  ·exact py
 ·exact py
theorem X5(h:eM l=true)(hn:mA new=true):eM (AO a i l part new n).1=true:=by
 unfold AO;cases(aa (Int.ofNat new.length) 0||(aa (Int.ofNat part.length) 0&&aj (aa n 0)))
 ·cases aa (Int.ofNat part.length) 0
  ·cases aa (Int.ofNat (nC (tC (b9 l) part) n).length) 0
   ·exact JB h hn
   ·exact py
  ·exact JB h hn
 ·exact py
end Go.Ev
namespace Go.Ev
open Go
theorem MG{K:Type}{keq:K->K->Bool}(ht:∀a b,keq a b=true->a=b)(hr:∀a,keq a a=true)(k p:K):∀m:List (K×Bool),FR keq k (fZ keq p true m)=(keq k p||FR keq k m)
 |[]=>by
  simp only[fZ,FR,ip];grind
 | (j,v)::r=>by
  have ih:=MG ht hr k p r;unfold FR at ih ⊢;cases h1:keq p j with
  |true=>
   have e:=ht _ _ h1;subst e;rw[show fZ keq p true ((p,v)::r)=(p,true)::r by grind[fZ]];simp only[ip];grind
  |false=>
   rw[show fZ keq p true ((j,v)::r)=(j,v)::fZ keq p true r by grind[fZ]];simp only[ip];grind
theorem Sh(a:Int×au):lZ a a=true:=by unfold lZ;rw[bc,rD];rfl
theorem VG(a b:Int×au)(h:lZ a b=true):a=b:=by
 unfold lZ at h;grind[i9,xP]
theorem Dw{pk:Int}:∀{r:List TUnit}{m:List ((Int×au)×Bool)},lD pk r m=true->(∀k,k∈r->mD pk k.kind=true/\FR lZ (qg k) m=false)/\(r.map qg).Nodup
 |[],m,_=>⟨fun k hk=>(by grind),List.nodup_nil⟩
 | k::r,m,h=>by
  rw[lD,bZ,bZ]at h;obtain⟨h1,h2,h3⟩:=h;obtain⟨q1,q2⟩:=Dw h3;have hx:∀x,x∈r->qg x≠qg k/\FR lZ (qg x) m=false:=fun x hx=>by
   have z:=(q1 x hx).2;rw[MG VG Sh,uc]at z;exact⟨fun e=>(by rw[e,show(k.kind,k.label)=qg k from rfl,Sh]at z;simp_all),z.2⟩
  rw[eg];refine⟨fun x hx'=>?_,Cf.2 ⟨fun hc=>?_,q2⟩⟩
  ·rcases dP.1 hx' with rfl|hx'
   ·exact⟨Ae .. ▸h1,TJ h2⟩
   simp_all
  grind
theorem Ra{u:TUnit}(h:j9 u=true):Lc u:=by
 unfold j9 at h;rw[bZ,bZ]at h;obtain⟨h1,h2,h3⟩:=h;obtain⟨q1,q2⟩:=Dw h2;refine⟨?_,fun k hk=>(q1 k hk).1,q2⟩;unfold iP;cases e:aa u.kind 0 with
 |true=>
  rw[e,cond_true,bZ]at h1;have ek:=i9 e;have hl:=aG (TJ h1.2);simp only[bW]at hl;rw[qk (l:=u.head) (by omega),qk (l:=u.words) (by omega),ek,h3,cond_true,h1.1];rfl
 |false=>
  rw[e,cond_false,bZ,bZ,bZ]at h1;obtain⟨a1,a2,a3,a4⟩:=h1;have hr:¬(u.kind<0\/7<u.kind):=fun q=>by rw[AE q]at a1;cases a1
  rw[jI (show 0<=u.kind by omega),jI (show u.kind<=7 by omega),h3,a3,a4,cond_false,a2];rfl
theorem Qa{u:TUnit}(h:vP j9 u=true):Rg u:=fun x hx=>Ra (kX.1 h x hx)
theorem RU{a i:Int}{l:List PWord}{n:Nat}(h:eM l=true):eM (ce a i (b9 l) n)=true:=L9 (by unfold eM at h;rw[bZ]at h;exact h.2)
theorem QQ(a i:Int):∀u:TUnit,Rg u->∀n w,Rg (co a i u n w):=TUnit.ind fun u ih h n w=>by
 have hs:=h u (cX u);have key:∀r:List TUnit,(∀k,k∈r->k∈u.kids)->∀n w,(dM a i r n w).map qg=r.map qg/\∀k,k∈dM a i r n w->Rg k:=by
  intro r;induction r with
  |nil=>intro _ n w;rw[xa];simp_all
  |cons k r ihr=>
   intro hm n w;obtain⟨a1,a2⟩:=ihr (fun x hx=>hm x (dA _ hx)) (n+nU k) (w+(mT k).length);rw[dM];refine⟨by rw[eg,eg,a1,r8];rfl,fun x hx=>?_⟩;grind[tc]
 obtain⟨k1,k2⟩:=key u.kids (fun _ h=>h) (n+1) (w+u.head.length+u.words.length);have kl:(dM a i u.kids (n+1) (w+u.head.length+u.words.length)).length=u.kids.length:=by simpa using congrArg List.length k1
 rw[r8];refine GL ⟨?_,fun k hk=>?_,by show((dM ..).map qg).Nodup;grind[cases Lc]⟩ k2
 ·have z:=hs.al;unfold iP at z ⊢;simp only[bZ]at z ⊢;obtain⟨z1,z2,z3,z4,z5,z6⟩:=z;refine⟨z1,z2,by show aj (aL 64 (Int.ofNat (dM ..).length))=true;simp_all,RU z4,RU z5,?_⟩;show(bif aa u.kind 0 then dH u.label []&&(aa (.ofNat (ce a i (b9 u.head) w).length) 0&&aa (.ofNat (ce a i (b9 u.words) (w+u.head.length)).length) 0)else gI u.label)=true
  grind[fg,gG]
 ·have hm:qg k∈u.kids.map qg:=k1▸F3 hk;obtain⟨z,z1,z2⟩:=gO.1 hm;have e:z.kind=k.kind:=congrArg Prod.fst z2;show mD u.kind k.kind=true
  grind[cases Lc]
variable{u v x:TUnit}{q:PId}{f:TUnit->TUnit}{a i:Int}
theorem AF(hu:OkB u)(hr:Rg u)(hx:x∈bv u)(hp:iZ (am x) u=true):x.kind≠0:=by
 obtain⟨q,i,h1,_,_,h4,h5⟩:=oH u hp;have hk:=hu.uni (fW h1 (bj (gc h4) (cX _))) hx h5;have:=(hr q h1).ne _ (gc h4);grind[HJ]
theorem LM(hu:OkB u)(hr:Rg u)(hx:Rg x){j:Nat}(hl:(ch q u).kids.length<64)(ht:ld (ch q u) x=0):Rg (cK q (dV j x) u):=by
 refine uo u hr (fun v hv hid=>?_) fun p k _ _ _=>⟨rfl,.inl rfl⟩
 obtain⟨f1,f2⟩:=oa (show bX q u=true by grind[nH]);obtain rfl:=hu.uni f1 hv (f2.trans hid.symm);grind[Xe,wx,UZ]
theorem YO{b:Bool}(h:aj b=false):b=true:=by simp_all
theorem UP{r:TUnit}(hu:OkB u)(hv:v∈bv u){j:Nat}(hj:j<v.kids.length)(hr:r=cK (am v) (fu j) u)(ho:OkB r){was:PId}(hw:was=am v){b:Bool}(h:((aj (bh q was)&&aj (aL (Int.ofNat (ch q r).kids.length) 64))||b)=false)(hg:Rg u):(ch q r).kids.length<64:=by
 rw[uc,Bool.and_eq_false_iff]at h;rcases h.1 with h|h
 ·have e:=sy (YO h);obtain⟨z,z1,z2,z3⟩:=GX (q:=am v) (f:=fu j) u (nH hv);obtain rfl:=hu.uni z1 hv z2;rw[<-hr]at z3;obtain⟨f1,f2⟩:=oa (show bX q r=true by rw[e,hw];show bX (am (fu j z)) r=true;grind[nH]);rw[ho.uni f1 z3 (f2.trans (e.trans hw))];have h1:=K9 (hg z hv).al;show(z.kids.eraseIdx j).length<64
  grind
 ·have z:=ap (YO h);grind
end Go.Ev
