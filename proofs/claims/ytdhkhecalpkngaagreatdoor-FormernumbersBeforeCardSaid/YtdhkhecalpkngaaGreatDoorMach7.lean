/- An abstract machine for runs of the program, proved sound against the model: part 7. No conditions. -/
import Derived.Test.YtdhkhecalpkngaaGreatDoorMach6
import Derived.Laws.Externs
import Derived.Lib.Join
import Derived.Lib.Repeat
namespace Go.Ev
open Go
section
variable{a i:Int}{l r x:List bZ}{s:bZ}{m:List PWord}{j n k:Nat}
theorem sT(h1:l.drop j=x)(h2:x=s::r)(h3:s::r=l):1=[(⟨s,a,i,.ofNat (n+j)⟩:PWord)].length/\0<[(⟨s,a,i,.ofNat (n+j)⟩:PWord)].length/\[(⟨s,a,i,.ofNat (n+j)⟩:PWord)]++cp a i r (n+[(⟨s,a,i,.ofNat (n+j)⟩:PWord)].length)=cp a i l n/\[(⟨s,a,i,.ofNat (n+j)⟩:PWord)].length+r.length=l.length:=by
 have e:=congrArg List.length (h1.trans h2);have e2:=congrArg List.length h3;simp only[yn,cO]at e e2;have:j=0:=by omega
 subst this;refine⟨rfl,Nat.one_pos,?_,by grind⟩;rw[<-h3,cp];rfl
theorem vR(h1:l.drop j=x)(h2:x=s::r)(h:k=m.length/\0<m.length/\m++cp a i (s::r) (n+m.length)=cp a i l n/\m.length+(s::r).length=l.length):
  k+1=(m++[(⟨s,a,i,.ofNat (n+j)⟩:PWord)]).length/\0<(m++[(⟨s,a,i,.ofNat (n+j)⟩:PWord)]).length/\(m++[(⟨s,a,i,.ofNat (n+j)⟩:PWord)])++cp a i r (n+(m++[(⟨s,a,i,.ofNat (n+j)⟩:PWord)]).length)=cp a i l n/\(m++[(⟨s,a,i,.ofNat (n+j)⟩:PWord)]).length+r.length=l.length:=by
 have e:=congrArg List.length (h1.trans h2);obtain⟨q1,q2,q3,q4⟩:=h;simp only[yn,cO]at e q4;have:j=m.length:=by omega
 subst this;simp only[eW,cO,gP];refine⟨by omega,by omega,?_,by omega⟩;rw[<-q3,cp,qY];rfl
end
theorem gT(l:List PWord):(b8 l).length=l.length:=cQ ..
structure StampI(a i:Int)(ks:List TUnit)(n0 w0:Nat)(k n w:Nat)(m:List TUnit):Prop where
 len:m.length=k
 le:k<=ks.length
 all:m++fw a i (ks.drop k) n w=fw a i ks n0 w0
 num:n+eJ (ks.drop k)=n0+eJ ks
 wd:w+(kR (ks.drop k)).length=w0+(kR ks).length
theorem StampI.start(a i:Int)(ks:List TUnit)(n0 w0:Nat):StampI a i ks n0 w0 0 n0 w0 []:=⟨rfl,bD _,rfl,rfl,rfl⟩
theorem StampI.step{a i:Int}{ks:List TUnit}{n0 w0 k n w:Nat}{m:List TUnit}(h:StampI a i ks n0 w0 k n w m)(hk:k<ks.length):
  StampI a i ks n0 w0 (k+1) (n+nU (gD ks k)) (w+(ny (gD ks k)).length) (m++[cP a i (gD ks k) n w]):=by
 have e:=ye hk;obtain⟨h1,h2,h3,h4,h5⟩:=h;rw[e,Dt]at h3;rw[e,be]at h4;rw[e,tz,eW]at h5;exact⟨by simp_all,hk,by simp_all,by omega,by omega⟩
theorem StampI.done{a i:Int}{ks:List TUnit}{n0 w0 k n w:Nat}{m:List TUnit}(h:StampI a i ks n0 w0 k n w m)(hk:¬k<ks.length):m=fw a i ks n0 w0/\n=n0+eJ ks/\w=w0+(kR ks).length:=by grind[Fu,mg,Dg,cases StampI]
theorem XU{α:Type}[Inhabited α]{m r:List α}{k:Nat}(h:m.length=k):gD (m++r) k=gD r 0:=by grind[gD]
theorem Un{α:Type}[Inhabited α]{l:List α}{k:Nat}:gD (l.drop k) 0=gD l k:=by simp_all[gD]
theorem TV{α:Type}{m r:List α}{k:Nat}{x y:α}(h:m.length=k):(m++x::r).set k y=(m++[y])++r:=by simp_all
def gg(a i:Int)(ks:List TUnit)(n0 w0 k n w:Nat)(L:List TUnit):Prop:=∃m,L=m++ks.drop k/\StampI a i ks n0 w0 k n w m
section
variable{a i:Int}{ks L:List TUnit}{n0 w0 k n w:Nat}
theorem gg.start(a i:Int)(ks:List TUnit)(n0 w0:Nat):gg a i ks n0 w0 0 n0 w0 ks:=⟨[],rfl,StampI.start ..⟩
theorem gg.len(h:gg a i ks n0 w0 k n w L):L.length=ks.length:=by
 obtain⟨m,rfl,hI⟩:=h;grind[cases StampI]
theorem gg.at_(h:gg a i ks n0 w0 k n w L):gD L k=gD ks k:=by
 obtain⟨m,rfl,hI⟩:=h;rw[XU hI.len,Un]
theorem gg.step(h:gg a i ks n0 w0 k n w L)(hk:k<ks.length):gg a i ks n0 w0 (k+1) (n+nU (gD L k)) (w+(ny (gD L k)).length) (L.set k (cP a i (gD L k) n w)):=by
 rw[h.at_];obtain⟨m,rfl,hI⟩:=h;exact⟨m++[cP a i (gD ks k) n w],by rw[ye hk,TV hI.len],hI.step hk⟩
theorem gg.num(h:gg a i ks n0 w0 k n w L):n+eJ (ks.drop k)=n0+eJ ks/\w+(kR (ks.drop k)).length=w0+(kR ks).length:=by
 obtain⟨m,rfl,hI⟩:=h;grind[cases StampI]
theorem gg.done(h:gg a i ks n0 w0 k n w L)(hk:¬k<ks.length):L=fw a i ks n0 w0/\n=n0+eJ ks/\w=w0+(kR ks).length:=by
 obtain⟨m,rfl,hI⟩:=h;rw[BH (by omega),ei];exact hI.done hk
theorem gg.room(h:gg a i ks n0 w0 k n w L)(hk:k<ks.length):n+nU (gD L k)<=n0+eJ ks/\w+(ny (gD L k)).length<=w0+(kR ks).length:=by
 have h1:=h.num;rw[h.at_];grind[ye,be,tz]
end
section
variable{α:Type}
structure TotB(lt:α->α->Bool):Prop where
 trans:∀x y z,lt y x=false->lt z y=false->lt z x=false
 asym:∀x y,lt x y=true->lt y x=false
variable{lt:α->α->Bool}
theorem TotB.down(T:TotB lt){x y z:α}(h1:lt z y=false)(h2:lt z x=true):lt y x=true:=by
 cases h:lt y x with
 |true=>rfl
 |false=>grind[cases TotB]
theorem TotB.up(T:TotB lt){x y z:α}(h1:lt x y=true)(h2:lt z y=false):lt x z=true:=by
 cases h:lt x z with
 |true=>rfl
 |false=>grind[cases TotB]
end
section
variable{α:Type}[Inhabited α]{lt:α->α->Bool}{l x y z w:List α}{a b m n i j k s e p d:Nat}
theorem wW(h:l.length<=i):gD l i=default:=by grind[gD]
theorem XY{v:α}(h:i<l.length):gD (l.set i v) k=if k=i then v else gD l k:=by
 unfold gD;grind
theorem re(hi:i<l.length)(hj:j<l.length):((l.set i (gD l j)).set j (gD l i)).Perm l:=by grind[gD,List.set_set_perm]
theorem yQ(hi:i<l.length)(hj:j<l.length)(q:Nat):gD ((l.set i (gD l j)).set j (gD l i)) q=if q=j then gD l i else if q=i then gD l j else gD l q:=by grind[XY]
def du(lt:α->α->Bool)(l:List α)(a b:Nat):Prop:=∀i j,a<=i->i<j->j<b->lt (gD l j) (gD l i)=false
structure SSeg(lt:α->α->Bool)(l x:List α)(a b:Nat):Prop where
 perm:x.Perm l
 out:∀i,i<a\/b<=i->gD x i=gD l i
 src:∀i,a<=i->i<b->∃j,a<=j/\j<b/\gD x i=gD l j
 srt:du lt x a b
theorem SSeg.len(h:SSeg lt l x a b):x.length=l.length:=h.perm.length_eq
theorem mF(h:du lt l a b):SSeg lt l l a b:=⟨.refl _,fun _ _=>rfl,fun i h1 h2=>⟨i,h1,h2,rfl⟩,h⟩
theorem SSeg.cast{p q:Nat}(h:SSeg lt l x p q)(hp:p=a)(hq:q=b):SSeg lt l x a b:=by simp_all
theorem du.nil(h:b<=a+1):du lt l a b:=fun i j _ _ _=>by omega
theorem du.sub(h:du lt l a b)(h1:a<=i)(h2:j<=b):du lt l i j:=fun p q e1 e2 e3=>h p q (by omega) e2 (by omega)
theorem du.le(T:TotB lt)(h:du lt l a b)(h1:a<=i)(h2:i<=j)(h3:j<b):lt (gD l j) (gD l i)=false:=by
 rcases eA i j with q|q
 ·exact h i j h1 q h3
 grind[cases TotB]
structure InsI(lt:α->α->Bool)(l x:List α)(a i j:Nat):Prop where
 perm:x.Perm l
 out:∀q,q<a\/i+1<=q->gD x q=gD l q
 src:∀q,a<=q->q<i+1->∃p,a<=p/\p<i+1/\gD x q=gD l p
 mid:∀p q,a<=p->p<q->q<=i->q≠j->lt (gD x q) (gD x p)=false
theorem InsI.start(h:SSeg lt l x a (min i b))(h1:i<b):InsI lt l x a i i:=by
 rw[show min i b=i by omega]at h;refine⟨h.perm,fun q hq=>h.out q (by omega),fun q h1 h2=>?_,fun p q h1 h2 h3 h4=>h.srt p q h1 h2 (by omega)⟩;grind[cases SSeg]
theorem InsI.step(T:TotB lt)(h:InsI lt l x a i j)(hi:i<l.length)(h1:a<j)(h2:j<=i)(hk:k+1=j)(hl:lt (gD x j) (gD x k)=true):InsI lt l ((x.set j (gD x k)).set k (gD x j)) a i k:=by
 have hx:x.length=l.length:=h.perm.length_eq;have hj:j<x.length:=by omega
 have hkx:k<x.length:=by omega
 have g:=yQ hj hkx;refine⟨(re hj hkx).trans h.perm,fun q hq=>?_,fun q q1 q2=>?_,fun p q h3 h4 h5 h6=>?_⟩
 ·rw[g,if_neg (by omega),if_neg (by omega)];exact h.out q hq
 ·rw[g];split
  ·grind[cases InsI]
  ·split
   ·grind[cases InsI]
   ·exact h.src q q1 q2
 ·rw[g,g];rw[if_neg (show ¬q=k by omega)];by_cases c1:q=j
  ·rw[if_pos c1];by_cases c2:p=k
   ·rw[if_pos c2];exact T.asym _ _ hl
   ·grind[cases InsI]
  ·rw[if_neg c1];by_cases c2:p=k
   ·grind[cases InsI]
   ·rw[if_neg c2];by_cases c3:p=j
    ·grind[cases InsI]
    ·rw[if_neg c3];exact h.mid p q h3 h4 h5 c1
theorem InsI.stop(T:TotB lt)(h:InsI lt l x a i j)(ha:a<=j)(h2:j<=i)(hb:i<b)(hs:s=i+1)(hl:j=a\/∃k,k+1=j/\lt (gD x j) (gD x k)=false):SSeg lt l x a (min s b):=by
 rw[show min s b=i+1 by omega];refine⟨h.perm,h.out,h.src,fun p q h3 h4 h5=>?_⟩;grind[cases TotB,cases InsI]
theorem Ni(hab:a<=b):SSeg lt l l a (min (a+1) b):=mF (du.nil (by omega))
theorem Ql(h:SSeg lt l x a (min i b))(hi:b<=i):SSeg lt l x a b:=by simp_all
def sw(a b m i:Nat):Nat:=if a<=i/\i<a+m then i-a+b else if b<=i/\i<b+m then i-b+a else i
structure SwP(l x:List α)(a b m:Nat):Prop where
 perm:x.Perm l
 at_:∀i,i<l.length->gD x i=gD l (sw a b m i)
theorem SwP.len(h:SwP l x a b m):x.length=l.length:=h.perm.length_eq
theorem SwP.start:SwP l l a b 0:=⟨.refl _,fun i _=>by simp_all[sw,if_neg]⟩
theorem SwP.step(h:SwP l x a b k)(hk:k<m)(ha:a+m<=b)(hb:b+m<=l.length)(hi:i=a+k)(hj:j=b+k)(hs:s=k+1):SwP l ((x.set i (gD x j)).set j (gD x i)) a b s:=by
 subst hi hj hs;have hx:x.length=l.length:=h.perm.length_eq;have h1:a+k<x.length:=by omega
 have h2:b+k<x.length:=by omega
 refine⟨(re h1 h2).trans h.perm,fun q hq=>?_⟩;rw[yQ h1 h2];by_cases c1:q=b+k
 ·rw[if_pos c1,h.at_ _ (by omega)];congr 1;unfold sw;grind
 ·rw[if_neg c1];by_cases c2:q=a+k
  ·rw[if_pos c2,h.at_ _ (by omega)];congr 1;unfold sw;grind
  ·rw[if_neg c2,h.at_ _ (by omega)];congr 1;unfold sw;grind
theorem SwP.done(h:SwP l x a b k)(hk:k=m):SwP l x a b m:=hk▸h
def ro(a m b i:Nat):Nat:=if a<=i/\i<a+(b-m)then i-a+m else if a+(b-m)<=i/\i<b then i-(b-m)else i
structure RoP(l x:List α)(a m b:Nat):Prop where
 perm:x.Perm l
 at_:∀q,q<l.length->gD x q=gD l (ro a m b q)
theorem RoP.len(h:RoP l x a m b):x.length=l.length:=h.perm.length_eq
theorem RoP.cast{p q r:Nat}(h:RoP l x p q r)(hp:p=a)(hq:q=m)(hr:r=b):RoP l x a m b:=by simp_all
structure RoI(l x:List α)(a m b i j:Nat):Prop where
 perm:x.Perm l
 i0:0<i
 j0:0<j
 im:i<=m
 jn:m+j<=l.length
 at_:∀q,q<l.length->gD x (ro (m-i) m (m+j) q)=gD l (ro a m b q)
theorem RoI.len(h:RoI l x a m b i j):x.length=l.length:=h.perm.length_eq
theorem RoI.start(ha:a<m)(hm:m<b)(hb:b<=l.length)(hi:i=m-a)(hj:j=b-m):RoI l l a m b i j:=by
 subst hi hj;refine⟨.refl _,by omega,by omega,by omega,by omega,fun q _=>?_⟩;grind
theorem Vr(ham:a<=m)(hmb:m<=b)(hb:b<=n)(hi:i<n):ro a m b i<n:=by grind[ro]
theorem RoI.left{p q r:Nat}(h:RoI l x a m b i j)(hs:SwP x y p q r)(hp:p=m-i)(hq:q=m)(hr:r=j)(hij:j<i)(hk:k=i-j):RoI l y a m b k j:=by
 subst hk;subst hp;have hq:=hq.symm;subst hq;have hr:=hr.symm;subst hr;have hi:=h.im;have hj:=h.jn;have h0:=h.j0;refine⟨hs.perm.trans h.perm,by omega,h0,by omega,hj,fun q hq=>?_⟩;rw[hs.at_ _ (by rw[h.len];simp_all[Vr]),<-h.at_ q hq];congr 1;unfold sw ro;grind
theorem RoI.right{p q r:Nat}(h:RoI l x a m b i j)(hs:SwP x y p q r)(hp:p=m-i)(hq:q=m+j-i)(hr:r=i)(hij:i<j)(hk:k=j-i):RoI l y a m b i k:=by
 subst hk;subst hp;have hq:=hq.symm;subst hq;have hr:=hr.symm;subst hr;have hi:=h.im;have hj:=h.jn;have h0:=h.i0;refine⟨hs.perm.trans h.perm,h0,by omega,hi,by omega,fun q hq=>?_⟩;rw[hs.at_ _ (by rw[h.len];exact Vr (by omega) (by omega) (by omega) hq),<-h.at_ q hq];congr 1;unfold sw ro;by_cases c1:m-i<=q/\q<m-i+(m+(j-i)-m)
 ·grind
 ·rw[if_neg c1];by_cases c2:m-i+(m+(j-i)-m)<=q/\q<m+(j-i)
  ·grind
  ·rw[if_neg c2];grind
theorem RoI.stop{p q r:Nat}(h:RoI l x a m b i j)(hs:SwP x y p q r)(hp:p=m-i)(hq:q=m)(hr:r=i)(hij:i=j):RoP l y a m b:=by
 subst hij;subst hp;have hq:=hq.symm;subst hq;have hr:=hr.symm;subst hr;have hi:=h.im;have hj:=h.jn;refine⟨hs.perm.trans h.perm,fun q hq=>?_⟩;rw[hs.at_ _ (by rw[h.len];omega),<-h.at_ q hq];congr 1;unfold sw ro;grind
theorem RoP.none(h:m<=a\/b<=m)(ham:a<=m)(hmb:m<=b):RoP l l a m b:=⟨.refl _,fun q _=>by
 congr 1;unfold ro;grind⟩
structure FstI(lt:α->α->Bool)(l:List α)(a m b i j:Nat):Prop where
 mi:m<=i
 ij:i<=j
 jb:j<=b
 lo:∀q,m<=q->q<i->lt (gD l q) (gD l a)=true
 hi:∀q,j<=q->q<b->lt (gD l q) (gD l a)=false
theorem FstI.start(h:m<=b):FstI lt l a m b m b:=⟨by omega,by omega,by omega,fun q _ _=>by omega,fun q _ _=>by omega⟩
theorem FstI.more(T:TotB lt)(h:FstI lt l a m b i j)(hs:du lt l m b)(hl:lt (gD l k) (gD l a)=true)(h1:i<=k)(h2:k<j)(hk:e=k+1):FstI lt l a m b e j:=by
 subst hk;have:=h.mi;have:=h.jb;refine⟨by omega,by omega,h.jb,fun q q1 q2=>?_,h.hi⟩;exact T.down (hs.le T q1 (by omega) (by omega)) hl
theorem FstI.less(T:TotB lt)(h:FstI lt l a m b i j)(hs:du lt l m b)(hl:lt (gD l k) (gD l a)=false)(h1:i<=k)(h2:k<j):FstI lt l a m b i k:=by
 have:=h.mi;have:=h.jb;refine⟨h.mi,by omega,by omega,h.lo,fun q q1 q2=>?_⟩;exact T.trans _ _ _ hl (hs.le T (by omega) q1 q2)
structure UpI(l x:List α)(a k:Nat):Prop where
 perm:x.Perm l
 at_:∀q,q<l.length->gD x q=gD l (if a<=q/\q<k then q+1 else if q=k then a else q)
theorem UpI.len(h:UpI l x a k):x.length=l.length:=h.perm.length_eq
theorem UpI.start:UpI l l a a:=⟨.refl _,fun q _=>by grind⟩
theorem UpI.step(h:UpI l x a k)(hk:a<=k)(hn:k+1<l.length)(he:e=k+1):UpI l ((x.set k (gD x e)).set e (gD x k)) a e:=by
 subst he;have hx:=h.len;have h1:k<x.length:=by omega
 have h2:k+1<x.length:=by omega
 refine⟨(re h1 h2).trans h.perm,fun q hq=>?_⟩;rw[yQ h1 h2];by_cases c1:q=k+1
 ·rw[if_pos c1,h.at_ _ (by omega),if_neg (by omega),if_pos rfl,if_neg (by omega),if_pos c1]
 ·rw[if_neg c1];by_cases c2:q=k
  ·rw[if_pos c2,h.at_ _ (by omega),if_neg (by omega),if_neg (by omega),if_pos (by omega),c2]
  ·rw[if_neg c2,h.at_ _ hq];grind
theorem UpI.stop(T:TotB lt)(h:UpI l x a k)(hf:FstI lt l a m b i j)(hs:du lt l m b)(hma:m=a+1)(hij:j<=i)(hk:k+1=i)(hb:b<=l.length):SSeg lt l x a b:=by
 have q1:=hf.mi;have q2:=hf.ij;have q3:=hf.jb;refine⟨h.perm,fun q hq=>?_,fun q h1 h2=>?_,fun p q h1 h2 h3=>?_⟩
 ·rcases eA q l.length with c|c
  ·rw[h.at_ q c,if_neg (by omega),if_neg (by omega)]
  ·rw[wW (by rw[h.len];omega),wW c]
 ·rw[h.at_ q (by omega)];grind
 ·rw[h.at_ p (by omega),h.at_ q (by omega)];by_cases c1:p<k
  ·rw[if_pos (show a<=p/\p<k by omega)];by_cases c2:q<k
   ·rw[if_pos (show a<=q/\q<k by omega)];exact hs _ _ (by omega) (by omega) (by omega)
   ·rw[if_neg (show ¬(a<=q/\q<k) by omega)];by_cases c3:q=k
    ·grind[cases TotB,cases FstI]
    ·grind[cases TotB,cases FstI]
  ·rw[if_neg (show ¬(a<=p/\p<k) by omega),if_neg (show ¬(a<=q/\q<k) by omega),if_neg (show ¬q=k by omega)];by_cases c3:p=k
   ·rw[if_pos c3];exact hf.hi _ (by omega) (by omega)
   ·rw[if_neg c3];exact hs _ _ (by omega) (by omega) (by omega)
structure LstI(lt:α->α->Bool)(l:List α)(a m i j:Nat):Prop where
 ai:a<=i
 ij:i<=j
 jm:j<=m
 lo:∀q,a<=q->q<i->lt (gD l m) (gD l q)=false
 hi:∀q,j<=q->q<m->lt (gD l m) (gD l q)=true
theorem LstI.start(h:a<=m):LstI lt l a m a m:=⟨by omega,by omega,by omega,fun q _ _=>by omega,fun q _ _=>by omega⟩
theorem LstI.more(T:TotB lt)(h:LstI lt l a m i j)(hs:du lt l a m)(hl:lt (gD l m) (gD l k)=false)(h1:i<=k)(h2:k<j)(hk:e=k+1):LstI lt l a m e j:=by
 subst hk;have:=h.ai;have:=h.jm;refine⟨by omega,by omega,h.jm,fun q q1 q2=>?_,h.hi⟩;exact T.trans _ _ _ (hs.le T q1 (by omega) (by omega)) hl
theorem LstI.less(T:TotB lt)(h:LstI lt l a m i j)(hs:du lt l a m)(hl:lt (gD l m) (gD l k)=true)(h1:i<=k)(h2:k<j):LstI lt l a m i k:=by
 have:=h.ai;have:=h.jm;refine⟨h.ai,by omega,by omega,h.lo,fun q q1 q2=>?_⟩;exact T.up hl (hs.le T (by omega) q1 q2)
structure DnI(l x:List α)(m k:Nat):Prop where
 perm:x.Perm l
 at_:∀q,q<l.length->gD x q=gD l (if k<q/\q<=m then q-1 else if q=k then m else q)
theorem DnI.len(h:DnI l x m k):x.length=l.length:=h.perm.length_eq
theorem DnI.start:DnI l l m m:=⟨.refl _,fun q _=>by grind⟩
theorem DnI.step(h:DnI l x m k)(hk:k<=m)(hn:m<l.length)(he:e+1=k):DnI l ((x.set k (gD x e)).set e (gD x k)) m e:=by
 subst he;have hx:=h.len;have h1:e+1<x.length:=by omega
 have h2:e<x.length:=by omega
 refine⟨(re h1 h2).trans h.perm,fun q hq=>?_⟩;rw[yQ h1 h2];by_cases c1:q=e
 ·rw[if_pos c1,h.at_ _ (by omega),if_neg (by omega),if_pos rfl,if_neg (by omega),if_pos c1]
 ·rw[if_neg c1];by_cases c2:q=e+1
  ·rw[if_pos c2,h.at_ _ (by omega),if_neg (by omega),if_neg (by omega),if_pos (by omega)];simp_all
  ·rw[if_neg c2,h.at_ _ hq];grind
theorem DnI.stop(T:TotB lt)(h:DnI l x m k)(hf:LstI lt l a m i j)(hs:du lt l a m)(hmb:b=m+1)(hij:j<=i)(hk:k=i)(hb:b<=l.length):SSeg lt l x a b:=by
 have q1:=hf.ai;have q2:=hf.ij;have q3:=hf.jm;refine⟨h.perm,fun q hq=>?_,fun q h1 h2=>?_,fun p q h1 h2 h3=>?_⟩
 ·rcases eA q l.length with c|c
  ·rw[h.at_ q c,if_neg (by omega),if_neg (by omega)]
  ·rw[wW (by rw[h.len];omega),wW c]
 ·rw[h.at_ q (by omega)];grind
 ·rw[h.at_ p (by omega),h.at_ q (by omega)];by_cases c1:q<=k
  ·rw[if_neg (show ¬(k<q/\q<=m) by omega),if_neg (show ¬(k<p/\p<=m) by omega),if_neg (show ¬p=k by omega)];by_cases c3:q=k
   ·rw[if_pos c3];exact hf.lo _ h1 (by omega)
   ·rw[if_neg c3];exact hs _ _ h1 h2 (by omega)
  ·rw[if_pos (show k<q/\q<=m by omega)];by_cases c2:k<p
   ·rw[if_pos (show k<p/\p<=m by omega)];exact hs _ _ (by omega) (by omega) (by omega)
   ·rw[if_neg (show ¬(k<p/\p<=m) by omega)];by_cases c3:p=k
    ·grind[cases TotB,cases LstI]
    ·rw[if_neg c3];exact hs _ _ h1 (by omega) (by omega)
structure CutI(lt:α->α->Bool)(l:List α)(lo hi p i j:Nat):Prop where
 li:lo<=i
 ij:i<=j
 jh:j<=hi
 low:∀c,lo<=c->c<i->lt (gD l (p-c)) (gD l c)=false
 high:∀c,j<=c->c<hi->lt (gD l (p-c)) (gD l c)=true
variable{lo hi:Nat}
theorem CutI.start(h:lo<=hi):CutI lt l lo hi p lo hi:=⟨by omega,by omega,by omega,fun q _ _=>by omega,fun q _ _=>by omega⟩
theorem CutI.more(T:TotB lt)(h:CutI lt l lo hi p i j)(hA:du lt l a m)(hB:du lt l m b)(hl:lt (gD l s) (gD l k)=false)(b1:a<=lo)(b2:hi<=m)(b3:m+hi<=p+1)(b4:p<b+lo)(h1:i<=k)(h2:k<j)(hk:e=k+1)(hs:s=p-k):CutI lt l lo hi p e j:=by
 subst hk hs;have:=h.li;have:=h.jh;refine⟨by omega,by omega,h.jh,fun c c1 c2=>?_,h.high⟩;exact T.trans _ _ _ (hA.le T (i:=c) (j:=k) (by omega) (by omega) (by omega)) (T.trans _ _ _ hl (hB.le T (i:=p-k) (j:=p-c) (by omega) (by omega) (by omega)))
theorem CutI.less(T:TotB lt)(h:CutI lt l lo hi p i j)(hA:du lt l a m)(hB:du lt l m b)(hl:lt (gD l s) (gD l k)=true)(b1:a<=lo)(b2:hi<=m)(b3:m+hi<=p+1)(b4:p<b+lo)(h1:i<=k)(h2:k<j)(hs:s=p-k):CutI lt l lo hi p i k:=by
 subst hs;have:=h.li;have:=h.jh;refine⟨h.li,by omega,by omega,h.low,fun c c1 c2=>?_⟩;exact T.down (hB.le T (i:=p-c) (j:=p-k) (by omega) (by omega) (by omega)) (T.up hl (hA.le T (i:=k) (j:=c) (by omega) (by omega) (by omega)))
theorem NR(T:TotB lt)(h:CutI lt l lo hi p s s)(hA:du lt l a m)(hB:du lt l m b)(hr:RoP l y s m e)(hab:b<=l.length)
  (d1:d+m=p+1)(e1:e+s=p+1)(f1:a<=s)(f2:s<=m)(f3:m<=e)(f4:e<=b)(f5:lo<s\/s=a\/e=b)(f6:s<hi\/s=m\/e=m):
  ∀i j,a<=i->i<d->d<=j->j<b->lt (gD y j) (gD y i)=false:=by
 intro i j h1 h2 h3 h4;rw[hr.at_ i (by omega),hr.at_ j (by omega)];unfold ro;by_cases c1:i<s
 ·rw[if_neg (show ¬(s<=i/\i<s+(e-m)) by omega),if_neg (show ¬(s+(e-m)<=i/\i<e) by omega)];rw[if_neg (show ¬(s<=j/\j<s+(e-m)) by omega)];by_cases c2:j<e
  ·rw[if_pos (show s+(e-m)<=j/\j<e by omega)];exact hA.le T h1 (by omega) (by omega)
  ·rw[if_neg (show ¬(s+(e-m)<=j/\j<e) by omega)];have hc:=h.low (s-1) (by omega) (by omega);rw[show p-(s-1)=e by omega]at hc;exact T.trans _ _ _ (hA.le T (i:=i) (j:=s-1) h1 (by omega) (by omega)) (T.trans _ _ _ hc (hB.le T (i:=e) (j:=j) (by omega) (by omega) h4))
 ·rw[if_pos (show s<=i/\i<s+(e-m) by omega),if_neg (show ¬(s<=j/\j<s+(e-m)) by omega)];by_cases c2:j<e
  ·rw[if_pos (show s+(e-m)<=j/\j<e by omega)];have hc:=h.high s (by omega) (by omega);rw[show p-s=e-1 by omega]at hc;refine T.asym _ _ (T.up (T.down (hB.le T (i:=i-s+m) (j:=e-1) (by omega) (by omega) (by omega)) hc) (hA.le T (i:=s) (j:=j-(e-m)) (by omega) (by omega) (by omega)))
  ·rw[if_neg (show ¬(s+(e-m)<=j/\j<e) by omega)];exact hB.le T (by omega) (by omega) h4
theorem RoP.left(hr:RoP l y s m e)(hA:du lt l a m)(f2:s<=m)(f3:m<=e)(f4:e<=l.length):du lt y a s:=fun i j h1 h2 h3=>by
 rw[hr.at_ i (by omega),hr.at_ j (by omega)];unfold ro;rw[if_neg (by omega),if_neg (by omega),if_neg (by omega),if_neg (by omega)];exact hA i j h1 h2 (by omega)
theorem RoP.mid1(hr:RoP l y s m e)(hB:du lt l m b)(f3:m<=e)(f4:e<=b)(f2:s<=m)(hb:b<=l.length)(hd:d=s+(e-m)):du lt y s d:=fun i j h1 h2 h3=>by
 rw[hr.at_ i (by omega),hr.at_ j (by omega)];unfold ro;rw[if_pos (by omega),if_pos (by omega)];exact hB _ _ (by omega) (by omega) (by omega)
theorem RoP.mid2(hr:RoP l y s m e)(hA:du lt l a m)(f1:a<=s)(f2:s<=m)(f3:m<=e)(f4:e<=l.length)(hd:d=s+(e-m)):du lt y d e:=fun i j h1 h2 h3=>by
 rw[hr.at_ i (by omega),hr.at_ j (by omega)];unfold ro;rw[if_neg (by omega),if_pos (by omega),if_neg (by omega),if_pos (by omega)];exact hA _ _ (by omega) (by omega) (by omega)
theorem RoP.right(hr:RoP l y s m e)(hB:du lt l m b)(f2:s<=m)(f3:m<=e)(hb:b<=l.length):du lt y e b:=fun i j h1 h2 h3=>by
 rw[hr.at_ i (by omega),hr.at_ j (by omega)];unfold ro;rw[if_neg (by omega),if_neg (by omega),if_neg (by omega),if_neg (by omega)];exact hB i j (by omega) h2 h3
theorem RoP.lower(hr:RoP l y s m e)(hA:du lt l a m)(hB:du lt l m b)(hd:d+m=s+e)(h:s<=a\/d<=s)(f1:a<=s)(f2:s<=m)(f3:m<=e)(f4:e<=b)(hb:b<=l.length):du lt y a d:=by
 rcases h with h|h
 ·have:=hr.mid1 hB f3 f4 f2 hb (d:=d) (by omega);grind
 ·have:=hr.left hA f2 f3 (by omega);grind
theorem RoP.upper(hr:RoP l y s m e)(hA:du lt l a m)(hB:du lt l m b)(hd:d+m=s+e)(h:b<=e\/e<=d)(f1:a<=s)(f2:s<=m)(f3:m<=e)(f4:e<=b)(hb:b<=l.length):du lt y d b:=by
 rcases h with h|h
 ·have:=hr.mid2 hA f1 f2 f3 (by omega) (d:=d) (by omega);grind
 ·have:=hr.right hB f2 f3 hb;grind
theorem XJ(hr:RoP l y s m e)(hz:SSeg lt y z a d)(hw:SSeg lt z w d b)(had:a<=d)(hdb:d<=b)(hb:b<=l.length)(f1:a<=s)(f2:s<=m)(f3:m<=e)(f4:e<=b)
  (hx:∀i j,a<=i->i<d->d<=j->j<b->lt (gD y j) (gD y i)=false):SSeg lt l w a b:=by
 have hro:∀q,a<=q->q<b->a<=ro s m e q/\ro s m e q<b:=fun q h1 h2=>by grind[ro]
 have hy:∀q,q<a\/b<=q->gD y q=gD l q:=fun q hq=>by
  rcases eA q l.length with c|c
  ·rw[hr.at_ q c];congr 1;unfold ro;grind
  ·rw[wW (by rw[hr.len];omega),wW c]
 refine⟨hw.perm.trans (hz.perm.trans hr.perm),fun q hq=>?_,fun q h1 h2=>?_,fun i j h1 h2 h3=>?_⟩
 ·grind[cases SSeg]
 ·rcases eA q d with c|c
  ·obtain⟨j,j1,j2,j3⟩:=hz.src q h1 c;have:=hro j j1 (by omega);exact⟨_,this.1,this.2,by rw[hw.out q (.inl c),j3,hr.at_ j (by omega)]⟩
  ·obtain⟨j,j1,j2,j3⟩:=hw.src q c h2;have:=hro j (by omega) j2;exact⟨_,this.1,this.2,by rw[j3,hz.out j (.inr j1),hr.at_ j (by omega)]⟩
 ·rcases eA j d with c|c
  ·rw[hw.out i (.inl (by omega)),hw.out j (.inl c)];exact hz.srt i j h1 h2 c
  ·rcases eA i d with c2|c2
   ·obtain⟨i',i1,i2,i3⟩:=hz.src i h1 c2;obtain⟨j',j1,j2,j3⟩:=hw.src j c h3;rw[hw.out i (.inl c2),i3,j3,hz.out j' (.inr j1)];simp_all
   ·exact hw.srt i j c2 h2 h3
theorem vP(T:TotB lt)(h:CutI lt l lo hi p i s)(hA:du lt l a m)(hB:du lt l m b)(hr:RoP l y i m e)(hz:SSeg lt y z a d)(hw:SSeg lt z w d b)(his:s<=i)(hd:d+m=p+1)(he:e+i=p+1)(had:a<=d)(hdb:d<=b)(hb:b<=l.length)(f1:a<=i)(f2:i<=m)(f3:m<=e)(f4:e<=b)(f5:lo<i\/i=a\/e=b)(f6:i<hi\/i=m\/e=m):SSeg lt l w a b:=by
 have:i=s:=Nat.le_antisymm h.ij his;grind[XJ,NR]
theorem SSeg.keep(h:SSeg lt l x a b)(hs:du lt l i j)(hd:j<=a\/b<=i):du lt x i j:=fun p q h1 h2 h3=>by rw[h.out p (by omega),h.out q (by omega)];exact hs p q h1 h2 h3
def Oy(lt:α->α->Bool)(x:List α)(s n:Nat):Prop:=∀c,du lt x (c*s) (min ((c+1)*s) n)
theorem rL{t c d:Nat}(h:a=d*t):(c+1)*t<=a\/c=d\/a+t<=c*t:=by
 subst h;rcases Nat.lt_trichotomy c d with q|q|q
 ·exact .inl (eB _ q)
 ·omega
 ·refine .inr (.inr ?_);have:=eB t q;grind
structure BlkA(lt:α->α->Bool)(l x:List α)(s a:Nat):Prop where
 perm:x.Perm l
 dv:∃c,a=c*s
 ok:∀c,du lt x (c*s) (min ((c+1)*s) a)
theorem BlkA.len(h:BlkA lt l x s a):x.length=l.length:=h.perm.length_eq
theorem BlkA.start:BlkA lt l l s 0:=⟨.refl _,⟨0,by omega⟩,fun c=>du.nil (by omega)⟩
theorem BlkA.step(h:BlkA lt l x s a)(hy:SSeg lt x y a b)(hb:b=a+s):BlkA lt l y s b:=by
 obtain⟨d,hd⟩:=h.dv;subst hb;refine⟨hy.perm.trans h.perm,⟨d+1,by grind⟩,fun c=>?_⟩;rcases rL (c:=c) hd with q|q|q
 ·have:=h.ok c;rw[show min ((c+1)*s) a=(c+1)*s by omega]at this;rw[show min ((c+1)*s) (a+s)=(c+1)*s by omega];exact hy.keep this (.inl q)
 all_goals grind[du.nil,cases SSeg]
theorem BlkA.last(h:BlkA lt l x s a)(hy:SSeg lt x y a n)(hn:n<a+s)(ha:a<=n):y.Perm l/\Oy lt y s n:=by
 obtain⟨d,hd⟩:=h.dv;refine⟨hy.perm.trans h.perm,fun c=>?_⟩;rcases rL (c:=c) hd with q|q|q
 ·have:=h.ok c;rw[show min ((c+1)*s) a=(c+1)*s by omega]at this;rw[show min ((c+1)*s) n=(c+1)*s by omega];exact hy.keep this (.inl q)
 all_goals grind[du.nil,cases SSeg]
structure BlkB(lt:α->α->Bool)(l x:List α)(s a n:Nat):Prop where
 perm:x.Perm l
 dv:∃c,a=c*(2*s)
 ok:∀c,du lt x (c*(2*s)) (min ((c+1)*(2*s)) a)
 rest:∀c,a<=c*s->du lt x (c*s) (min ((c+1)*s) n)
theorem BlkB.len(h:BlkB lt l x s a n):x.length=l.length:=h.perm.length_eq
theorem BlkB.start(h:x.Perm l/\Oy lt x s n):BlkB lt l x s 0 n:=⟨h.1,⟨0,by omega⟩,fun c=>du.nil (by omega),fun c _=>h.2 c⟩
theorem BlkB.pre1(h:BlkB lt l x s a n)(hm:m=a+s)(hn:m<=n):du lt x a m:=by
 obtain⟨d,hd⟩:=h.dv;have e:a=(d*2)*s:=by grind
 have:=h.rest (d*2) (by omega);grind
theorem BlkB.pre2(h:BlkB lt l x s a n)(hm:m=a+s)(hb:b<=m+s)(hn:b<=n):du lt x m b:=by
 obtain⟨d,hd⟩:=h.dv;have e:a=(d*2)*s:=by grind
 have e2:m=(d*2+1)*s:=by grind
 have:=h.rest (d*2+1) (by omega);rw[<-e2,qV,<-e2]at this;exact this.sub (ah _) (by omega)
theorem BlkB.step(h:BlkB lt l x s a n)(hy:SSeg lt x y a b)(hb:b=a+2*s):BlkB lt l y s b n:=by
 obtain⟨d,hd⟩:=h.dv;subst hb;refine⟨hy.perm.trans h.perm,⟨d+1,by grind⟩,fun c=>?_,fun c hc=>hy.keep (h.rest c (by omega)) (.inr hc)⟩;rcases rL (c:=c) hd with q|q|q
 ·have:=h.ok c;rw[show min ((c+1)*(2*s)) a=(c+1)*(2*s) by omega]at this;rw[show min ((c+1)*(2*s)) (a+2*s)=(c+1)*(2*s) by omega];exact hy.keep this (.inl q)
 all_goals grind[du.nil,cases SSeg]
theorem BlkB.last(h:BlkB lt l x s a n)(hy:SSeg lt x y a n)(hn:n<a+2*s)(ht:d=2*s)(ha:a<=n):y.Perm l/\Oy lt y d n:=by
 subst ht;obtain⟨d,hd⟩:=h.dv;refine⟨hy.perm.trans h.perm,fun c=>?_⟩;rcases rL (c:=c) hd with q|q|q
 ·have:=h.ok c;rw[show min ((c+1)*(2*s)) a=(c+1)*(2*s) by omega]at this;rw[show min ((c+1)*(2*s)) n=(c+1)*(2*s) by omega];exact hy.keep this (.inl q)
 all_goals grind[du.nil,cases SSeg]
theorem BlkB.one(h:BlkB lt l x s a n)(hn:n<=a+s):SSeg lt x x a n:=by
 obtain⟨d,hd⟩:=h.dv;have e:a=(d*2)*s:=by grind
 have:=h.rest (d*2) (by omega);simp_all[qV,mF]
theorem Oy.all(h:Oy lt x s n)(hn:n<=s):du lt x 0 n:=by
 have:=h 0;simp_all
theorem du.pair:∀{x:List α},du lt x 0 x.length->x.Pairwise fun u v=>lt v u=false
 |[],_=>.nil
 | u::r,h=>j9.2 ⟨fun v hv=>by
   obtain⟨i,hi,rfl⟩:=FX hv;have:=h 0 (i+1) (by omega) (by omega) (by simp_all);have e:gD (u::r) (i+1)=r[i]:=by grind[gD]
   rw[e]at this;exact this,du.pair fun i j _ h2 h3=>h (i+1) (j+1) (by omega) (by omega) (by simp_all)⟩
end
section
variable{α:Type}{lt:α->α->Bool}
theorem Ce:∀{x y:List α},x.Pairwise (fun u v=>lt v u=false)->y.Pairwise (fun u v=>lt v u=false)->x.Perm y->(∀u v,u∈x->v∈x->lt u v=false->lt v u=false->u=v)->x=y
 |[],y,_,_,hp,_=>hp.nil_eq
 |u::r,[],_,_,hp,_=>by simp_all
 |u::r,v::t,hx,hy,hp,H=>by
  obtain⟨x1,x2⟩:=j9.1 hx;obtain⟨y1,y2⟩:=j9.1 hy;have hv:v∈u::r:=hp.mem_iff.2 (e9 ..);have hu:u∈v::t:=hp.mem_iff.1 (e9 ..);have e:u=v:=by grind
  subst e;rw[Ce x2 y2 ((List.perm_cons u).1 hp) fun a b ha hb=>H a b (fQ _ ha) (fQ _ hb)]
def Ex(lt:α->α->Bool)(a:α):List α->List α
 |[]=>[a]
 |b::r=>match lt b a with|true=>b::Ex lt a r|false=>a::b::r
def PJ(lt:α->α->Bool)(l:List α):List α:=l.foldl (fun o a=>Ex lt a o) []
theorem wQ(a:α):∀(l:List α),(Ex lt a l).Perm (a::l)
 |[]=>.refl _
 |b::r=>by
  unfold Ex;cases lt b a with
  |true=>exact((wQ a r).cons b).trans (.swap a b r)
  |false=>simp_all
theorem CI(T:TotB lt)(a:α):∀{l:List α},l.Pairwise (fun u v=>lt v u=false)->(Ex lt a l).Pairwise (fun u v=>lt v u=false)
 |[],_=>List.pairwise_singleton ..
 | b::r,h=>by
  obtain⟨h1,h2⟩:=j9.1 h;unfold Ex;cases q:lt b a with
  |true=>
   refine j9.2 ⟨fun v hv=>?_,CI T a h2⟩;grind[wQ,cases TotB]
  |false=>
   refine j9.2 ⟨fun v hv=>?_,h⟩;grind[cases TotB]
theorem tI(T:TotB lt):∀(l o:List α),o.Pairwise (fun u v=>lt v u=false)->((l.foldl (fun o a=>Ex lt a o) o).Perm (o++l)/\(l.foldl (fun o a=>Ex lt a o) o).Pairwise fun u v=>lt v u=false)
 |[],o,h=>⟨by simp_all,h⟩
 |a::r,o,h=>by
  obtain⟨h1,h2⟩:=tI T r (Ex lt a o) (CI T a h);refine⟨h1.trans ?_,h2⟩;exact((wQ a o).append_right r).trans (List.perm_middle.symm)
theorem zQ(T:TotB lt)(l:List α):(PJ lt l).Perm l:=(tI T l [] .nil).1
theorem PW(T:TotB lt){l x:List α}(hp:x.Perm l)(hs:x.Pairwise fun u v=>lt v u=false)(H:∀u v,u∈l->v∈l->lt u v=false->lt v u=false->u=v):x=PJ lt l:=Ce hs (tI T l [] .nil).2 (hp.trans (zQ T l).symm) fun u v hu hv=>H u v (hp.mem_iff.1 hu) (hp.mem_iff.1 hv)
end
theorem VRel.unren{ρ:Nat->Nat}{n:Nat}{pl pl2:Pl}{M:dA}{v:AV}{x:Value}(h:VRel pl2 M v x)(hp:∀id p,id<n->pl2 id=some p->pl (ρ id)=some p)(ht:v.top<=n):VRel pl M (Ev.ren ρ v) x:=by
 have gt:∀{xs:List AV}{i:Nat}{z:AV},(xs.map (Ev.ren ρ))[i]?=some z->∃y,xs[i]?=some y/\z=Ev.ren ρ y:=by grind
 have tp:∀{xs:List AV}{i j:Nat}{z y:AV},aj xs<=n->xs[i]?=some z->z.cells[j]?=some y->y.top<=n:=by
  intro xs i j x y h1 h2 h3;exact lj (dI.1 h1 x (bm h2)) (bm h3)
 have sc:∀{xs:List AV}{sz:Nat},(∀x,x∈xs->x.cells.length=sz/\Sc x)->∀x,x∈xs.map (Ev.ren ρ)->x.cells.length=sz/\Sc x:=by
  intro xs sz h x hx;obtain⟨y,hy,rfl⟩:=jf.1 hx;obtain⟨h1,h2⟩:=h y hy;rw[gV];refine⟨by simp_all,fun u hu=>?_⟩;rw[gV]at hu;obtain⟨z,hz,rfl⟩:=jf.1 hu;rw[oU];exact h2 z hz
 have cel:∀{xs:List AV}{c:Array Value}{o sz:Nat},aj xs<=n->(∀i x j y,xs[i]?=some x->x.cells[j]?=some y->y.top<=n->VRel pl M (Ev.ren ρ y) (c.getD (o+i*sz+j) undef))->
   ∀i x j y,(xs.map (Ev.ren ρ))[i]?=some x->x.cells[j]?=some y->VRel pl M y (c.getD (o+i*sz+j) undef):=by
  intro xs c o sz ht h i x j y h1 h2;obtain⟨x0,e1,rfl⟩:=gt h1;rw[gV]at h2;grind
 induction h with
 |bool b=>exact .bool b
 |int k n=>exact .int k n
 |str s=>exact .str s
 |nilp=>exact .nilp
 |ptr h1 h2 h3=>simp only[AV.top]at ht;exact .ptr (hp _ _ (by omega) h1) h2 h3
 |pptr hm hs hi hc ih=>
  simp only[AV.top]at ht;simp only[Ev.ren,fq];exact .pptr ⟨hm.1,hm.2.1,by simp_all,hm.2.2.2⟩ (sc hs) (by simp_all) (cel ht fun i x j y h1 h2 h3=>ih i x j y h1 h2 h3)
 |nils=>exact .nils
 |slice h1 h2 h3 h4 h5=>simp only[AV.top]at ht;exact .slice (hp _ _ (by omega) h1) h2 h3 h4 h5
 |sl0n _ ih=>exact .sl0n (ih (bD _))
 |sl0s _ ih=>exact .sl0s (ih ht)
 |ps hl ht' hm hs hc ih=>
  simp only[AV.top]at ht;simp only[Ev.ren,fq];have:=VRel.ps (pl:=pl) (xs:=_) (by simpa using hl) (by simpa using ht') (by simp_all) (sc hs) (cel ht fun i x j y h1 h2 h3=>ih i x j y h1 h2 h3);simp_all
 |lsn=>exact .lsn
 |lsp h ht0 ih=>
  have:=ih (by grind[AV.top]);simp only[Ev.ren,fW ρ _ ht0]at this;exact .lsp this ht0
 |nilm=>exact .nilm
 |map h1 h2=>simp only[AV.top]at ht;exact .map (hp _ _ (by omega) h1) h2
 |func h1 h2 _ _ ih1 ih2=>
  simp only[AV.top,qC]at ht;simp only[Ev.ren,fq];refine .func (by simp_all) (by simp_all) (fun j y hj=>?_) (fun j y hj=>?_)
  ·obtain⟨z,e,rfl⟩:=gt hj;exact ih1 j z e (dI.1 ht.1 z (bm e))
  ·obtain⟨z,e,rfl⟩:=gt hj;exact ih2 j z e (dI.1 ht.2 z (bm e))
 |nilf=>exact .nilf
 |iface _ ih=>simp only[AV.top]at ht;exact .iface (ih ht)
 |nili=>exact .nili
 |agg h1 h2 _ ih=>
  simp only[AV.top]at ht;simp only[Ev.ren,fq];refine .agg (by simp_all) (fun y hy=>?_) (fun j y hj=>?_)
  ·grind[oU]
  ·obtain⟨z,e,rfl⟩:=gt hj;exact ih j z e (dI.1 ht z (bm e))
 |tuple h1 _ ih=>
  simp only[AV.top]at ht;simp only[Ev.ren,fq];refine .tuple (by simp_all) (fun j y hj=>?_);obtain⟨z,e,rfl⟩:=gt hj;exact ih j z e (dI.1 ht z (bm e))
def ep0:AObj->Bool
 | .row _ _ e _=>Nat.beq e 0
 | .map _ _=>true
 |_=>false
theorem bb.ep0{pl:Pl}{M:dA}{p:Place}{o:AObj}{x:Option Obj}(h:bb pl M p o x)(he:Ev.ep0 o=true):p.ep=0:=by
 match o,x with
 | .row sz op ep xs,some (.cells c t fr)=>rw[h.1];exact pB he
 | .map es clock,some (.map entries clock')=>exact h.1
theorem UF{ρ:Nat->Nat}{o:AObj}:ep0 (kU ρ o)=ep0 o:=by cases o<;>rfl
theorem bb.unren{ρ:Nat->Nat}{n:Nat}{pl pl2:Pl}{M:dA}{o:AObj}{p:Place}{x:Option Obj}(h:bb pl2 M p o x)(he:Ev.ep0 o=true)(hp:∀id p,id<n->pl2 id=some p->pl (ρ id)=some p)(ht:o.top<=n):bb pl M p (kU ρ o) x:=by
 match o,x with
 | .row sz op ep xs,some (.cells c t fr)=>
  obtain⟨h1,h2,h3,h4,h5,h6,h7,h8⟩:=h;simp only[AObj.top]at ht;have gt:∀{xs:List AV}{i:Nat}{z:AV},(xs.map (Ev.ren ρ))[i]?=some z->∃y,xs[i]?=some y/\z=Ev.ren ρ y:=by grind
  simp only[kU,fq];refine⟨h1,h2,by simp_all,h4,h5,h6,by simp_all,⟨by simpa using h8.fit,fun y hy=>?_,fun i z j y k1 k2=>?_⟩⟩
  ·obtain⟨z,hz,rfl⟩:=jf.1 hy;obtain⟨q1,q2⟩:=h8.elem z hz;rw[gV];refine⟨by simp_all,fun u hu=>?_⟩;rw[gV]at hu;obtain⟨z,hz,rfl⟩:=jf.1 hu;rw[oU];exact q2 z hz
  ·obtain⟨z0,e1,rfl⟩:=gt k1;rw[gV]at k2;obtain⟨y0,e2,rfl⟩:=gt k2;exact(h8.cell i z0 j y0 e1 e2).unren hp (lj (dI.1 ht z0 (bm e1)) (bm e2))
 | .map es clock,some (.map entries clock')=>
  obtain⟨h1,h2,h3,h4⟩:=h;simp only[AObj.top]at ht;simp only[kU,qo];refine⟨h1,h2,by simp_all,fun i e hi=>?_⟩;rw[qK]at hi;cases hx:es[i]? with
  |none=>grind
  |some e0=>
   rw[hx]at hi;cases hi
   obtain⟨e',k1,k2,k3,k4⟩:=h4 i e0 hx;have:=pg.1 ht e0 (bm hx);exact⟨e',k1,k2.unren hp this.1,k3.unren hp this.2,k4⟩
theorem aH.frame{P:Program}{G:eE}(hG:jW G){f:FuncId}{args:List AV}{v:AV}(ρ:Nat->Nat){L L':List AObj}(hl:L'.length=L.length)
  (hL:∀o,o∈L->ep0 o=true/\o.top<=L.length)(hL':∀o,o∈L'->ep0 o=true/\o.top<=L.length)(hm:∀i o,L'[i]?=some o->(av L').get i=some o)(ht:aj args<=L.length)(hv:v.top<=L.length)
  (hi:∀i j,i<L.length->j<L.length->ρ i=ρ j->i=j)
  (h0:aH P G f args (av L) (fun v1 h1=>v1=v/\h1=av L')){h h':AHeap}(hg:∀i o,L[i]?=some o->h.get (ρ i)=some (kU ρ o))
  (hg':∀k o,h'.get k=some o->(∃i o',L'[i]?=some o'/\k=ρ i/\o=kU ρ o')\/((∀i,i<L.length->k≠ρ i)/\h.get k=some o))(hn:h'.n=h.n):
  aH P G f (mz ρ args) h (fun v1 h1=>v1=Ev.ren ρ v/\h1=h'):=by
 intro pl M w vs hG1 hr hvs;obtain⟨n,en⟩:∃n,n=L.length:=⟨_,rfl⟩
 rw[<-en]at hL hL' ht hi hg' hv;have hat:∀i,i<n->∃o,L[i]?=some o/\o∈L:=fun i h=>⟨L[i],mU (by omega),Dl _⟩
 have hat':∀i,i<n->∃o,L'[i]?=some o/\o∈L':=fun i h=>⟨L'[i]'(by omega),mU (by omega),Dl _⟩
 have hpl1:∀k q,jP ρ n pl k=some q->k<n/\pl (ρ k)=some q:=fun k q hk=>by grind[jP]
 have hnH:(av L).n=n:=en.symm;have hnH':(av L').n=n:=hl.trans en.symm;have hr1:ca (jP ρ n pl) M (av L) w:=by
  refine⟨fun k q hk=>?_,fun k q o hk hgo=>?_,fun k q hk=>?_,fun k k' q q' hk hk' e=>?_,hr.imm,fun k q hk=>?_⟩
  ·simp_all
  ·obtain⟨hk1,hk2⟩:=hpl1 k q hk;have:=nF hgo;exact(hr.obj (ρ k) q _ hk2 (hg k o this)).ren (hL o (bm this)).2
  ·exact hr.blk _ q (hpl1 k q hk).2
  ·obtain⟨a1,a2⟩:=hpl1 k q hk;obtain⟨b1,b2⟩:=hpl1 k' q' hk';exact hi k k' a1 b1 (hr.inj _ _ q q' a2 b2 e)
  ·exact hr.sep _ q (hpl1 k q hk).2
 have hvs1:VRels (jP ρ n pl) M args vs:=⟨by rw[<-hvs.len,fq,cQ],fun j y hj=>(hvs.at_ j (Ev.ren ρ y) (by grind[fq])).ren rfl (dI.1 ht y (bm hj))⟩
 have hG1':pA G (jP ρ n pl) M:=hG1.none hG;have fin:∀cv w',iq (jP ρ n pl) M (av L) w v (av L') cv w'->iq pl M h w (Ev.ren ρ v) h' cv w':=by
  intro cv w' ⟨pl2,M2,k1,k2,k3,k4⟩;have kept:∀b,b<w.heap.size->(∀i q,i<n->pl (ρ i)=some q->q.blk≠b)->w'.heap[b]?=w.heap[b]?:=fun b hb hne=>k3.kept b hb fun k q hk _=>hne k q (hpl1 k q hk).1 (hpl1 k q hk).2
  have same:∀i,i<n->pl2 i=pl (ρ i):=by
   intro i hin;cases hp:pl (ρ i)with
   |none=>exact k3.new i (by omega) (by simp_all[jP])
   |some p=>
    obtain⟨p2,e1,e2,e3⟩:=k3.ext i p (uZ hin hp);obtain⟨o,h1,h2⟩:=hat i hin;obtain⟨o',h1',h2'⟩:=hat' i hin;have q1:p.ep=0:=(hr.obj (ρ i) p _ hp (hg i o h1)).ep0 (by grind[UF]);have q2:p2.ep=0:=(k2.obj i p2 o' e1 (hm i o' h1')).ep0 (hL' o' h2').1;simp_all
  have hun:∀id p,id<n->pl2 id=some p->pl (ρ id)=some p:=fun id p h1 h2=>by simp_all
  refine⟨pl,M2,k1.unren hun hv,⟨fun k q hk=>by rw[hn];exact hr.dom k q hk,fun k q o hk hgo=>?_,fun k q hk=>FK (hr.blk k q hk) k3.size,hr.inj,k2.imm,fun k q hk=>?_⟩,⟨nh.refl _,fun _ _ h=>h,k3.mem,k3.size,fun b hb hk=>kept b hb fun i q hin hp e=>?_,fun k q hk=>.inl ⟨q,hk,rfl⟩,fun k q hk hno=>?_,fun _ _ h _=>h,k3.memNew,k3.os,k3.tape,k3.out,k3.drawn⟩,we hn.symm⟩
  ·rcases hg' k o hgo with⟨i,o',h1,rfl,rfl⟩|⟨hne,hgo⟩
   ·have hin:i<n:=by grind
    have hm':=bm h1;exact(k2.obj i q o' (by simp_all) (hm i o' h1)).unren (hL' o' hm').1 hun (hL' o' hm').2
   ·rw[kept _ (hr.blk k q hk) fun i q' hin hp e=>hne i hin (hr.inj _ _ q q' hk hp e.symm)];exact(hr.obj k q o hk hgo).mono (nh.refl _) k3.mem
  ·cases hM:M2 q.blk with
   |none=>rfl
   |some c2=>
    rcases k3.memNew _ c2 hM with k5|k5
    ·rw[hr.sep k q hk]at k5;grind
    ·have:=hr.blk k q hk;omega
  ·grind
  ·cases hq:h'.get k with
   |none=>rfl
   |some o=>grind
 rcases h0 (jP ρ n pl) M w vs hG1' hr1 hvs1 with⟨h1,h2⟩|⟨cv,w',v1,h1,q1,⟨q2,q3⟩,q4⟩
 ·exact .inl ⟨h1,Calls.mono h2 fun e w' ⟨cv,v1,h1,k1,⟨k2,k3⟩,k4⟩=>⟨cv,Ev.ren ρ v,h',k1,⟨rfl,rfl⟩,by simp_all⟩⟩
 ·exact .inr ⟨cv,w',Ev.ren ρ v,h',q1,⟨rfl,rfl⟩,by simp_all⟩
section
variable{P:Program}{G:eE}{call:cW}{m:Nat}{c:Code}{d:D}{s s':St}{ops:Array Oper}
theorem Ek(hm:P.follows .mixedOrders=true)(hG:jW G)(hc:cj P G call)(d:D)(e:(WP P G call m c).run d s (fun e _ s=>e=.normal/\s=s')=(AExit.normal=.normal/\s'=s')):an P G (some m) c s (fun e s=>e=.normal/\s=s'):=V1 hm hG hc c d s _ _ (e▸⟨rfl,rfl⟩) fun _ _ _ _ h=>h
theorem yU(hG:jW G)(hc:cj P G call){id:Nat}{Ψ:St->Prop}(d:D){W:Prop}(p:W)(e:X6 P G call m ops ops.toList d s (fun _ s=>Ψ s)=W):an P G (some m) (.region id ops false) s (fun e s=>e=.normal/\Ψ s):=an.region (ge hG hc _ d s _ (e▸p) fun _ _ _ h=>⟨rfl,h⟩)
end
section
variable{P:Program}{G:eE}{ops:Array Oper}{o:Oper}{l:List Oper}{s:St}{b:Option Nat}
theorem rT{Y:Type}{I:Y->Prop}{r:Y->AV}{H:Y->AHeap}{Φ:St->Prop}(hg:eh s.tmps (ed ops o)=some true)
  (hO:∀(pl:Pl)(M:dA)(a:Act)(w:World),pA G pl M->ca pl M s.heap w->FrRel pl M s.tmps a->∃y pl' M' cv w',I y/\(execOp a.eval o).run P w=.ok (.value cv) w'/\VRel pl' M' (r y) cv/\ca pl' M' (H y) w'/\cG s.heap pl M w (H y) pl' M' w'/\s.heap.n<=(H y).n)
  (h:∀y,I y->∃A',jK s.tmps o.dst (r y)=some A'/\cY P G b ops l ⟨A',H y⟩ Φ):cY P G b ops (o::l) s Φ:=by
 intro i N h0' pl0 M0 w0 a w Q hb hl' hs hQ;have ho:ops[i]?=some o:=by simpa using hl' 0
 obtain⟨pl,M,g1,g2,g3,g4,g5⟩:=hs.ex;simp only[cO,BP,wpOps,ho];rw[fu g3 hg];simp only[if_true];left;obtain⟨y,pl',M',cv,w',i1,i2,i3,i4,i5,i6⟩:=hO pl M a w g1 g2 g3;obtain⟨A',e1,e2⟩:=h y i1;obtain⟨p1,p2⟩:=nE (g3.mono i5.ext i5.mem) i3 (by rw[hs.n];exact hs.small) e1;have nxt:=e2 (i+1) N h0' pl0 M0 w0 (a.put o.dst cv) w' Q hb (fun j=>by have:=hl' (j+1);grind)
  ⟨⟨pl',M',g1.mono i5.ext i5.mem,i4,p1,g4.trans i5 g5,bO g5 i6⟩,by rw[<-hs.n];omega,hs.small⟩ hQ
 unfold Oper.wp;rw[i2];exact nxt
theorem vY{t tx e:TypeId}{i:TypeInfo}{sz bt:Nat}(hsz:i.size=sz)(hbt:i.bytes=bt){z z0:AV}{sO xO:Operand}{dst:Option Tmp}{ty:TypeId}{pos:String}{after:Array Edge}{guard:Option (Nat×Bool)}{xs:List AV}
  (ht:P.underlying t=some (.slice e))(hk:∃e',P.underlying tx=some (.slice e'))(hi:P.info? e=some i)(hz:iB P e=some z0)(hzl:Le z z0)
  (hs:(cV G sO).run s.tmps=some (.ps [] true))(hx:(cV G xO).run s.tmps=some (.ls xs))(hne:xs≠[])(hfit:dG sz xs=true)(hzf:dG sz [z]=true)(hsm:small xs.length bt=true)(hs0:0<sz)
  (pl:Pl)(M:dA)(a:Act)(w:World)(g1:pA G pl M)(g2:ca pl M s.heap w)(g3:FrRel pl M s.tmps a):
  ∃(k:Nat)(pl':Pl)(M':dA)(cv:Value)(w':World),True/\(execOp a.eval ⟨dst,.call ⟨.builtin .append,#[sO,xO],#[t,tx]⟩,ty,pos,after,guard⟩).run P w=.ok (.value cv) w'/\
   VRel pl' M' (.slice s.heap.n 0 0 xs.length (some (xs.length+k))) cv/\ca pl' M' (s.heap.push (.row sz false 0 (xs++List.replicate k z))) w'/\cG s.heap pl M w (s.heap.push (.row sz false 0 (xs++List.replicate k z))) pl' M' w'/\s.heap.n<=(s.heap.push (.row sz false 0 (xs++List.replicate k z))).n:=by
 subst hsz;subst hbt;have hsr:=bW g1 g3 hs;have hxr:=bW g1 g3 hx;obtain⟨news,hsrc⟩:=y9 (P:=P) g2 hxr (show kG s.heap (.ls xs)=some xs from rfl) hne hfit;obtain⟨i2,zv,hz1,hz2,hz3⟩:=mH hz;rw[hi]at hz1;cases hz1
 obtain⟨b1,b2⟩:=ju hsm;have hpos:0<xs.length:=qJ.2 hne;generalize hq:a.eval sO=cs at hsr;generalize hq2:a.eval xO=cx at hxr hsrc;cases hsr with
 | ps hl htt hm hs2 hc=>
  rename_i ad cap sz c;have hcap:cap=0:=htt rfl;subst hcap;have hzr:=hzl _ _ _ (dz (pl:=pl) (M:=M) hz3);have hzt:=mn hzf z (by simp);have hzsz:zv.cells.size=i.size:=by rw[<-hzr.cells.len];omega
  have hrun:=run_append_grow_src (P:=P) w t tx ty e i zv ht hi hz2 (some ad) 0 0 [] (by simp[Builtin.firstCells,loadCells,loadCellsFrom]) cx xs.length news (hsrc.src (.inl hk)) (by omega) (by omega) (growslice_fits (by omega) (by grind));have hge:=grownCap_ge w (0+xs.length) 0 e;obtain⟨C,hC⟩:∃C,C=grownCap w (0+xs.length) 0 e:=⟨_,rfl⟩
  rw[<-hC]at hrun hge;have hin:=fK hzr hzt.2 (C-(0+xs.length)) hzt.1 hs0;have hzl:(Builtin.zeroCells zv.cells (C-(0+xs.length))).toList.toArray=(Array.range ((C-(0+xs.length))*i.size)).map (zv.cells[· %zv.cells.size]!):=by grind[Builtin.zeroCells]
  have hnl:(Builtin.zeroCells zv.cells (C-(0+xs.length))).toList.length=(List.replicate (C-(0+xs.length)) z).length *i.size:=by grind[Builtin.zeroCells]
  have hin2:=ka (news:=(Builtin.zeroCells zv.cells (C-(0+xs.length))).toList) hsrc.mem (by grind) hsrc.newsLen hnl #[];have hce:(news++(Builtin.zeroCells zv.cells (C-(0+xs.length))).toList).toArray++#[]=([]++news).toArray++Builtin.zeroCells zv.cells (C-(0+xs.length)):=by grind
  rw[hce]at hin2;have hcs:(([]++news).toArray++Builtin.zeroCells zv.cells (C-(0+xs.length))).size=(xs++List.replicate (C-(0+xs.length)) z).length *i.size:=by simp only[yp,FV,BS,hsrc.newsLen,size_zeroCells,hzsz,eW,qW,jL]
  obtain⟨cells,hcells⟩:∃cells,cells=([]++news).toArray++Builtin.zeroCells zv.cells (C-(0+xs.length)):=⟨_,rfl⟩
  rw[<-hcells]at hrun hin2 hcs;have hxl:(xs++List.replicate (C-(0+xs.length)) z).length=C:=by grind
  let p:Place:=⟨w.heap.size,0,i.size,C,C*i.size⟩
  have hwd:(w.drew.alloc (.cells cells e)).heap=w.heap.push (.cells cells e):=rfl;obtain⟨r1,r2⟩:=ca.alloc (o:=.row i.size false 0 (xs++List.replicate (C-(0+xs.length)) z)) (p:=p) g2 hwd ⟨rfl,rfl,rfl,oJ _⟩ rfl
   ⟨rfl,rfl,hxl.symm,by grind,rfl,hs0,fun _=>hcs,hin2.mono (fun id q hq=>⟨q,by rw[cN (by have:=g2.dom id q hq;omega)];omega,ah _,fun _=>rfl⟩) (fun _ _ h=>h)⟩
  refine⟨C-(0+xs.length),upd pl s.heap.n p,M,.slice (some ⟨w.heap.size,0,none⟩) (0+xs.length) C,w.drew.alloc (.cells cells e),trivial,?_,?_,r1,r2,oJ _⟩
  ·simp only[execOp,resolve,invoke,builtin,Sem.run_bind,Sem.run_pure,Result.andThen_ok,List.map_toArray,eu,wc,hq,hq2];show(Sem.run P (Builtin.append_ #[t,tx] ty #[Value.slice (some ad) 0 0,cx]) w).andThen _=_
   rw[hrun];rfl
  ·rw[fO]at hge ⊢;refine .slice (dS _ _ _) (ah _) hge (fun k hk=>by grind) (fun _=>⟨.inr (by grind),by grind,by grind,(fun hk=>by grind),(fun k hk=>by grind)⟩)
end
section
variable{s id ep off len c l h m a b d sz bt i n k:Nat}{hp H:AHeap}{xs ys zs new:List AV}{lo hi mx cap:Option Nat}{op:Bool}{x z:AV}{vl vh vm:Option AV}
theorem ic(hg:qf s hp id ep=some xs)(h1:jj 0 vl=some l)(h2:jj len vh=some h)(q1:l<=h)(q2:h<=c)(q3:c≠l)(e1:off+l=a)(e2:h-l=b)(e3:c-l=d):
  bv H (dV s hp (some (.slice id ep off len (some c))) vl vh none)=some (.val (.slice id ep a b (some d)) H):=by
 have p1:Nat.ble l h=true:=th q1;have p2:Nat.ble h c=true:=th q2;have p3:Nat.beq c l=false:=by grind[ap]
 simp only[dV,gz,hg,h1,h2,room,pL,p1,p2,p3,yt,e1,e2,e3,bv]
theorem DC(hg:qf s hp id ep=some xs)(h1:jj 0 vl=some l)(h2:fR x=some h)(h3:fR z=some m)(q1:l<=h)(q2:h<=m)(q3:m<=c)(q4:m≠l)(e1:off+l=a)(e2:h-l=b)(e3:m-l=d):
  bv H (dV s hp (some (.slice id ep off len (some c))) vl (some x) (some z))=some (.val (.slice id ep a b (some d)) H):=by
 have p1:Nat.ble l h=true:=th q1;have p2:Nat.ble h m=true:=th q2;have p3:Nat.beq m l=false:=by grind[ap]
 simp_all[th,dV,gz,room,pL,bv]
theorem KY(hg:qf s hp id ep=some xs)(h1:jj 0 vl=some l)(h2:jj len vh=some h)(q1:l=h)(q3:c=l):
  bv H (dV s hp (some (.slice id ep off len (some c))) vl vh none)=some (.val (.slice id ep 0 0 (some 0)) H):=by
 subst q1;subst q3;have p1:Nat.ble c c=true:=th (ah _);have p3:Nat.beq c c=true:=qZ _;simp only[dV,gz,hg,h1,h2,room,pL,p1,p3,yt,bv]
theorem yJ(hg:qf s hp id ep=some xs)(h1:jj 0 vl=some l)(h2:jj len vh=some h)(q1:l<=h)(q2:h+off<=xs.length)(e1:off+l=a)(e2:h-l=b):
  bv H (dV s hp (some (.slice id ep off len none)) vl vh none)=some (.val (.slice id ep a b none) H):=by
 grind[Nat.ble_eq_true_of_le,dV,gz,room,pL,bv]
theorem y8(hg:H.get id=some (.row sz op ep xs))(e:(xs.drop off).take len=zs):kG H (.slice id ep off len cap)=some zs:=by grind[Nat.beq_refl,kG,ki]
theorem Fg{xs ys:List AV}{n:Nat}(h:xs.length=n):((xs++ys).drop 0).take n=xs:=by simp_all
theorem wC{xs:List AV}{t:Bool}{n:Nat}(h:aj xs=0):Nat.ble (AV.ps xs t).top n=true:=by simp_all[AV.top]
theorem L2(hg:H.get id=some (.row sz op ep xs))(hx:kG H x=some new)(hf:dG sz new=true)(hne:new≠[])(hc:len+new.length<=c)(hl:off+len+new.length<=xs.length)(hs:small (len+new.length) bt=true)(e1:len+new.length=n)(e2:bG xs (off+len) new=ys):
  fy (de sz bt H (some (.slice id ep off len (some c))) (some x))=some (.val (.slice id ep off n (some c)) (H.put id (.row sz op ep ys))):=by
 subst e1;cases new with
 |nil=>simp_all
 |cons y r=>simp_all[th,de,gp,iJ,fy]
theorem Sy(hx:kG H x=some []):fy (de sz bt H (some (.slice id ep off len cap)) (some x))=some (.val (.slice id ep off len cap) H):=by grind[de,gp,iJ,fy]
theorem Vq(hg:H.get id=some (.row sz op ep xs))(hx:kG H x=some new)(hf:dG sz new=true)(hne:new≠[])(hc:c<len+new.length)(hs:small (len+new.length) bt=true)(e1:(xs.drop off).take len++new=ys)(e2:ys.length=n):
  fy (de sz bt H (some (.slice id ep off len (some c))) (some x))=some (.val (.slice H.n 0 0 n none) (H.push (.row sz true 0 ys))):=by
 cases new with
 |nil=>simp_all
 |cons y r=>
  have p1:Nat.beq ep ep=true:=qZ ep;have p2:Nat.beq sz sz=true:=qZ sz;have p3:Nat.ble (len+(y::r).length) c=false:=by grind[bz]
  simp_all[de,gp,iJ,iD,fy]
theorem TM(hg:H.get id=some (.row sz op ep xs))(hk:0<k)(hc:c<len+k)(hf:dG sz [z]=true)(hs:small (len+k) bt=true)(hs2:small k bt=true)(e1:(xs.drop off).take len++List.replicate k z=ys)(e2:ys.length=n):
  fy (CD sz bt z H (some (.slice id ep off len (some c))) (some (.int .i64 (.ofNat k))))=some (.val (.slice H.n 0 0 n none) (H.push (.row sz true 0 ys))):=by
 have p1:Nat.beq ep ep=true:=qZ ep;have p2:Nat.beq sz sz=true:=qZ sz;grind[Nat.ble_eq_true_of_le,Nat.blt,CD,K7,iD,fy]
theorem LH(hg:H.get id=some (.row sz op ep xs))(hx:kG H x=some zs)(hf:dG sz (zs.take len)=true)(e1:min zs.length len=k)(e2:bG xs off (zs.take len)=ys):
  fy (uT sz H (some (.slice id ep off len cap)) (some x))=some (.val (.int .i64 (.ofNat k)) (H.put id (.row sz op ep ys))):=by
 grind[Nat.beq_refl,uT,LI,fy]
theorem AH(hg:H.get id=some (.row sz op ep xs))(hf:dG sz [z]=true)(e2:bG xs off (List.replicate len z)=ys):
  fy (wx sz z H (some (.slice id ep off len cap)))=some (.val gy (H.put id (.row sz op ep ys))):=by
 grind[Nat.beq_refl,wx,fy]
theorem rC{sz:Nat}:∀{xs:List AV}{n:Nat},dG sz xs=true->dG sz (xs.take n)=true
 |[],n,h=>by simp_all
 |x::r,0,_=>rfl
 |x::r,n+1,h=>by
  simp only[List.take_succ_cons,dG,bj]at h ⊢;exact⟨h.1,rC h.2⟩
theorem rD{sz:Nat}:∀{xs:List AV}{n:Nat},dG sz xs=true->dG sz (xs.drop n)=true
 |[],n,h=>by simp_all
 |x::r,0,h=>h
 |x::r,n+1,h=>by
  simp only[List.drop_succ_cons,dG,bj]at h ⊢;exact rD h.2
end
theorem Bn{P:Program}{G:eE}{f:FuncId}{fn:Func}{tS tR e:TypeId}{n:Nat}(hf:P.funcs[f]?=some fn)(hname:(fn.name== "runtime.NumGoroutine")=false)(hb:fn.body.isNone=true)(hn:Extern.findNext fn=none)(he:Extern.find fn=some (Extern.SlicesOverlaps.overlaps #[tS,tS] #[tR]))
  (ht:P.underlying tS=some (.slice e))(hi:cH P e=some n){xs ys:List AV}{t:Bool}{id off len c sz:Nat}{op:Bool}{h:AHeap}(hne:xs≠[])(hgo:h.get id=some (.row sz op 0 ys)):
  aH P G f [.ps xs t,.slice id 0 off len (some c)] h (fun v h'=>v=.bool false/\h'=h):=by
 intro pl M w vs hG hr hv;right;refine⟨.bool false,w,.bool false,h,?_,⟨rfl,rfl⟩,pl,M,.bool false,hr,cG.refl _ _ _ _,ah _⟩;have v0:=hv.at_ 0 _ rfl;have v1:=hv.at_ 1 _ rfl;have hvs:vs=#[vs.getD 0 undef,vs.getD 1 undef]:=by
  have hl:vs.size=2:=hv.len.symm;apply Array.ext
  ·omega
  ·intro i h1 h2
   match i,h2 with
   |0,_=>simp_all
   |1,_=>simp_all
 rw[run_callFunc_extern hf hname hb hn he,hvs];generalize vs.getD 0 undef=x0 at v0;generalize vs.getD 1 undef=x1 at v1;cases v0 with
 | ps hl htt hm hs hc=>
  rename_i a cap0 sz0 c0;obtain⟨m1,m2,m3,m4⟩:=hm hne;have hpos:0<xs.length:=qJ.2 hne;cases v1 with
  | slice hp hep hl1 hk ha=>
   rename_i cap1 b p;have hcap:=hk c rfl;subst hcap;obtain⟨tA,frA,hA⟩:=hr.imm _ _ m2;have ho:=hr.obj id p _ hp hgo;obtain⟨cB,tB,hB,hpe⟩:∃cB tB,w.heap[p.blk]?=some (.cells cB tB (0,0))/\p.ep=0:=by
    cases hb2:w.heap[p.blk]? with
    |none=>rw[hb2]at ho;exact ho.elim
    |some ob=>
     rw[hb2]at ho;cases ob with
     |cells cB tB fr=>obtain⟨h1,_,_,_,h5,_⟩:=ho;grind
     |_=>exact ho.elim
   have hsep:=hr.sep id p hp;have hsz:=cA hi w;have hc0:c0.size≠0:=by
    have:0<xs.length*sz0:=Nat.mul_pos hpos m4;omega
   obtain⟨q1,-⟩:=ha hpe.symm
   suffices hh:(Extern.SlicesOverlaps.overlaps #[tS,tS] #[tR] #[.slice (some a) xs.length cap0,.slice (some b) len cap1]).run P w=.ok (.bool false) w by rw[hh];rfl
   generalize xs.length=la;change Sem.run P (α:=Value) (do
    let some t:=(#[tS,tS]:Array TypeId)[0]?|stuck "slices.overlaps: no parameter types"
    let .slice elem <-underlying t|stuck "slices.overlaps: slice type expected"
    let size <-sizeOf elem
    match(some a:Option Addr),(some b:Option Addr)with
    | some a,some b=>
     if la=0\/len=0\/size=0 then pure (Value.bool false)
     else if a.block !=b.block&&(<-frozen a)&&(<-frozen b)then unsupported .addressObserved
     else do
      if a.block !=b.block then do
       noView a;noView b
       if <-mayBeOne a b then return Value.bool ((<-choose (.extern "sameAddr.stringBytes" 2))==1)
      pure (Value.bool (a.block==b.block&&a.off<b.off+len*size&&b.off<a.off+la*size))
    |_,_=>pure (Value.bool false)) w=_
   by_cases h0:la=0\/len=0\/n=0
   ·simp[run_underlying ht,hsz,h0]
   ·have hbk:b=⟨p.blk,off*p.sz,none⟩:=by grind
    subst hbk;have hnb:a.block≠p.blk:=fun e=>by grind
    have hnb1:(a.block !=p.blk)=true:=by grind
    have hnb2:(a.block==p.blk)=false:=by grind
    have f1:∀o,w.frozen? ⟨p.blk,o,none⟩=false:=fun o=>by grind[World.frozen?]
    have s1:w.shape? a.block=some (tA,c0.size):=by grind[World.shape?]
    have s2:w.shape? p.blk=some (tB,cB.size):=by grind[World.shape?]
    cases hsx:c0.size with
    |zero=>omega
    |succ kA=>
     rw[hsx]at s1;cases hfa:w.frozen? a<;>cases hfb:w.frozen? {block:=a.block,off:=kA+1}<;>
     simp[run_underlying ht,hsz,h0,hnb1,hnb2,frozen,noView,viewAt,mayBeOne,stringish,shape,Sem.run,s1,s2,f1,hfa,hfb]
def Tf(rs:List Nat):AHeap->List AObj->Nat->AHeap
 |h,[],_=>h
 |h,o::r,i=>Tf rs (h.put (gQ rs i) (kU (gQ rs) o)) r (i+1)
def XM(rs:List Nat)(h:AHeap):List AObj->Nat->Prop
 |[],_=>True
 |o::r,i=>h.get (gQ rs i)=some (kU (gQ rs) o)/\XM rs h r (i+1)
def QN(h:AHeap):List AObj->Nat->Prop
 |[],_=>True
 |o::r,i=>h.get i=some o/\QN h r (i+1)
def Dp(n:Nat):List AObj->Prop
 |[]=>True
 |o::r=>(ep0 o=true/\o.top<=n)/\Dp n r
theorem Pc(rs:List Nat):∀(l:List AObj)(h:AHeap)(i:Nat),(Tf rs h l i).n=h.n
 |[],_,_=>rfl
 |_::r,h,i=>Pc rs r _ (i+1)
theorem LR{rs:List Nat}{h:AHeap}:∀{l:List AObj}{i j:Nat}{o:AObj},XM rs h l i->l[j]?=some o->h.get (gQ rs (i+j))=some (kU (gQ rs) o)
 |x::r,i,0,o,a,e=>by simp at e;subst e;exact a.1
 |x::r,i,j+1,o,a,e=>by
  have:=LR (i:=i+1) (j:=j) a.2 (by simpa using e);grind
theorem G4{h:AHeap}:∀{l:List AObj}{i j:Nat}{o:AObj},QN h l i->l[j]?=some o->h.get (i+j)=some o
 |x::r,i,0,o,a,e=>by simp at e;subst e;exact a.1
 |x::r,i,j+1,o,a,e=>by
  have:=G4 (i:=i+1) (j:=j) a.2 (by simpa using e);grind
theorem vf{n:Nat}:∀{l:List AObj},Dp n l->∀o,o∈l->ep0 o=true/\o.top<=n
 |x::r,a,o,e=>by
  rcases fk.1 e with rfl|e
  ·exact a.1
  ·exact vf a.2 o e
theorem F8{rs:List Nat}:∀{l:List AObj}{h:AHeap}{i k:Nat}{o:AObj},(∀j,j<l.length->gQ rs (i+j)<1000000)->(Tf rs h l i).get k=some o->
  (∃j o',l[j]?=some o'/\k=gQ rs (i+j)/\o=kU (gQ rs) o')\/((∀j,j<l.length->k≠gQ rs (i+j))/\h.get k=some o)
 |[],h,i,k,o,_,e=>.inr ⟨fun j hj=>absurd hj (np _),e⟩
 | x::r,h,i,k,o,hb,e=>by
  rcases F8 (l:=r) (i:=i+1) (fun j hj=>by have:=hb (j+1) (by simp_all);grind) e with⟨j,o',h1,h2,h3⟩|⟨h1,h2⟩
  ·exact .inl ⟨j+1,o',by simp_all,by grind,h3⟩
  ·rcases AHeap.get_put (by have:=hb 0 (Nat.zero_lt_succ _);omega) h2 with⟨h3,h4⟩|⟨h3,h4⟩
   ·exact .inl ⟨0,x,rfl,h3,h4⟩
   grind
theorem GO{q:Nat->Bool}:∀{rs:List Nat}{i:Nat},rs.all q=true->i<rs.length->q (gQ rs i)=true
 |x::r,0,h,_=>by simp only[List.all_cons,bj]at h;exact h.1
 |x::r,i+1,h,hi=>by
  simp only[List.all_cons,bj]at h;exact GO (rs:=r) (i:=i) h.2 (by simp_all)
theorem pu{P:Program}{G:eE}(hG:jW G){f:FuncId}{args args':List AV}{v v':AV}{L L' os os':List AObj}(rs:List Nat)
  (h0:aH P G f args (av L) (fun v1 h1=>v1=v/\h1=av L'))(ea:mz (gQ rs) args=args')(ev:Ev.ren (gQ rs) v=v')
  (c:(zd rs&&(Nat.beq rs.length L.length&&(Nat.beq L'.length L.length&&rs.all fun x=>Nat.blt x 1000000)))=true)
  (hL:Dp L.length L)(hL':Dp L.length L')(ht:aj args<=L.length)(hv:v.top<=L.length)
  (a1:XM rs (av os) L 0)(a2:QN (av L') L' 0)(a3:av os'=Tf rs (av os) L' 0):aH P G f args' (av os) (fun v1 h1=>v1=v'/\h1=av os'):=by
 simp only[bj,ap,decide_eq_true_eq]at c;obtain⟨c1,c2,c3,c4⟩:=c;subst ea;subst ev;rw[a3];refine aH.frame hG (gQ rs) c3 (vf hL) (vf hL') (fun i o hi=>by have:=G4 a2 hi;simp_all) ht hv (fun i j hi hj=>ri c1 i j (by omega) (by omega)) h0
  (fun i o hi=>by have:=LR a1 hi;simp_all) (fun k o hk=>?_) (Pc rs L' _ 0)
 rcases F8 (fun j hj=>by have:=GO c4 (show 0+j<rs.length by omega);simp_all) hk with⟨j,o',h1,h2,h3⟩|⟨h1,h2⟩
 all_goals grind
theorem vB{ρ:Nat->Nat}{sz ep:Nat}{b:Bool}{xs:List AV}(h:aj xs=0):kU ρ (.row sz b ep xs)=.row sz b ep xs:=by grind[kU,fW]
theorem fh{P:Program}{G:eE}(hG:jW G){f:FuncId}{args args':List AV}{v v':AV}{sz:Nat}{b b':Bool}{xs xs':List AV}{os os':List AObj}(id:Nat)(hx:aj xs=0)(hx':aj xs'=0)
  (h0:aH P G f args (av [.row sz b 0 xs]) (fun v1 h1=>v1=v/\h1=av [.row sz b' 0 xs']))(ea:mz (gQ [id]) args=args')(ev:Ev.ren (gQ [id]) v=v')(c:Nat.blt id 1000000=true)
  (ht:Nat.ble (aj args) 1=true)(hv:Nat.ble v.top 1=true)(a1:(av os).get id=some (.row sz b 0 xs))(a3:av os'=(av os).put id (.row sz b' 0 xs')):aH P G f args' (av os) (fun v1 h1=>v1=v'/\h1=av os'):=
 pu hG [id] h0 ea ev (by simp only[zd,iN,List.all_cons,List.all_nil,c];rfl) ⟨⟨rfl,by grind[AObj.top]⟩,trivial⟩ ⟨⟨rfl,by grind[AObj.top]⟩,trivial⟩ (vv ht) (vv hv)
  ⟨by rw[vB hx];exact a1,trivial⟩ ⟨rfl,trivial⟩ (by rw[a3];show _=AHeap.put _ _ (kU _ _);rw[vB hx'];rfl)
def jC(u:TUnit)(ks:List TUnit):TUnit:=⟨u.act,u.item,u.n,u.kind,u.label,u.head,u.words,ks⟩
def md(w:List PWord)(u:TUnit):TUnit:=⟨u.act,u.item,u.n,u.kind,u.label,u.head,w,u.kids⟩
def Az(w:List PWord)(u:TUnit):TUnit:=⟨u.act,u.item,u.n,u.kind,u.label,w,u.words,u.kids⟩
def pv(s:bZ)(u:TUnit):TUnit:=⟨u.act,u.item,u.n,u.kind,s,u.head,u.words,u.kids⟩
def xK(i:Nat)(x:TUnit)(l:List TUnit):List TUnit:=l.take i++(x::l.drop i)
def gI(i:Nat)(u:TUnit):TUnit:=jC u (u.kids.eraseIdx i)
def dD(i:Nat)(x:TUnit)(u:TUnit):TUnit:=jC u (xK i x u.kids)
mutual
def dZ(p:PId)(f:TUnit->TUnit):TUnit->TUnit
 |⟨a,i,n,k,l,h,w,ks⟩=>bif f9 p ⟨a,i,n,k,l,h,w,ks⟩then f ⟨a,i,n,k,l,h,w,ks⟩else⟨a,i,n,k,l,h,w,ef p f ks⟩
def ef(p:PId)(f:TUnit->TUnit):List TUnit->List TUnit
 |[]=>[]
 |k::r=>bif cK p k then dZ p f k::r else k::ef p f r
end
section
variable{p:PId}{f:TUnit->TUnit}{u w:TUnit}{l r:List TUnit}{i:Nat}
theorem Fj(p:PId)(f:TUnit->TUnit)(u:TUnit):dZ p f u=bif f9 p u then f u else jC u (ef p f u.kids):=by cases u;rw[dZ];rfl
theorem sl:ef p f []=[]:=by rw[ef]
theorem jM(k:TUnit)(r:List TUnit):ef p f (k::r)=bif cK p k then dZ p f k::r else k::ef p f r:=by rw[ef]
theorem rk(h:f9 p u=true):dZ p f u=f u:=by rw[Fj,h];rfl
theorem kT(h:f9 p u=false):dZ p f u=jC u (ef p f u.kids):=by rw[Fj,h];rfl
def jy(p:PId)(f:TUnit->TUnit)(l:List TUnit)(i:Nat)(r:List TUnit):Prop:=ef p f l=l.take i++ef p f r
theorem jy.start:jy p f l 0 l:=rfl
theorem jy.skip(h:jy p f l i (w::r))(hd:l.drop i=w::r)(hw:cK p w=false):jy p f l (i+1) r:=by
 unfold jy at *;have hi:i<l.length:=by grind[List.drop_eq_nil_of_le]
 have e:l[i]=w:=by
  have:=congrArg (·[0]?) hd;grind
 grind[jM]
theorem jy.hit(h:jy p f l i (w::r))(hd:l.drop i=w::r)(hw:cK p w=true):ef p f l=l.set i (dZ p f w):=by
 unfold jy at h;have hi:i<l.length:=by grind[List.drop_eq_nil_of_le]
 rw[h,jM,hw,List.set_eq_take_append_cons_drop,if_pos hi];have:l.drop (i+1)=r:=by rw[<-BM,hd];rfl
 simp_all
theorem jy.done(h:jy p f l i [])(hd:l.drop i=[]):ef p f l=l:=by simp_all[jy,sl,yo]
theorem Ij:∀(u:TUnit),cK p u=false->dZ p f u=u:=TUnit.ind fun u ih h=>by
 have hw:=Aj h;rw[gm]at hw;cases hi:f9 p u with
 |true=>grind
 | false=>
  rw[hi]at hw;simp only[cond_false]at hw;have key:∀(r:List TUnit),(∀k,k∈r->k∈u.kids)->cw p r=[]->ef p f r=r:=by
   intro r;induction r with
   |nil=>grind[sl]
   |cons k r ihr=>
    intro hm hr;cases hk:cK p k with
    |true=>grind[oY,ll]
    |false=>simp_all[jJ,jM]
  have hk:cw p u.kids=[]:=by grind
  rw[kT hi,key u.kids (fun _ h=>h) hk];cases u;rfl
end
end Go.Ev
namespace Go.Ev
open Go
noncomputable def bc(n:Nat):AV:=.int .i64 (.ofNat n)
theorem Xf(n:Nat):(bc n).top=0:=rfl
section
variable{l part:List bZ}{i:Nat}{acc:List Nat}
def ng(l part:List bZ)(i:Nat)(acc:List Nat):Prop:=acc.length<=i/\i<=l.length+part.length/\∃f,uv l part=acc++vM part f l i/\l.length<i+f
theorem ng.start(hp:0<part.length):ng l part 0 []:=by
 refine⟨ah _,bD _,l.length+1,?_,by omega⟩;unfold uv;grind
theorem KR{f:Nat}(hi:i+part.length<=l.length):vM part (f+1) l i=bif dY eV ((l.take (i+part.length)).drop i) part then i::vM part f l (i+part.length)else vM part f l (i+1):=by
 have e:(l.take (i+part.length)).drop i=(l.drop i).take part.length:=by grind
 rw[vM,th hi,e];rfl
theorem ng.skip(h:ng l part i acc)(hi:i+part.length<=l.length)(hp:0<part.length)(hm:dY eV ((l.take (i+part.length)).drop i) part=false):ng l part (i+1) acc:=by
 obtain⟨h1,h2,f,h3,h4⟩:=h;cases f with
 |zero=>omega
 |succ f=>rw[KR hi,hm]at h3;exact⟨by omega,by omega,f,h3,by omega⟩
theorem ng.hit(h:ng l part i acc)(hi:i+part.length<=l.length)(hp:0<part.length)(hm:dY eV ((l.take (i+part.length)).drop i) part=true):ng l part (i+part.length) (acc++[i]):=by
 obtain⟨h1,h2,f,h3,h4⟩:=h;cases f with
 |zero=>omega
 |succ f=>
  rw[KR hi,hm]at h3;exact⟨by grind,by omega,f,by simp_all,by omega⟩
theorem ng.done(h:ng l part i acc)(hi:l.length<i+part.length):uv l part=acc:=by
 obtain⟨h1,h2,f,h3,h4⟩:=h;cases f with
 |zero=>grind[vM]
 |succ f=>grind[vM,bz]
theorem ng.len(h:ng l part i acc):acc.length<=l.length+part.length:=bO h.1 h.2.1
end
def rj(g:Nat):List Nat->Nat->Nat->Prop
 |[],_,_=>True
 |p::r,lo,n=>lo<=p/\p+g<=n/\rj g r (p+g) n
theorem sN(part:List bZ)(hp:0<part.length):∀(f:Nat)(l:List bZ)(i:Nat),rj part.length (vM part f l i) i l.length
 |0,l,i=>by rw[vM];trivial
 | f+1,l,i=>by
  rw[vM];have key:∀(m:List Nat)(a b n:Nat),a<=b->rj part.length m b n->rj part.length m a n:=by
   intro m;cases m with
   |nil=>intro _ _ _ _ _;trivial
   |cons p r=>intro a b n h ⟨h1,h2,h3⟩;exact⟨bO h h1,h2,h3⟩
  cases hb:Nat.ble (i+part.length) l.length with
  |false=>trivial
  |true=>
   rw[bz]at hb;have hb:=of_decide_eq_true hb;simp only[cond_true];cases dY eV ((l.drop i).take part.length) part with
   |true=>exact⟨ah _,hb,sN part hp f l _⟩
   |false=>exact key _ _ _ _ (oJ i) (sN part hp f l (i+1))
theorem Co(l part:List bZ):rj part.length (uv l part) 0 l.length:=by
 unfold uv;cases part with
 |nil=>trivial
 |cons x r=>exact sN (x::r) (ym _) _ l 0
def oO(g:Nat)(l:List Nat)(n:Nat):Prop:=∀i,i<l.length->gD l i+g<=n/\∀j,j<i->gD l j+g<=gD l i
theorem BZ{g n:Nat}:∀{l:List Nat}{lo:Nat},rj g l lo n->oO g l n
 |[],_,_=>fun i hi=>absurd hi (np _)
 | p::r,lo,⟨h1,h2,h3⟩=>by
  have low:∀(m:List Nat)(a:Nat),rj g m a n->∀i,i<m.length->a<=gD m i:=by
   intro m;induction m with
   |nil=>simp_all
   |cons q m ih=>
    intro a ⟨k1,k2,k3⟩ i hi;cases i with
    |zero=>exact k1
    |succ i=>have:=ih _ k3 i (by simp_all);grind[gD]
  intro i hi;cases i with
  |zero=>exact⟨h2,fun j hj=>absurd hj (np _)⟩
  |succ i=>
   have hi':i<r.length:=by simp_all
   obtain⟨k1,k2⟩:=BZ h3 i hi';refine⟨k1,fun j hj=>?_⟩;cases j with
   |zero=>exact low r _ h3 i hi'
   |succ j=>exact k2 j (by omega)
def gx(at_ g:Nat)(m l:List PWord):List PWord:=l.take at_++m++l.drop (at_+g)
def uX(a b:Int)(g:Nat)(ps:List Nat)(fresh:List bZ):Nat->List PWord->List PWord
 |0,l=>l
 |i+1,l=>uX a b g ps fresh i (gx (gD ps i) g (cp a b fresh (i*fresh.length)) l)
theorem M5{at_ g:Nat}{m l:List PWord}(h:at_+g<=l.length):(gx at_ g m l).length+g=l.length+m.length:=by grind[gx]
structure PutI(a b:Int)(g:Nat)(ps:List Nat)(fresh:List bZ)(w:List PWord)(i:Nat)(l:List PWord):Prop where
 le:i<=ps.length
 all:uX a b g ps fresh ps.length w=uX a b g ps fresh i l
 room:∀j,j<i->gD ps j+g<=l.length
 small:l.length<=w.length+(ps.length-i)*fresh.length
theorem PutI.start{a b:Int}{g:Nat}{ps:List Nat}{fresh:List bZ}{w:List PWord}(h:oO g ps w.length):PutI a b g ps fresh w ps.length w:=⟨ah _,rfl,fun j hj=>(h j hj).1,by omega⟩
theorem PutI.step{a b:Int}{g:Nat}{ps:List Nat}{fresh:List bZ}{w l:List PWord}{i:Nat}(hg:oO g ps w.length)(h:PutI a b g ps fresh w (i+1) l):PutI a b g ps fresh w i (gx (gD ps i) g (cp a b fresh (i*fresh.length)) l):=by
 have hr:=h.room i (Nat.lt_succ_self i);have hl:=M5 (m:=cp a b fresh (i*fresh.length)) hr;rw[gU]at hl;have hle:=h.le;refine⟨by omega,h.all,fun j hj=>?_,?_⟩
 ·have:=(hg i (by omega)).2 j hj;grind
 ·have hs:=h.small;have e:(ps.length-i)*fresh.length=(ps.length-(i+1))*fresh.length+fresh.length:=by rw[show ps.length-i=(ps.length-(i+1))+1 by omega,qV]
  omega
theorem PutI.done{a b:Int}{g:Nat}{ps:List Nat}{fresh:List bZ}{w l:List PWord}(h:PutI a b g ps fresh w 0 l):uX a b g ps fresh ps.length w=l:=h.all
theorem PutI.len{a b:Int}{g:Nat}{ps:List Nat}{fresh:List bZ}{w l:List PWord}{i:Nat}(h:PutI a b g ps fresh w i l)(h1:w.length<=2^18)(h2:ps.length<=2^9)(h3:fresh.length<=2^9):l.length<=2^19:=by
 have:=h.small;have:(ps.length-i)*fresh.length<=2^9*2^9:=Nat.mul_le_mul (by omega) h3;omega
section
variable{sz b id n n' k l h m:Nat}{H:AHeap}{xs ys zs:List AV}{t:Bool}{x z:AV}{vl:Option AV}
theorem Ir(hh:pa sz xs=true)(h1:jj 0 vl=some l)(h2:fR x=some h)(h3:fR z=some h)(q1:l<=h)(q2:h<=xs.length)(e:(xs.take h).drop l=ys):bv H (dV sz H (some (.ps xs t)) vl (some x) (some z))=some (.val (.ps ys true) H):=by simp_all[th,dV,gz,uN,bv]
theorem PK(hh:pa sz xs=true)(h1:fR x=some l)(q1:l<=xs.length)(e:xs.drop l=ys):bv H (dV sz H (some (.ps xs false)) (some x) none none)=some (.val (.ps ys false) H):=by
 have p2:Nat.ble l xs.length=true:=th q1;have p3:Nat.ble xs.length xs.length=true:=th (ah _);simp only[dV,gz,hh,jj,h1,uN,p2,p3,yt,List.take_length,e,Bool.false_and,bv]
theorem Ze(hf:dG sz xs=true)(hf2:dG sz ys=true)(hne:ys≠[])(hs:small (xs.length+ys.length) b=true)(e:xs++ys=zs)(e2:zs.length=n):fy (de sz b H (some (.ps xs true)) (some (.ls ys)))=some (.val (.slice H.n 0 0 n none) (H.push (.row sz true 0 zs))):=by
 cases ys with
 |nil=>simp_all
 |cons y r=>simp_all[de,gp,kG,ki,iJ,iD,fy]
theorem Sv(e:ys=[]):fy (de sz b H (some (.ps xs true)) (some (.ls ys)))=some (.val (.ps xs true) H):=by subst e;rfl
def tF:List AV->Nat
 |[]=>0
 |_::_=>1
theorem VU(hg:H.get id=some (.row sz true 0 xs))(hp:H.put id (.row sz true 0 xs)=H)(hf:dG sz ys=true)(hl:xs.length=n)(hs:small (n+ys.length) b=true)(e:xs++ys=zs)(e2:zs.length=n'):
  fy (de sz b H (some (.slice id 0 0 n none)) (some (.ps ys t)))=some (.val (.slice id (tF ys) 0 n' none) (H.put id (.row sz true (tF ys) zs))):=by
 cases ys with
 |nil=>
  rw[ei]at e;subst e;simp only[tF,hp,<-e2,hl];rfl
 |cons y r=>
  have p1:Nat.beq 0 0=true:=rfl;have p2:Nat.beq sz sz=true:=qZ sz;have p4:xs.take n=xs:=yo (by omega);have p5:n+(y::r).length=n':=by grind
  have p3:Nat.ble n' xs.length=false:=by grind[bz]
  rw[p5]at hs;simp only[de,gp,kG,ki,iJ,hf,hg,p1,p2,hs,yt,p3,p4,e,p5,tF,fy,fO]
theorem Sw(hf:dG sz xs=true)(hf2:dG sz ys=true)(hne:ys≠[])(hs:small (xs.length+ys.length) b=true)(e:xs++ys=zs)(e2:zs.length=n):fy (de sz b H (some (.ps xs true)) (some (.ps ys t)))=some (.val (.slice H.n 0 0 n none) (H.push (.row sz true 0 zs))):=by
 cases ys with
 |nil=>simp_all
 |cons y r=>simp_all[de,gp,kG,ki,iJ,iD,fy]
end
def n7(l:List Nat)(n:Int):List Nat:=bif ae n 0 then l else bif aB (Int.ofNat l.length) n then[]else(l.take n.toNat).drop (n.toNat-1)
theorem Ul{l:List Nat}{a b i:Nat}(h:i<((l.take b).drop a).length):gD ((l.take b).drop a) i=gD l (a+i):=by grind[gD]
theorem Ns{g n a b:Nat}{l:List Nat}(h:oO g l n):oO g ((l.take b).drop a) n:=by
 intro i hi;have hl:((l.take b).drop a).length<=l.length-a:=by grind
 obtain⟨h1,h2⟩:=h (a+i) (by omega);grind[Ul]
theorem G7{g n:Nat}{l:List Nat}{k:Int}(h:oO g l n):oO g (n7 l k) n:=by
 unfold n7;cases ae k 0 with
 |true=>grind
 |false=>
  cases aB (Int.ofNat l.length) k with
  |true=>exact fun i hi=>absurd hi (np _)
  |false=>exact Ns h
theorem GU(l:List Nat)(k:Int):(n7 l k).length<=l.length:=by
 unfold n7;grind
theorem Dd{g n:Nat}(hg:0<g):∀{l:List Nat}{lo:Nat},rj g l lo n->lo<=n->l.length+lo<=n
 |[],lo,_,h=>by simp_all
 |p::r,lo,⟨h1,h2,h3⟩,_=>by have:=Dd hg h3 h2;grind
theorem KP(l part:List bZ):(uv l part).length<=l.length:=by
 cases part with
 |nil=>exact bD _
 |cons x r=>have:=Dd (ym _) (Co l (x::r)) (bD _);omega
theorem GY(l part:List bZ):oO part.length (uv l part) l.length:=BZ (Co l part)
def xN(c i:Nat)(l:List Nat):List Nat:=(l.take i).map (· +c)++l.drop i
theorem Sn(c i:Nat)(l:List Nat):(xN c i l).length=l.length:=by grind[xN]
theorem Vc{c i:Nat}{l:List Nat}(h:i<l.length):gD (xN c i l) i=gD l i:=by
 unfold xN gD List.getD;grind
theorem OY{c i:Nat}{l:List Nat}(h:i<l.length):(xN c i l).set i (gD l i+c)=xN c (i+1) l:=by
 unfold xN;have h1:((l.take i).map (· +c)).length=i:=by grind
 rw[List.set_append_right _ _ (by omega),h1,Nat.sub_self,Oi h,List.set_cons_zero,Ol h,qQ];grind[gD]
theorem OV{c n:Nat}{l m:List Nat}(h:l.length=n):(xN c n (l++m)).take n=l.map (· +c):=by grind[xN]
theorem Jx{c i:Nat}{l:List Nat}(h:i<l.length):gD (l.map (· +c)) i=gD l i+c:=by grind[gD]
theorem QR{c n:Nat}{l:List Nat}(h:oO c l n):oO 0 (l.map (· +c)) n:=by
 intro i hi;rw[cQ]at hi;obtain⟨h1,h2⟩:=h i hi;grind[Jx]
def vD(l:List PWord):List PWord:=bif aB 256 (Int.ofNat l.length)then[]else l
def zw(l:List PWord):Int:=bif aB 256 (Int.ofNat l.length)then 6 else 0
def xH(a b:Int)(g:Nat)(ps:List Nat)(fresh:List bZ)(w:List PWord):List PWord×Int:=(vD (uX a b g ps fresh ps.length w),zw (uX a b g ps fresh ps.length w))
def F3(a b:Int)(w:List PWord)(old new:List bZ)(n:Int):List PWord×Int:=bif ae (Int.ofNat old.length) 0 then([],1)else bif ae (Int.ofNat (n7 (uv (b8 w) old) n).length) 0 then([],4)else xH a b old.length (n7 (uv (b8 w) old) n) new w
def Ez(a b:Int)(w:List PWord)(part new:List bZ)(n:Int):List PWord×Int:=
 bif ae (Int.ofNat new.length) 0||(ae (Int.ofNat part.length) 0&&aw (ae n 0))then([],1)
 else bif ae (Int.ofNat part.length) 0 then xH a b 0 [0] new w
 else bif ae (Int.ofNat (n7 (uv (b8 w) part) n).length) 0 then([],4)else xH a b 0 ((n7 (uv (b8 w) part) n).map (· +part.length)) new w
def lJ(x k:TUnit):Bool:=ae k.kind x.kind&&eV k.label x.label
def yO(p x:TUnit):Int:=bif jc p.kind x.kind then(bif p.kids.any (lJ x)then 10 else 0)else 9
def RC(u:TUnit)(p:PId)(x:TUnit):Bool:=aB 8 (Int.ofNat ((pP p u).length+1+nY x))
abbrev pR:=TUnit×Int
def Nl(u:TUnit)(te:Int)(full cf:Bool)(u2:TUnit):pR:=bif ae te 0 then(bif full then(u,6)else bif cf then(u,5)else(u2,0))else(u,te)
def Fz(u:TUnit)(e:Int)(u2:TUnit):pR:=bif ae e 0 then(u2,0)else(u,e)
def Tc(u:TUnit)(te:Int)(u2:TUnit):pR:=bif ae te 10 then(u,10)else(u2,0)
def QQ(u:TUnit)(te:Int)(full:Bool)(u2:TUnit):pR:=bif ae te 0 then(bif full then(u,6)else(u2,0))else(u,te)
def Ho(e1 e2:Int)(sp:PSpot)(e3:Int):PSpot×Int:=bif ae e1 0 then(bif ae e2 0 then(bif ae e3 0 then(sp,0)else(dO,e3))else(dO,e2))else(dO,e1)
noncomputable def eN(r:pR):AV:=.tuple [eU r.1,.int .i64 r.2]
theorem vE{p:PId}{u:TUnit}(h:cK p u=true):ee p u∈bB u/\bw (ee p u)=p:=by grind[OI,SO,C1]
theorem rB(l m:List TUnit):iE (l++m)=iE l++iE m:=by
 induction l with
 |nil=>rw[rA];rfl
 |cons k r ih=>grind[gc]
theorem qH(u:TUnit)(l:List TUnit):dx (jC u l)=bw u::iE l:=by rw[nH];rfl
theorem mw(u:TUnit):nU u=(dx u).length:=(uC u).symm
theorem wM(u:TUnit)(l:List TUnit):bB (jC u l)=jC u l::dB l:=by rw[da];rfl
theorem si{q:PId}:∀(u:TUnit),cK q u=true->∃v C,v∈bB u/\bw v=q/\(dx u).Perm (C++dx v)/\∀f,(dx (dZ q f u)).Perm (C++dx (f v))/\
  ∀x,x∈bB (dZ q f u)->x∈bB (f v)\/∃y,y∈bB u/\bw x=bw y/\x.kids.length=y.kids.length/\x.head=y.head/\x.words=y.words:=TUnit.ind fun u ih h=>by
 cases hi:f9 q u with
 |true=>
  refine⟨u,[],dh u,(gF q u).1 hi,List.Perm.refl _,fun f=>?_⟩;grind[rk]
 | false=>
  have key:∀(r:List TUnit),(∀k,k∈r->k∈u.kids)->cw q r≠[]->∃v C,v∈dB r/\bw v=q/\(iE r).Perm (C++dx v)/\∀f,(iE (ef q f r)).Perm (C++dx (f v))/\(ef q f r).length=r.length/\
    ∀x,x∈dB (ef q f r)->x∈bB (f v)\/∃y,y∈dB r/\bw x=bw y/\x.kids.length=y.kids.length/\x.head=y.head/\x.words=y.words:=by
   intro r;induction r with
   |nil=>grind[lQ]
   | cons k r ihr=>
    intro hm hw;cases hk:cK q k with
    | true=>
     obtain⟨v,C,h1,h2,h3,h4⟩:=ih k (hm k (e9 ..)) hk;refine⟨v,C++iE r,by grind[bP],h2,?_,fun f=>?_⟩
     ·grind[gc]
     ·have e:ef q f (k::r)=dZ q f k::r:=by rw[jM,hk];rfl
      rw[e];refine⟨?_,rfl,fun x hx=>?_⟩
      ·grind[gc]
      ·rw[bP]at hx;rcases lr.1 hx with hx|hx
       ·grind[bP]
       ·exact .inr ⟨x,by grind[bP],rfl,rfl,rfl,rfl⟩
    |false=>
     rw[jJ hk]at hw;obtain⟨v,C,h1,h2,h3,h4⟩:=ihr (fun x hx=>hm x (fQ _ hx)) hw;refine⟨v,dx k++C,by grind[bP],h2,by grind[gc],fun f=>?_⟩;have e:ef q f (k::r)=k::ef q f r:=by rw[jM,hk];rfl
     rw[e];refine⟨by grind[gc],by simp_all,fun x hx=>?_⟩;rw[bP]at hx;rcases lr.1 hx with hx|hx
     ·exact .inr ⟨x,by grind[bP],rfl,rfl,rfl,rfl⟩
     grind[bP]
  have hw:cw q u.kids≠[]:=by
   intro e;have:=ll h;rw[gm,hi,e]at this;simp_all
  obtain⟨v,C,h1,h2,h3,h4⟩:=key u.kids (fun _ h=>h) hw;refine⟨v,bw u::C,by grind[da],h2,by grind[nH],fun f=>?_⟩;rw[kT hi];refine⟨by grind[qH],fun x hx=>?_⟩;rw[wM]at hx;rcases fk.1 hx with rfl|hx
  ·exact .inr ⟨u,dh u,rfl,(h4 f).2.1,rfl,rfl⟩
  grind[da]
theorem vG{p:PId}:∀(u:TUnit),iY p u=true->∃q i,q∈bB u/\sM p u=bw q/\qp p u=Int.ofNat i/\i<q.kids.length/\bw (gD q.kids i)=p:=TUnit.ind fun u ih h=>by
 have hh:cK p u=true:=by
  cases e:cK p u with
  |true=>rfl
  |false=>grind[QG]
 cases hi:f9 p u with
 |true=>
  unfold iY at h;rw[rv hi]at h;cases h
 | false=>
  have key:∀(r:List TUnit),cw p r≠[]->∃j k,j<r.length/\gD r j=k/\cK p k=true/\cw p r=aF p k/\∀n,cM (cK p) r n=Int.ofNat (n+j):=by
   intro r;induction r with
   |nil=>grind[lQ]
   | cons k r ihr=>
    intro hw;cases hk:cK p k with
    |true=>
     refine⟨0,k,ym _,rfl,hk,oY hk,fun n=>?_⟩;unfold cM;simp_all
    | false=>
     rw[jJ hk]at hw;obtain⟨j,k2,h1,h2,h3,h4,h5⟩:=ihr hw;refine⟨j+1,k2,by simp_all,h2,h3,by grind[jJ],fun n=>?_⟩;have e:cM (cK p) (k::r) n=cM (cK p) r (n+1):=by
      show(bif cK p k then _ else _)=_
      simp_all
     grind
  have hw:cw p u.kids≠[]:=by
   intro e;have:=ll hh;rw[gm,hi,e]at this;simp_all
  obtain⟨j,k,h1,h2,h3,h4,h5⟩:=key u.kids hw;obtain⟨y,t,e⟩:=wZ h3;have hway:aF p u=u::aF p k:=by rw[gm,hi,h4,e];rfl
  have hkm:k∈u.kids:=h2▸ig h1;rw[IL h,IM h];cases hk:iY p k with
  | true=>
   obtain⟨q,i,q1,q2,q3,q4,q5⟩:=ih k hkm hk;rw[IL hk]at q2;rw[IM hk]at q3;have e2:Ia p u=Ia p k:=by
    unfold Ia;rw[hway];have:2<=(aF p k).length:=by
     unfold iY at hk;cases hl:aB (Int.ofNat (aF p k).length) 2 with
     |true=>grind
     |false=>have:=aE hl;grind
    show gD (u::aF p k) ((aF p k).length+1-2)=_
    rw[show(aF p k).length+1-2=((aF p k).length -2)+1 by omega];rfl
   grind[bM]
  | false=>
   have hl:(aF p k).length=1:=by
    unfold iY at hk;cases hl:aB (Int.ofNat (aF p k).length) 2 with
    |false=>grind
    |true=>have:=aA hl;grind
   have hik:f9 p k=true:=by
    cases hik:f9 p k with
    |true=>rfl
    |false=>
     rw[gm,hik]at hl e;grind
   have e2:Ia p u=u:=by
    unfold Ia;rw[hway];show gD (u::aF p k) ((aF p k).length+1-2)=_
    rw[hl];rfl
   rw[e2,h5 0,fO];exact⟨u,j,dh u,rfl,rfl,h1,by grind[gF]⟩
theorem Uh{p:PId}{u:TUnit}(h:cK p u=true)(hi:f9 p u=false):iY p u=true:=by
 have hw:aF p u≠[]:=ll h;have e:aF p u=match cw p u.kids with|[]=>[]|y::t=>u::y::t:=by rw[gm,hi];rfl
 unfold iY;rw[e]at hw ⊢;cases ew:cw p u.kids with
 |nil=>simp_all
 |cons y t=>
  show aw (aB (Int.ofNat (u::y::t).length) 2)=true
  rw[kw (by grind)];rfl
theorem Ud{v:TUnit}{i:Nat}(h:i<v.kids.length):(dx v).Perm (dx (gI i v)++dx (gD v.kids i)):=by
 unfold gI;rw[nH v,qH,Og,rB];have e:v.kids=v.kids.take i++(gD v.kids i::v.kids.drop (i+1)):=by grind[gD,List.drop_eq_getElem_cons,List.take_append_drop]
 grind[rB,gc]
theorem Uc{v x:TUnit}{i:Nat}:(dx (dD i x v)).Perm (dx v++dx x):=by
 unfold dD xK;rw[nH v,qH,rB,gc,yB];grind[List.take_append_drop,rB]
section
variable{P:Program}{G:eE}{call:cW}{m:Nat}{c:Code}{d:D}{s s':St}{ops:Array Oper}{h h':AHeap}{o:AObj}{f:FuncId}{args:List AV}{v u:AV}{pl pl':Pl}{M M':dA}{w w':World}
theorem ca.psh(g2:ca pl M h w):ca pl M (h.push o) w:=
 ⟨fun id p hp=>Nat.lt_succ_of_lt (g2.dom id p hp),(fun id p o' hp hg=>by
  rcases dX hg with⟨rfl,_⟩|⟨_,h2⟩
  ·exact absurd (g2.dom _ p hp) (wg _)
  ·exact g2.obj id p o' hp h2),g2.blk,g2.inj,g2.imm,g2.sep⟩
theorem cG.psh(g2:ca pl M h w)(g4:cG h pl M w h' pl' M' w')(g2':ca pl' M' h' w'):cG h pl M w (h'.push o) pl' M' w':=
 ⟨g4.ext,g4.new,g4.mem,g4.size,g4.kept,g4.blks,(fun id p hp hg=>by
  have:=g4.live id p hp hg;cases hh:(h'.push o).get id with
  |none=>rfl
  |some o'=>
   rcases dX hh with⟨rfl,_⟩|⟨_,h2⟩
   ·obtain⟨p',e1,_⟩:=g4.ext _ p hp;exact absurd (g2'.dom _ p' e1) (wg _)
   simp_all),g4.stay,g4.memNew,g4.os,g4.tape,g4.out,g4.drawn⟩
theorem aH.psh(h0:aH P G f args h (fun v1 h1=>v1=v/\h1=h'))(hl:Le u v):aH P G f args h (fun v1 h1=>v1=u/\h1=h'.push o):=by
 intro pl M w vs hg hr hv;have key:∀{cv w'},iq pl M h w v h' cv w'->iq pl M h w u (h'.push o) cv w':=fun⟨pl',M',k1,k2,k3,k4⟩=>⟨pl',M',hl _ _ _ k1,ca.psh k2,cG.psh hr k3 k2,Nat.le_succ_of_le k4⟩
 rcases h0 pl M w vs hg hr hv with⟨h1,h2⟩|⟨cv,w',v',h'',h1,⟨rfl,rfl⟩,h3⟩
 ·exact .inl ⟨h1,Calls.mono h2 fun e w' ⟨cv,v',h'',k1,⟨k2,k2'⟩,k3⟩=>⟨cv,u,h'.push o,k1,⟨rfl,rfl⟩,by simp_all⟩⟩
 ·exact .inr ⟨cv,w',u,_,h1,⟨rfl,rfl⟩,key h3⟩
theorem JN{Ψ Ψ':AV->AHeap->Prop}(o:AObj)(h0:aH P G f args h Ψ)(hΨ:∀v h',Ψ v h'->∃u,Le u v/\Ψ' u (h'.push o)):aH P G f args h Ψ':=by
 intro pl M w vs hg hr hv;have key:∀{v u h' cv w'},Le u v->iq pl M h w v h' cv w'->iq pl M h w u (h'.push o) cv w':=fun hl ⟨pl',M',k1,k2,k3,k4⟩=>⟨pl',M',hl _ _ _ k1,ca.psh k2,cG.psh hr k3 k2,Nat.le_succ_of_le k4⟩
 rcases h0 pl M w vs hg hr hv with⟨h1,h2⟩|⟨cv,w',v',h'',h1,h2,h3⟩
 ·refine .inl ⟨h1,Calls.mono h2 fun e w' ⟨cv,v',h'',k1,k2,k3⟩=>?_⟩;grind
 ·obtain⟨u,q1,q2⟩:=hΨ _ _ h2;exact .inr ⟨cv,w',u,_,h1,q2,key q1 h3⟩
theorem Pv(pl:Pl)(M:dA)(p:Place)(x:Option Obj):bb pl M p .dead x:=by cases x<;>trivial
theorem aH.dead{i:Nat}{Ψ Ψ':AV->AHeap->Prop}(h0:aH P G f args h Ψ)(hi:h.n<=i)(hm:i<1000000)(hΨ:∀v h',Ψ v h'->Ψ' v (h'.put i .dead)):aH P G f args h Ψ':=by
 intro pl M w vs hg hr hv;have key:∀{v h' cv w'},iq pl M h w v h' cv w'->iq pl M h w v (h'.put i .dead) cv w':=fun⟨pl',M',k1,k2,k3,k4⟩=>⟨pl',M',k1,⟨k2.dom,(fun id p o hp hg=>by
  rcases AHeap.get_put hm hg with⟨_,rfl⟩|⟨_,h2⟩
  ·grind[Pv]
  ·exact k2.obj id p o hp h2),k2.blk,k2.inj,k2.imm,k2.sep⟩,⟨k3.ext,k3.new,k3.mem,k3.size,k3.kept,k3.blks,(fun id p hp hg=>by
   have hl:=hr.dom id p hp;have hn:=k3.live id p hp hg;cases hh:AHeap.get (AHeap.put _ i .dead) id with
   |none=>rfl
   |some o'=>grind[AHeap.get_put]),k3.stay,k3.memNew,k3.os,k3.tape,k3.out,k3.drawn⟩,k4⟩
 rcases h0 pl M w vs hg hr hv with⟨h1,h2⟩|⟨cv,w',v',h'',h1,h2,h3⟩
 ·exact .inl ⟨h1,Calls.mono h2 fun e w' ⟨cv,v',h'',k1,k2,k3⟩=>⟨cv,v',h''.put i .dead,k1,hΨ _ _ k2,key k3⟩⟩
 ·exact .inr ⟨cv,w',v',_,h1,hΨ _ _ h2,key h3⟩
end
section
variable{P:Program}{G:eE}{ops:Array Oper}{o:Oper}{l:List Oper}{s:St}{b:Option Nat}
theorem xt{t tx e:TypeId}{i:TypeInfo}{sz bt:Nat}(hsz:i.size=sz)(hbt:i.bytes=bt){z z0:AV}{sO xO:Operand}{dst:Option Tmp}{ty:TypeId}{pos:String}{after:Array Edge}{guard:Option (Nat×Bool)}{xs:List AV}
  (ht:P.underlying t=some (.slice e))(hk:∃e',P.underlying tx=some (.slice e'))(hi:P.info? e=some i)(hz:iB P e=some z0)(hzl:Le z z0)
  (hs:(cV G sO).run s.tmps=some (.ps [] true))(hx:(cV G xO).run s.tmps=some (.ls xs))(hne:xs≠[])(hfit:dG sz xs=true)(hzf:dG sz [z]=true)(hsm:small xs.length bt=true)(hs0:0<sz)
  (pl:Pl)(M:dA)(a:Act)(w:World)(g1:pA G pl M)(g2:ca pl M s.heap w)(g3:FrRel pl M s.tmps a):
  ∃(k:Nat)(pl':Pl)(M':dA)(cv:Value)(w':World),k=0/\(execOp a.eval ⟨dst,.call ⟨.builtin .append,#[sO,xO],#[t,tx]⟩,ty,pos,after,guard⟩).run P w=.ok (.value cv) w'/\
   VRel pl' M' (.slice s.heap.n 0 0 xs.length none) cv/\ca pl' M' (s.heap.push (.row sz true 0 xs)) w'/\cG s.heap pl M w (s.heap.push (.row sz true 0 xs)) pl' M' w'/\s.heap.n<=(s.heap.push (.row sz true 0 xs)).n:=by
 subst hsz;subst hbt;have hsr:=bW g1 g3 hs;have hxr:=bW g1 g3 hx;obtain⟨news,hsrc⟩:=y9 (P:=P) g2 hxr (show kG s.heap (.ls xs)=some xs from rfl) hne hfit;obtain⟨i2,zv,hz1,hz2,hz3⟩:=mH hz;rw[hi]at hz1;cases hz1
 obtain⟨b1,b2⟩:=ju hsm;have hpos:0<xs.length:=qJ.2 hne;generalize hq:a.eval sO=cs at hsr;generalize hq2:a.eval xO=cx at hxr hsrc;cases hsr with
 | ps hl htt hm hs2 hc=>
  rename_i ad cap sz c;have hcap:cap=0:=htt rfl;subst hcap;have hzr:=hzl _ _ _ (dz (pl:=pl) (M:=M) hz3);have hzt:=mn hzf z (by simp);have hzsz:zv.cells.size=i.size:=by rw[<-hzr.cells.len];omega
  have hrun:=run_append_grow_src (P:=P) w t tx ty e i zv ht hi hz2 (some ad) 0 0 [] (by simp[Builtin.firstCells,loadCells,loadCellsFrom]) cx xs.length news (hsrc.src (.inl hk)) (by omega) (by omega) (growslice_fits (by omega) (by grind));have hge:=grownCap_ge w (0+xs.length) 0 e;obtain⟨C,hC⟩:∃C,C=grownCap w (0+xs.length) 0 e:=⟨_,rfl⟩
  rw[<-hC]at hrun hge;have hin:=fK hzr hzt.2 (C-(0+xs.length)) hzt.1 hs0;have hzl:(Builtin.zeroCells zv.cells (C-(0+xs.length))).toList.toArray=(Array.range ((C-(0+xs.length))*i.size)).map (zv.cells[· %zv.cells.size]!):=by grind[Builtin.zeroCells]
  have hnl:(Builtin.zeroCells zv.cells (C-(0+xs.length))).toList.length=(List.replicate (C-(0+xs.length)) z).length *i.size:=by grind[Builtin.zeroCells]
  have hin2:=ka (news:=(Builtin.zeroCells zv.cells (C-(0+xs.length))).toList) hsrc.mem (by grind) hsrc.newsLen hnl #[];have hce:(news++(Builtin.zeroCells zv.cells (C-(0+xs.length))).toList).toArray++#[]=([]++news).toArray++Builtin.zeroCells zv.cells (C-(0+xs.length)):=by grind
  rw[hce]at hin2;have hcs:(([]++news).toArray++Builtin.zeroCells zv.cells (C-(0+xs.length))).size=(xs++List.replicate (C-(0+xs.length)) z).length *i.size:=by simp only[yp,FV,BS,hsrc.newsLen,size_zeroCells,hzsz,eW,qW,jL]
  obtain⟨cells,hcells⟩:∃cells,cells=([]++news).toArray++Builtin.zeroCells zv.cells (C-(0+xs.length)):=⟨_,rfl⟩
  rw[<-hcells]at hrun hin2 hcs;have hxC:xs.length<=C:=by omega
  have hszc:cells.size=C*i.size:=by grind
  have hin3:InMem pl M cells 0 i.size xs:=⟨by rw[fO,hszc];exact eB _ hxC,fun x hx=>hin2.elem x (FZ _ hx),fun i x j y h1 h2=>hin2.cell i x j y (by grind) h2⟩
  let p:Place:=⟨w.heap.size,0,i.size,xs.length,C*i.size⟩
  have hwd:(w.drew.alloc (.cells cells e)).heap=w.heap.push (.cells cells e):=rfl;obtain⟨r1,r2⟩:=ca.alloc (o:=.row i.size true 0 xs) (p:=p) g2 hwd ⟨rfl,rfl,rfl,oJ _⟩ rfl
   ⟨rfl,rfl,rfl,hszc.symm,rfl,hs0,fun h=>(by grind),hin3.mono (fun id q hq=>⟨q,by rw[cN (by have:=g2.dom id q hq;omega)];omega,ah _,fun _=>rfl⟩) (fun _ _ h=>h)⟩
  refine⟨0,upd pl s.heap.n p,M,.slice (some ⟨w.heap.size,0,none⟩) (0+xs.length) C,w.drew.alloc (.cells cells e),rfl,?_,?_,r1,r2,oJ _⟩
  ·simp only[execOp,resolve,invoke,builtin,Sem.run_bind,Sem.run_pure,Result.andThen_ok,List.map_toArray,eu,wc,hq,hq2];show(Sem.run P (Builtin.append_ #[t,tx] ty #[Value.slice (some ad) 0 0,cx]) w).andThen _=_
   rw[hrun];rfl
  ·rw[fO]at hge ⊢;refine .slice (dS _ _ _) (ah _) hge (fun k hk=>by grind) (fun _=>⟨.inr (by grind),by grind,by grind,(fun _=>by grind),(fun k hk=>by grind)⟩)
end
theorem jq{s u:List UInt8}{H:AHeap}(h:s.length+u.length<=2^62):bv H (Vb (.str s) (.str u))=some (.val (.str (s++u)) H):=by grind[Nat.ble_eq_true_of_le,Vb,bv]
def NH(s:bZ):bZ:=bif ae (.ofNat (gD s 0).toNat) 124 then[92]else bif ae (.ofNat (gD s 0).toNat) 92 then[92]else[]
def BD(s:bZ)(w:PWord):bZ:=s++[32]++NH w.text++w.text
def mb(s:bZ)(l:List PWord):bZ:=l.foldl BD s
theorem oH(s:bZ)(w:PWord)(r:List PWord):mb s (w::r)=mb (BD s w) r:=rfl
theorem ES{x:bZ}{w:PWord}(h1:ae (.ofNat (gD w.text 0).toNat) 124=true):BD x w=x++[32]++[92]++w.text:=by grind[BD,NH]
theorem ER{x:bZ}{w:PWord}(h1:ae (.ofNat (gD w.text 0).toNat) 124=false)(h2:ae (.ofNat (gD w.text 0).toNat) 92=true):BD x w=x++[32]++[92]++w.text:=by grind[BD,NH]
theorem EP{x:bZ}{w:PWord}(h1:ae (.ofNat (gD w.text 0).toNat) 124=false)(h2:ae (.ofNat (gD w.text 0).toNat) 92=false):BD x w=x++[32]++w.text:=by grind[BD,NH]
theorem Wm(d:Nat):aB (.ofNat d) 0=false:=rfl
def tL(u:TUnit):TUnit:=⟨0,0,0,u.kind,u.label,u.head,u.words,[]⟩
def EZ(u:TUnit)(d:Nat):Bool:=aw (aB (.ofNat d) 0)&&(aw (aB 8 (.ofNat d))&&lZ (cL (tL u)))
def gj(u:TUnit)(d:Nat):bZ:=
 bif aw (EZ u d)then[]else
  let a:=Lib.repeatL [32,32] d++cT u.kind
  let b:=bif aw (ae u.kind 0)then a++([32]++u.label)else a
  let c:=bif aB 0 (.ofNat u.head.length)then mb (b++[58]) u.head else b
  bif aB 0 (.ofNat u.words.length)then mb (c++[32,124]) u.words else c
mutual
def eY:Nat->TUnit->List bZ
 |d,⟨a,i,n,k,l,h,w,ks⟩=>gj ⟨a,i,n,k,l,h,w,ks⟩ d::c9 (d+1) ks
def c9:Nat->List TUnit->List bZ
 |_,[]=>[]
 |d,k::r=>eY d k++c9 d r
end
theorem CE(d:Nat)(u:TUnit):eY d u=gj u d::c9 (d+1) u.kids:=by cases u;rw[eY];rfl
theorem wT(d:Nat):c9 d []=[]:=by rw[c9]
theorem mh(d:Nat)(k:TUnit)(r:List TUnit):c9 d (k::r)=eY d k++c9 d r:=by rw[c9]
def xI(u:TUnit):bZ×Int:=
 bif aw (lZ (cL u))then([],1)else
  bif aB 16384 (.ofNat (Lib.join (eY 0 u) [10]++[10]).length)then([],6)else(Lib.join (eY 0 u) [10]++[10],0)
theorem Rx(s:bZ):(NH s).length<=1:=by grind[NH]
theorem So(s:bZ)(w:PWord):(BD s w).length<=s.length+(w.text.length+2):=by grind[Rx,BD]
theorem vj{l:List PWord}(h:∀w,w∈l->w.text.length<=24)(s:bZ):(mb s l).length<=s.length+26*l.length:=by
 induction l generalizing s with
 |nil=>exact ah _
 |cons w r ih=>grind[So,oH]
theorem AZ(k:Int):(cT k).length<=16:=by
 unfold cT;split<;>decide
theorem gE{a b:Int}(h:aw (aB a b)=true):b<=a:=aE (by cases q:aB a b<;>rw[q]at h<;>first|rfl|grind)
theorem JX{s:bZ}(h:ky s=true):s.length<=7:=by
 unfold ky at h;simp only[bj]at h;have h1:=gE h.2.1;have h2:=gE h.2.2.2.1;grind
theorem MZ{s:bZ}(h:sJ s=true):1<=s.length/\s.length<=24:=by
 unfold sJ at h;simp only[bj]at h;have h1:=gE h.1;have h2:=gE h.2.1;grind
theorem Iz{l:List PWord}(h:oS l=true):l.length<=256/\∀w,w∈l->1<=w.text.length/\w.text.length<=24:=by
 unfold oS qi at h;simp only[bj,kI]at h;have h1:=gE h.1;simp only[aN]at h1;exact⟨by omega,fun w hw=>MZ (h.2.2 _ (jf.2 ⟨w,hw,rfl⟩))⟩
theorem OX{u:TUnit}(h:ma u=true):u.label.length<=7/\(u.head.length<=256/\∀w,w∈u.head->1<=w.text.length/\w.text.length<=24)/\(u.words.length<=256/\∀w,w∈u.words->1<=w.text.length/\w.text.length<=24):=by
 unfold ma at h;simp only[bj]at h;have h:=h.1;cases hk:ae u.kind 0 with
 |true=>
  rw[hk]at h;simp only[cond_true,bj]at h;have h1:u.label=[]:=Rd h.1;have h2:=gE h.2;grind
 |false=>grind[JX,Iz]
theorem Pq{q:TUnit->Bool}{u:TUnit}(h:wy q u=true):q u=true:=by grind[yh]
theorem K6{u:TUnit}{d:Nat}(h:EZ u d=true):d<=8/\u.label.length<=7/\(u.head.length<=256/\∀w,w∈u.head->1<=w.text.length/\w.text.length<=24)/\(u.words.length<=256/\∀w,w∈u.words->1<=w.text.length/\w.text.length<=24):=by
 unfold EZ lZ at h;simp only[bj]at h;have h1:=gE h.2.1;simp only[aN]at h1;have h2:=OX (Pq h.2.2.1);rw[mp]at h2;obtain⟨e1,⟨e2,e3⟩,e4,e5⟩:=h2;refine⟨by omega,e1,⟨by grind[tL,TUnit.head],fun w hw=>?_⟩,⟨by grind[tL,TUnit.words],fun w hw=>?_⟩⟩
 ·exact e3 (g9 w) (jf.2 ⟨w,hw,rfl⟩)
 ·exact e5 (g9 w) (jf.2 ⟨w,hw,rfl⟩)
theorem EE{b:Bool}{x y:bZ}{n:Nat}(h1:x.length<=n)(h2:y.length<=n):(bif b then x else y).length<=n:=by grind
theorem QV(u:TUnit)(d:Nat):(gj u d).length<=2^14:=by
 unfold gj;cases h:EZ u d with
 |false=>simp_all
 |true=>
  obtain⟨h1,h2,⟨h3,h4⟩,h5,h6⟩:=K6 h;have k:=AZ u.kind;have r:=Lib.repeatL_length [32,32] d;simp only[cO,gP]at r;have ha:(Lib.repeatL [32,32] d++cT u.kind).length<=32:=by grind
  have hh:∀w,w∈u.head->w.text.length<=24:=fun w hw=>(h4 w hw).2
  have hw:∀w,w∈u.words->w.text.length<=24:=fun w hw=>(h6 w hw).2
  simp only[aw,cond_false];have hb:∀x:bZ,x.length<=32->(bif aw (ae u.kind 0)then x++([32]++u.label)else x).length<=40:=fun x hx=>EE (by grind) (by omega)
  have hc:∀x:bZ,x.length<=40->(bif aB 0 (.ofNat u.head.length)then mb (x++[58]) u.head else x).length<=6700:=fun x hx=>EE (by grind[vj]) (by omega)
  have hd:∀x:bZ,x.length<=6700->(bif aB 0 (.ofNat u.words.length)then mb (x++[32,124]) u.words else x).length<=2^14:=fun x hx=>EE (by have:=vj hw (x++[32,124]);grind) (by omega)
  grind
mutual
theorem lY(d:Nat):∀u:TUnit,(eY d u).length=nU u
 |⟨a,i,n,k,l,h,w,ks⟩=>by rw[eY,cO,xZ (d+1) ks,nU];omega
theorem xZ(d:Nat):∀l:List TUnit,(c9 d l).length=eJ l
 |[]=>by rw[c9,eJ];rfl
 |k::r=>by rw[c9,eJ,eW,lY d k,xZ d r]
end
mutual
theorem zT(d:Nat):∀(u:TUnit)(s:bZ),s∈eY d u->s.length<=2^14
 |⟨a,i,n,k,l,h,w,ks⟩,s,hs=>by
  rw[eY]at hs;rcases fk.1 hs with rfl|hs
  ·exact QV _ _
  ·exact xQ (d+1) ks s hs
theorem xQ(d:Nat):∀(l:List TUnit)(s:bZ),s∈c9 d l->s.length<=2^14
 |[],s,hs=>by rw[c9]at hs;cases hs
 |k::r,s,hs=>by
  rw[c9]at hs;rcases lr.1 hs with hs|hs
  ·exact zT d k s hs
  ·exact xQ d r s hs
end
theorem uo{sep:bZ}{B:Nat}:∀{l:List bZ},(∀s,s∈l->s.length<=B)->(Lib.joinTail sep l).length<=l.length*(sep.length+B)
 |[],_=>bD _
 |x::r,h=>by
  have h1:=h x e9;have h2:=uo (sep:=sep) (l:=r) fun s hs=>h s (fQ _ hs)
  grind[Lib.joinTail,Nat.succ_mul]
theorem Qw{sep:bZ}{B:Nat}{l:List bZ}(h:∀s,s∈l->s.length<=B):(Lib.join l sep).length<=l.length*(sep.length+B):=by
 cases l with
 |nil=>exact bD _
 |cons x r=>
  have h1:=h x e9;have h2:=uo (sep:=sep) (l:=r) fun s hs=>h s (fQ _ hs)
  grind[Lib.join_cons,Nat.succ_mul]
theorem wF:∀(l:List TUnit),(∀k,k∈l->nU (cL k)=nU k/\∀x,x∈bB (cL k)->∃y,y∈bB k/\x=cL y)->eJ (l.map cL)=eJ l/\∀x,x∈dB (l.map cL)->∃y,y∈dB l/\x=cL y
 |[],_=>⟨rfl,fun x hx=>by grind[gY]⟩
 |k::r,h=>by
  obtain⟨a1,a2⟩:=h k e9;obtain⟨b1,b2⟩:=wF r fun k hk=>h k (fQ _ hk)
  grind[eJ,bP]
theorem Mu:∀u:TUnit,nU (cL u)=nU u/\∀x,x∈bB (cL u)->∃y,y∈bB u/\x=cL y:=by
 refine TUnit.ind fun u ih=>?_
 obtain⟨h1,h2⟩:=wF u.kids ih;refine⟨?_,fun x hx=>?_⟩
 ·rw[jk (cL u),jk u,mp];exact congrArg (1+ ·) h1
 ·rw[da,mp]at hx;rcases fk.1 hx with rfl|hx
  ·grind[da,List.mem_cons_self,mp]
  ·obtain⟨y,h3,h4⟩:=h2 x hx;grind[da]
structure OkB(u:TUnit):Prop where
 nd:(dx u).Nodup
 n:nU u<=1024
 w:∀x,x∈bB u->x.head.length<=300/\x.words.length<=300
theorem OkB.uni{u v x:TUnit}(h:OkB u)(hv:v∈bB u)(hx:x∈bB u)(e:bw v=bw x):v=x:=Cs h.nd hv hx e
theorem tW{u x:TUnit}(hx:x∈bB u):cK (bw x) u=true:=Lf u ⟨x,hx,rfl⟩
theorem mA:∀{l:List TUnit}{x:TUnit},x∈dB l->∃k,k∈l/\x∈bB k
 |[],x,h=>by grind[gY]
 |k::r,x,h=>by
  rw[bP]at h;rcases lr.1 h with h|h
  ·simp_all
  ·obtain⟨k',h1,h2⟩:=mA h;grind
theorem CU{u:TUnit}:∀(p:List PStep)(l:List TUnit),(∀x,x∈l->x∈bB u)->∀x,x∈gC p l->x∈bB u
 |[],l,h,x,hx=>h x hx
 |s::r,l,h,x,hx=>by
  refine CU r _ (fun y hy=>?_) x hx;grind[jV,bM,dh]
theorem Nt{u:TUnit}{p:List PStep}{x:TUnit}(h:x∈dl u p):x∈bB u:=by
 unfold dl at h;grind[dh,CU]
theorem rQ{u:TUnit}{p:List PStep}(h:(ab u p).2=0):cK (ab u p).1 u=true:=by
 unfold ab at h ⊢;split at h
 ·omega
 ·rename_i x e;exact tW (Nt (by rw[e];simp_all))
 omega
def E5(u:TUnit)(sp:PSpot):Prop:=∃n:Nat,sp.at_=Int.ofNat n/\n<=2^20/\∀v,v∈bB u->f9 sp.id v=true->n<=v.kids.length
theorem Pt{u:TUnit}(hu:OkB u){p:PId}(h:iY p u=true){n:Nat}(hn:n<=1):E5 u ⟨sM p u,qp p u+Int.ofNat n⟩:=by
 obtain⟨q,i,h1,h2,h3,h4,h5⟩:=vG u h;have hk:=bf q;have:=dT h1;have:=hu.n;refine⟨i+n,by simp_all,by omega,fun v hv hi=>?_⟩;have hi:f9 (sM p u) v=true:=hi;rw[gF,h2]at hi;rw[hu.uni hv h1 hi];omega
theorem Gl{u:TUnit}(hu:OkB u){p:PId}(hp:cK p u=true){w:Int}(he:(dc w u p).2=0):E5 u (dc w u p).1:=by
 unfold dc at he ⊢;cases h0:ae w 0 with
 |true=>exact⟨0,rfl,bD _,fun v _ _=>bD _⟩
 | false=>
  rw[h0]at he;simp only[cond_false]at he ⊢;cases h1:ae w 1 with
  |true=>
   obtain⟨a,b⟩:=vE hp;have hk:=bf (ee p u);have:=dT a;have:=hu.n;refine⟨_,rfl,by omega,fun v hv hi=>?_⟩;rw[gF]at hi;rw[hu.uni hv a (hi.trans b.symm)];omega
  |false=>
   rw[h1]at he;simp only[cond_false]at he ⊢;have key:∀n:Nat,n<=1->(nO u p (Int.ofNat n)).2=0->E5 u (nO u p (Int.ofNat n)).1:=fun n hn he=>by grind[nO,Pt]
   cases h2:ae w 2 with
   |true=>grind
   |false=>rw[h2]at he;exact key 0 (bD _) he
theorem OkB.with{u:TUnit}(hu:OkB u){q:PId}{f:TUnit->TUnit}
  (hf:∀v C,v∈bB u->bw v=q->(dx u).Perm (C++dx v)->(C++dx (f v)).Nodup/\(C++dx (f v)).length<=1024/\∀x,x∈bB (f v)->x.head.length<=300/\x.words.length<=300):OkB (dZ q f u):=by
 cases hq:cK q u with
 |false=>grind[Ij]
 |true=>
  obtain⟨v,C,h1,h2,h3,h4⟩:=si u hq;obtain⟨h5,h6⟩:=h4 f;obtain⟨a,b,c⟩:=hf v C h1 h2 h3;refine⟨h5.nodup_iff.2 a,by rw[mw,h5.length_eq];omega,fun x hx=>?_⟩;grind[cases OkB]
theorem OkB.keep{u:TUnit}(hu:OkB u){q:PId}{f:TUnit->TUnit}(h1:∀v,bw (f v)=bw v/\(f v).kids=v.kids)(h2:∀v,v∈bB u->(f v).head.length<=300/\(f v).words.length<=300):OkB (dZ q f u):=by
 refine hu.with fun v C hv hq hp=>?_
 have e:dx (f v)=dx v:=by grind[nH]
 rw[e];refine⟨hp.nodup_iff.1 hu.nd,by rw[<-hp.length_eq,<-mw];exact hu.n,fun x hx=>?_⟩;rw[da]at hx;rcases fk.1 hx with rfl|hx
 ·simp_all
 ·rw[(h1 v).2]at hx;obtain⟨k,k1,k2⟩:=mA hx;grind[jV,bM,cases OkB]
theorem Ti{v x y:TUnit}{i:Nat}(h:y∈bB (dD i x v)):y=dD i x v\/y∈bB x\/y∈bB v:=by
 rw[da]at h;rcases fk.1 h with rfl|h
 ·simp_all
 ·obtain⟨k,k1,k2⟩:=mA h;have k1:k∈v.kids.take i++(x::v.kids.drop i):=k1;rcases lr.1 k1 with q|q
  ·grind[bM]
  ·grind[bM]
theorem OkB.ins{u x:TUnit}(hu:OkB u){q:PId}{i:Nat}(hx:(dx x).Nodup)(hd:∀p,p∈dx x->p∉dx u)(hn:nU u+nU x<=1024)(hw:∀y,y∈bB x->y.head.length<=300/\y.words.length<=300):OkB (dZ q (dD i x) u):=by
 refine hu.with fun v C hv hq hp=>?_
 have h1:(C++dx (dD i x v)).Perm (dx u++dx x):=((List.Perm.append_left C Uc).trans (by grind))
 refine⟨h1.nodup_iff.2 (List.nodup_append.2 ⟨hu.nd,hx,fun a ha b hb e=>hd b hb (e▸ha)⟩),by rw[h1.length_eq,eW,<-mw,<-mw];omega,fun y hy=>?_⟩;rcases Ti hy with rfl|h|h
 ·exact hu.w v hv
 all_goals grind[jV,cases OkB]
theorem KI{v y:TUnit}{i:Nat}(h:y∈bB (gI i v)):y=gI i v\/y∈bB v:=by
 rw[da]at h;rcases fk.1 h with rfl|h
 ·simp_all
 ·obtain⟨k,k1,k2⟩:=mA h;exact .inr (bM (List.mem_of_mem_eraseIdx (show k∈v.kids.eraseIdx i from k1)) k2)
theorem OkB.del{u v:TUnit}(hu:OkB u){i:Nat}(hv:v∈bB u)(hi:i<v.kids.length):OkB (dZ (bw v) (gI i) u)/\(dx u).Perm (dx (dZ (bw v) (gI i) u)++dx (gD v.kids i)):=by
 obtain⟨v',C,h1,h2,h3,h4⟩:=si u (tW hv);obtain rfl:=hu.uni h1 hv h2;obtain⟨h5,h6⟩:=h4 (gI i);have h7:(dx u).Perm (dx (dZ (bw v') (gI i) u)++dx (gD v'.kids i)):=h3.trans ((List.Perm.append_left C (Ud hi)).trans (by grind));have hnd:=h7.nodup_iff.1 hu.nd;refine⟨⟨(List.nodup_append.1 hnd).1,?_,fun x hx=>?_⟩,h7⟩
 ·have:=h7.length_eq;grind[mw,cases OkB]
 ·rcases h6 x hx with h|⟨y,y1,y2,y3,y4,y5⟩
  ·rcases KI h with rfl|h
   ·exact hu.w v' hv
   grind[jV,cases OkB]
  grind[cases OkB]
theorem OB{q:PId}{f:TUnit->TUnit}:∀u:TUnit,cK q u=true->∃v,v∈bB u/\bw v=q/\f v∈bB (dZ q f u):=by
 refine TUnit.ind fun u ih h=>?_
 cases hi:f9 q u with
 |true=>grind[dh,gF,rk]
 | false=>
  rw [kT hi];have key:∀r:List TUnit,(∀k,k∈r->k∈u.kids)->(∃k,k∈r/\cK q k=true)->∃v,v∈dB r/\bw v=q/\f v∈dB (ef q f r):=by
   intro r;induction r with
   |nil=>grind
   | cons k r ihr=>
    intro hs ⟨y,hy,hyq⟩;rw[jM,bP];cases hk:cK q k with
    |true=>grind[bP]
    |false=>
     rcases fk.1 hy with rfl|hy
     ·grind
     ·obtain⟨v,a,b,c⟩:=ihr (fun k hk=>hs k (fQ _ hk)) ⟨y,hy,hyq⟩;grind[bP]
  have hx:=vE h;have hne:ee q u≠u:=fun e=>by grind[gF]
  have hm:ee q u∈dB u.kids:=by grind[da]
  obtain⟨k,k1,k2⟩:=mA hm;obtain⟨v,a,b,c⟩:=key u.kids (fun _ h=>h) ⟨k,k1,Lf k ⟨_,k2,hx.2⟩⟩;grind[da,wM]
theorem QI{u q:TUnit}(hu:OkB u){i:Nat}(hq:q∈bB u)(hi:i<q.kids.length){p t:PId}{w:Int}{anc bs:Bool}(ht:cK t u=true){ok:Bool}
  (he:(n9 p t (bw q) (Int.ofNat i) ok anc bs (dc w u t).1 (dc w u t).2).2=0):
  E5 (dZ (bw q) (gI i) u) (n9 p t (bw q) (Int.ofNat i) ok anc bs (dc w u t).1 (dc w u t).2).1:=by
 obtain⟨hr,_⟩:=hu.del hq hi;obtain⟨v',C,h1,h2,h3,h4⟩:=si u (tW hq);obtain rfl:=hu.uni h1 hq h2;obtain⟨_,h6⟩:=h4 (gI i);have hlen:(gI i v').kids.length=v'.kids.length-1:=List.length_eraseIdx_of_lt hi;have own:∀v,v∈bB (dZ (bw v') (gI i) u)->bw v=bw v'->v.kids.length=v'.kids.length-1:=fun v hv e=>by
  obtain⟨z,z1,z2,z3⟩:=OB (q:=bw v') (f:=gI i) u (tW hq);obtain rfl:=hu.uni z1 hq z2;rw[hr.uni hv z3 (e.trans rfl)];omega
 have oth:∀v,v∈bB (dZ (bw v') (gI i) u)->bw v≠bw v'->∃y,y∈bB u/\bw v=bw y/\v.kids.length=y.kids.length:=fun v hv hne=>by
  rcases h6 v hv with h|⟨y,y1,y2,y3,_⟩
  ·rcases KI h with rfl|h
   ·exact absurd rfl hne
   ·exact⟨v,jV hq h,rfl,rfl⟩
  grind
 have hk:=bf v';have hb:=dT hq;have hn:=hu.n;unfold n9 at he ⊢;cases c1:(aw ok||((aw (bK t p)&&anc)||(bK t p&&aw bs)))with
 |true=>grind
 | false=>
  rw[c1]at he;simp only[cond_false]at he ⊢;cases c2:bK t p with
  |true=>
   refine⟨i,rfl,by omega,fun v hv hid=>?_⟩;grind[gF]
  | false=>
   rw[c2]at he;simp only[cond_false]at he ⊢;have e0:(dc w u t).2=0:=by grind
   obtain⟨n,n1,n2,n3⟩:=Gl hu ht e0;rw[e0,n1];cases c4:bK (dc w u t).1.id (bw v')with
   |false=>
    have hne:(dc w u t).1.id≠bw v':=fun e=>by grind[lz]
    rw[show(ae 0 0&&(false&&aB (Int.ofNat i) (Int.ofNat n)))=false from rfl];refine⟨n,n1,n2,fun v hv hid=>?_⟩;grind[gF]
   | true=>
    have heq:=uG c4;have hn':=n3 v' hq ((gF _ v').2 heq.symm);cases c5:aB (Int.ofNat i) (Int.ofNat n)with
    |true=>
     have c5:=aA c5;simp only[aN]at c5;rw[show(ae 0 0&&(true&&true))=true from rfl];refine⟨n-1,by grind,by omega,fun v hv hid=>?_⟩;grind[gF]
    |false=>
     have c5:=aE c5;simp only[aN]at c5;rw[show(ae 0 0&&(true&&false))=false from rfl];refine⟨n,n1,n2,fun v hv hid=>?_⟩;grind[gF]
def y7(a i:Int)(n k:Nat):List PId:=(List.range' (n+1) k).map fun j=>⟨a,i,Int.ofNat j⟩
mutual
theorem vg(a i:Int):∀(u:TUnit)(n w:Nat),dx (cP a i u n w)=y7 a i n (nU u)
 |⟨a',i',n',k,l,h,ws,ks⟩,n,w=>by
  rw[nH,cP,nU];show _::iE (fw a i ks (n+1) _)=_
  rw[y6 a i ks (n+1)];unfold y7;rw[Nat.add_comm 1 (eJ ks),BP,eu];rfl
theorem y6(a i:Int):∀(l:List TUnit)(n w:Nat),iE (fw a i l n w)=y7 a i n (eJ l)
 |[],n,w=>by rw[fw,eJ,rA];rfl
 |k::r,n,w=>by
  rw[fw,eJ,gc,vg a i k n w,y6 a i r (n+nU k)];unfold y7;rw[<-qQ,show n+nU k+1=n+1+nU k by omega,<-List.range'_append_1]
end
theorem PX(a i:Int)(n k:Nat):(y7 a i n k).Nodup:=by
 unfold y7;exact List.Pairwise.map _ (fun x y hne e=>hne (Int.ofNat.inj (congrArg PId.n e))) List.nodup_range'
mutual
theorem KW(a i:Int)(B:Nat):∀(u:TUnit)(n w:Nat),(∀x,x∈bB u->x.head.length<=B/\x.words.length<=B)->∀x,x∈bB (cP a i u n w)->x.head.length<=B/\x.words.length<=B
 |⟨a',i',n',k,l,h,ws,ks⟩,n,w,hB,x,hx=>by
  rw[cP,bB]at hx;rcases fk.1 hx with rfl|hx
  ·have:=hB _ (by rw[bB];exact e9);exact⟨by show(cp _ _ _ _).length<=B;rw[gU,b8,cQ];exact this.1,by show(cp _ _ _ _).length<=B;rw[gU,b8,cQ];exact this.2⟩
  ·exact Ft a i B ks _ _ (fun y hy=>hB y (by rw[bB];exact fQ _ hy)) x hx
theorem Ft(a i:Int)(B:Nat):∀(l:List TUnit)(n w:Nat),(∀x,x∈dB l->x.head.length<=B/\x.words.length<=B)->∀x,x∈dB (fw a i l n w)->x.head.length<=B/\x.words.length<=B
 |[],n,w,hB,x,hx=>by rw[fw,dB]at hx;cases hx
 |k::r,n,w,hB,x,hx=>by
  rw[fw,dB]at hx;rcases lr.1 hx with hx|hx
  ·exact KW a i B k _ _ (fun y hy=>hB y (by rw[dB];exact FZ _ hy)) x hx
  ·exact Ft a i B r _ _ (fun y hy=>hB y (by rw[dB];exact FQ _ hy)) x hx
end
theorem PQ(a i:Int)(u:TUnit)(n w:Nat):nU (cP a i u n w)=nU u:=by grind[mw,vg,y7]
def Rt(u v:TUnit):Prop:=jC v []=jC u []
variable{q:PId}{f:TUnit->TUnit}{u:TUnit}
theorem KB(h:∀v,jC (f v) []=jC v [])(u:TUnit):Rt u (dZ q f u):=by
 unfold Rt;cases hi:f9 q u with
 |true=>grind[rk]
 |false=>rw[kT hi];rfl
theorem KA(h:iY q u=true):Rt u (dZ q f u):=by
 cases hi:f9 q u with
 |true=>unfold iY at h;rw[rv hi]at h;cases h
 |false=>unfold Rt;rw[kT hi];rfl
end Go.Ev
