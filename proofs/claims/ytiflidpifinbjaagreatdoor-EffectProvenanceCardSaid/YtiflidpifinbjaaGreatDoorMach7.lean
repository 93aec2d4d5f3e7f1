/- An abstract machine for runs of the program, proved sound against the model: part 7. No conditions. -/
import Derived.Test.YtiflidpifinbjaaGreatDoorMach6
import Derived.Laws.Externs
import Derived.Lib.Join
import Derived.Lib.Repeat
namespace Go.Ev
open Go
section
variable{a i:Int}{l r x:laj}{s:bZ}{m:lag}{j n k:Nat}
theorem tE(h1:l.drop j=x)(h2:x=s::r)(h3:s::r=l):1=[(⟨s,a,i,.ofNat (n+j)⟩:PWord)].length/\0<[(⟨s,a,i,.ofNat (n+j)⟩:PWord)].length/\[(⟨s,a,i,.ofNat (n+j)⟩:PWord)]++c9 a i r (n+[(⟨s,a,i,.ofNat (n+j)⟩:PWord)].length)=c9 a i l n/\[(⟨s,a,i,.ofNat (n+j)⟩:PWord)].length+r.length=l.length:=by
 have e:=congrArg List.length (h1.trans h2);have e2:=congrArg List.length h3;simp only[zw,dw]at e e2;have:j=0:=by omega
 subst this;refine⟨rfl,Nat.one_pos,?_,by grind⟩;rw[<-h3,c9];rfl
theorem wo(h1:l.drop j=x)(h2:x=s::r)(h:k=m.length/\0<m.length/\m++c9 a i (s::r) (n+m.length)=c9 a i l n/\m.length+(s::r).length=l.length):
  k+1=(m++[(⟨s,a,i,.ofNat (n+j)⟩:PWord)]).length/\0<(m++[(⟨s,a,i,.ofNat (n+j)⟩:PWord)]).length/\(m++[(⟨s,a,i,.ofNat (n+j)⟩:PWord)])++c9 a i r (n+(m++[(⟨s,a,i,.ofNat (n+j)⟩:PWord)]).length)=c9 a i l n/\(m++[(⟨s,a,i,.ofNat (n+j)⟩:PWord)]).length+r.length=l.length:=by
 have e:=congrArg List.length (h1.trans h2);obtain⟨q1,q2,q3,q4⟩:=h;simp only[zw,dw]at e q4;have:j=m.length:=by omega
 subst this;simp only[eA,dw,hJ];refine⟨by omega,by omega,?_,by omega⟩;rw[<-q3,c9,iQ];rfl
end
theorem iK(l:lag):(cK l).length=l.length:=cw ..
structure StampI(a i:Int)(ks:lad)(n0 w0:Nat)(k n w:Nat)(m:lad):Prop where
 len:m.length=k
 le:k<=ks.length
 all:m++ft a i (ks.drop k) n w=ft a i ks n0 w0
 num:n+eB (ks.drop k)=n0+eB ks
 wd:w+(lJ (ks.drop k)).length=w0+(lJ ks).length
theorem StampI.start(a i:Int)(ks:lad)(n0 w0:Nat):StampI a i ks n0 w0 0 n0 w0 []:=⟨rfl,b6 _,rfl,rfl,rfl⟩
theorem StampI.step{a i:Int}{ks:lad}{n0 w0 k n w:Nat}{m:lad}(h:StampI a i ks n0 w0 k n w m)(hk:k<ks.length):
  StampI a i ks n0 w0 (k+1) (n+nU (gD ks k)) (w+(nL (gD ks k)).length) (m++[cP a i (gD ks k) n w]):=by
 have e:=zJ hk;obtain⟨h1,h2,h3,h4,h5⟩:=h;rw[e,Et]at h3;rw[e,bD]at h4;rw[e,uY,eA]at h5;exact⟨by simp_all,hk,by simp_all,by omega,by omega⟩
theorem StampI.done{a i:Int}{ks:lad}{n0 w0 k n w:Nat}{m:lad}(h:StampI a i ks n0 w0 k n w m)(hk:¬k<ks.length):m=ft a i ks n0 w0/\n=n0+eB ks/\w=w0+(lJ ks).length:=by grind[Gr,mr,Ee,cases StampI]
theorem Y7{α:Type}[Inhabited α]{m r:List α}{k:Nat}(h:m.length=k):gD (m++r) k=gD r 0:=by grind[gD]
theorem WJ{α:Type}[Inhabited α]{l:List α}{k:Nat}:gD (l.drop k) 0=gD l k:=by simp_all[gD]
theorem UF{α:Type}{m r:List α}{k:Nat}{x y:α}(h:m.length=k):(m++x::r).set k y=(m++[y])++r:=by simp_all
def gp(a i:Int)(ks:lad)(n0 w0 k n w:Nat)(L:lad):Prop:=∃m,L=m++ks.drop k/\StampI a i ks n0 w0 k n w m
section
variable{a i:Int}{ks L:lad}{n0 w0 k n w:Nat}
theorem gp.start(a i:Int)(ks:lad)(n0 w0:Nat):gp a i ks n0 w0 0 n0 w0 ks:=⟨[],rfl,StampI.start ..⟩
theorem gp.len(h:gp a i ks n0 w0 k n w L):L.length=ks.length:=by
 obtain⟨m,rfl,hI⟩:=h;grind[cases StampI]
theorem gp.at_(h:gp a i ks n0 w0 k n w L):gD L k=gD ks k:=by
 obtain⟨m,rfl,hI⟩:=h;rw[Y7 hI.len,WJ]
theorem gp.step(h:gp a i ks n0 w0 k n w L)(hk:k<ks.length):gp a i ks n0 w0 (k+1) (n+nU (gD L k)) (w+(nL (gD L k)).length) (L.set k (cP a i (gD L k) n w)):=by
 rw[h.at_];obtain⟨m,rfl,hI⟩:=h;exact⟨m++[cP a i (gD ks k) n w],by rw[zJ hk,UF hI.len],hI.step hk⟩
theorem gp.num(h:gp a i ks n0 w0 k n w L):n+eB (ks.drop k)=n0+eB ks/\w+(lJ (ks.drop k)).length=w0+(lJ ks).length:=by
 obtain⟨m,rfl,hI⟩:=h;grind[cases StampI]
theorem gp.done(h:gp a i ks n0 w0 k n w L)(hk:¬k<ks.length):L=ft a i ks n0 w0/\n=n0+eB ks/\w=w0+(lJ ks).length:=by
 obtain⟨m,rfl,hI⟩:=h;rw[CE (by omega),eu];exact hI.done hk
theorem gp.room(h:gp a i ks n0 w0 k n w L)(hk:k<ks.length):n+nU (gD L k)<=n0+eB ks/\w+(nL (gD L k)).length<=w0+(lJ ks).length:=by
 have h1:=h.num;rw[h.at_];grind[zJ,bD,uY]
end
section
variable{α:Type}
structure TotB(lt:α->α->Bool):Prop where
 trans:∀x y z,lt y x=false->lt z y=false->lt z x=false
 asym:∀x y,lt x y=true->lt y x=false
variable{lt:α->α->Bool}
theorem TotB.down(T:TotB lt){x y z:α}(h1:lt z y=false)(h2:lt z x=true):lt y x=true:=by
 cases h:lt y x with
 |true=>rfl
 |false=>grind[cases TotB]
theorem TotB.up(T:TotB lt){x y z:α}(h1:lt x y=true)(h2:lt z y=false):lt x z=true:=by
 cases h:lt x z with
 |true=>rfl
 |false=>grind[cases TotB]
end
section
variable{α:Type}[Inhabited α]{lt:α->α->Bool}{l x y z w:List α}{a b m n i j k s e p d:Nat}
theorem wI(h:l.length<=i):gD l i=default:=by grind[gD]
theorem Y6{v:α}(h:i<l.length):gD (l.set i v) k=if k=i then v else gD l k:=by
 unfold gD;grind
theorem rN(hi:i<l.length)(hj:j<l.length):((l.set i (gD l j)).set j (gD l i)).Perm l:=by grind[gD,List.set_set_perm]
theorem yH(hi:i<l.length)(hj:j<l.length)(q:Nat):gD ((l.set i (gD l j)).set j (gD l i)) q=if q=j then gD l i else if q=i then gD l j else gD l q:=by grind[Y6]
def dH(lt:α->α->Bool)(l:List α)(a b:Nat):Prop:=∀i j,a<=i->i<j->j<b->lt (gD l j) (gD l i)=false
structure SSeg(lt:α->α->Bool)(l x:List α)(a b:Nat):Prop where
 perm:x.Perm l
 out:∀i,i<a\/b<=i->gD x i=gD l i
 src:∀i,a<=i->i<b->∃j,a<=j/\j<b/\gD x i=gD l j
 srt:dH lt x a b
theorem SSeg.len(h:SSeg lt l x a b):x.length=l.length:=h.perm.length_eq
theorem mP(h:dH lt l a b):SSeg lt l l a b:=⟨.refl _,λ_ _=>rfl,λi h1 h2=>⟨i,h1,h2,rfl⟩,h⟩
theorem SSeg.cast{p q:Nat}(h:SSeg lt l x p q)(hp:p=a)(hq:q=b):SSeg lt l x a b:=by simp_all
theorem dH.nil(h:b<=a+1):dH lt l a b:=λi j _ _ _=>by omega
theorem dH.sub(h:dH lt l a b)(h1:a<=i)(h2:j<=b):dH lt l i j:=λp q e1 e2 e3=>h p q (by omega) e2 (by omega)
theorem dH.le(T:TotB lt)(h:dH lt l a b)(h1:a<=i)(h2:i<=j)(h3:j<b):lt (gD l j) (gD l i)=false:=by
 rcases fg i j with q|q
 ·exact h i j h1 q h3
 grind[cases TotB]
structure InsI(lt:α->α->Bool)(l x:List α)(a i j:Nat):Prop where
 perm:x.Perm l
 out:∀q,q<a\/i+1<=q->gD x q=gD l q
 src:∀q,a<=q->q<i+1->∃p,a<=p/\p<i+1/\gD x q=gD l p
 mid:∀p q,a<=p->p<q->q<=i->q≠j->lt (gD x q) (gD x p)=false
theorem InsI.start(h:SSeg lt l x a (min i b))(h1:i<b):InsI lt l x a i i:=by
 rw[show min i b=i by omega]at h;refine⟨h.perm,λq hq=>h.out q (by omega),λq h1 h2=>?_,λp q h1 h2 h3 h4=>h.srt p q h1 h2 (by omega)⟩;grind[cases SSeg]
theorem InsI.step(T:TotB lt)(h:InsI lt l x a i j)(hi:i<l.length)(h1:a<j)(h2:j<=i)(hk:k+1=j)(hl:lt (gD x j) (gD x k)=true):InsI lt l ((x.set j (gD x k)).set k (gD x j)) a i k:=by
 have hx:x.length=l.length:=h.perm.length_eq;have hj:j<x.length:=by omega
 have hkx:k<x.length:=by omega
 have g:=yH hj hkx;refine⟨(rN hj hkx).trans h.perm,λq hq=>?_,λq q1 q2=>?_,λp q h3 h4 h5 h6=>?_⟩
 ·rw[g,if_neg (by omega),if_neg (by omega)];exact h.out q hq
 ·rw[g];split
  ·grind[cases InsI]
  ·split
   ·grind[cases InsI]
   ·exact h.src q q1 q2
 ·rw[g,g];rw[if_neg (show ¬q=k by omega)];by_cases c1:q=j
  ·rw[if_pos c1];by_cases c2:p=k
   ·rw[if_pos c2];exact T.asym _ _ hl
   ·grind[cases InsI]
  ·rw[if_neg c1];by_cases c2:p=k
   ·grind[cases InsI]
   ·rw[if_neg c2];by_cases c3:p=j
    ·grind[cases InsI]
    ·rw[if_neg c3];exact h.mid p q h3 h4 h5 c1
theorem InsI.stop(T:TotB lt)(h:InsI lt l x a i j)(ha:a<=j)(h2:j<=i)(hb:i<b)(hs:s=i+1)(hl:j=a\/∃k,k+1=j/\lt (gD x j) (gD x k)=false):SSeg lt l x a (min s b):=by
 rw[show min s b=i+1 by omega];refine⟨h.perm,h.out,h.src,λp q h3 h4 h5=>?_⟩;grind[cases TotB,cases InsI]
theorem Pq(hab:a<=b):SSeg lt l l a (min (a+1) b):=mP (dH.nil (by omega))
theorem SV(h:SSeg lt l x a (min i b))(hi:b<=i):SSeg lt l x a b:=by simp_all
def sw(a b m i:Nat):Nat:=if a<=i/\i<a+m then i-a+b else if b<=i/\i<b+m then i-b+a else i
structure SwP(l x:List α)(a b m:Nat):Prop where
 perm:x.Perm l
 at_:∀i,i<l.length->gD x i=gD l (sw a b m i)
theorem SwP.len(h:SwP l x a b m):x.length=l.length:=h.perm.length_eq
theorem SwP.start:SwP l l a b 0:=⟨.refl _,λi _=>by simp_all[sw,if_neg]⟩
theorem SwP.step(h:SwP l x a b k)(hk:k<m)(ha:a+m<=b)(hb:b+m<=l.length)(hi:i=a+k)(hj:j=b+k)(hs:s=k+1):SwP l ((x.set i (gD x j)).set j (gD x i)) a b s:=by
 subst hi hj hs;have hx:x.length=l.length:=h.perm.length_eq;have h1:a+k<x.length:=by omega
 have h2:b+k<x.length:=by omega
 refine⟨(rN h1 h2).trans h.perm,λq hq=>?_⟩;rw[yH h1 h2];by_cases c1:q=b+k
 ·rw[if_pos c1,h.at_ _ (by omega)];congr 1;unfold sw;grind
 ·rw[if_neg c1];by_cases c2:q=a+k
  ·rw[if_pos c2,h.at_ _ (by omega)];congr 1;unfold sw;grind
  ·rw[if_neg c2,h.at_ _ (by omega)];congr 1;unfold sw;grind
theorem SwP.done(h:SwP l x a b k)(hk:k=m):SwP l x a b m:=hk▸h
def ro(a m b i:Nat):Nat:=if a<=i/\i<a+(b-m)then i-a+m else if a+(b-m)<=i/\i<b then i-(b-m)else i
structure RoP(l x:List α)(a m b:Nat):Prop where
 perm:x.Perm l
 at_:∀q,q<l.length->gD x q=gD l (ro a m b q)
theorem RoP.len(h:RoP l x a m b):x.length=l.length:=h.perm.length_eq
theorem RoP.cast{p q r:Nat}(h:RoP l x p q r)(hp:p=a)(hq:q=m)(hr:r=b):RoP l x a m b:=by simp_all
structure RoI(l x:List α)(a m b i j:Nat):Prop where
 perm:x.Perm l
 i0:0<i
 j0:0<j
 im:i<=m
 jn:m+j<=l.length
 at_:∀q,q<l.length->gD x (ro (m-i) m (m+j) q)=gD l (ro a m b q)
theorem RoI.len(h:RoI l x a m b i j):x.length=l.length:=h.perm.length_eq
theorem RoI.start(ha:a<m)(hm:m<b)(hb:b<=l.length)(hi:i=m-a)(hj:j=b-m):RoI l l a m b i j:=by
 subst hi hj;refine⟨.refl _,by omega,by omega,by omega,by omega,λq _=>?_⟩;grind
theorem Xt(ham:a<=m)(hmb:m<=b)(hb:b<=n)(hi:i<n):ro a m b i<n:=by grind[ro]
theorem RoI.left{p q r:Nat}(h:RoI l x a m b i j)(hs:SwP x y p q r)(hp:p=m-i)(hq:q=m)(hr:r=j)(hij:j<i)(hk:k=i-j):RoI l y a m b k j:=by
 subst hk;subst hp;have hq:=hq.symm;subst hq;have hr:=hr.symm;subst hr;have hi:=h.im;have hj:=h.jn;have h0:=h.j0;refine⟨hs.perm.trans h.perm,by omega,h0,by omega,hj,λq hq=>?_⟩;rw[hs.at_ _ (by rw[h.len];simp_all[Xt]),<-h.at_ q hq];congr 1;unfold sw ro;grind
theorem RoI.right{p q r:Nat}(h:RoI l x a m b i j)(hs:SwP x y p q r)(hp:p=m-i)(hq:q=m+j-i)(hr:r=i)(hij:i<j)(hk:k=j-i):RoI l y a m b i k:=by
 subst hk;subst hp;have hq:=hq.symm;subst hq;have hr:=hr.symm;subst hr;have hi:=h.im;have hj:=h.jn;have h0:=h.i0;refine⟨hs.perm.trans h.perm,h0,by omega,hi,by omega,λq hq=>?_⟩;rw[hs.at_ _ (by rw[h.len];exact Xt (by omega) (by omega) (by omega) hq),<-h.at_ q hq];congr 1;unfold sw ro;by_cases c1:m-i<=q/\q<m-i+(m+(j-i)-m)
 ·grind
 ·rw[if_neg c1];by_cases c2:m-i+(m+(j-i)-m)<=q/\q<m+(j-i)
  ·grind
  ·rw[if_neg c2];grind
theorem RoI.stop{p q r:Nat}(h:RoI l x a m b i j)(hs:SwP x y p q r)(hp:p=m-i)(hq:q=m)(hr:r=i)(hij:i=j):RoP l y a m b:=by
 subst hij;subst hp;have hq:=hq.symm;subst hq;have hr:=hr.symm;subst hr;have hi:=h.im;have hj:=h.jn;refine⟨hs.perm.trans h.perm,λq hq=>?_⟩;rw[hs.at_ _ (by rw[h.len];omega),<-h.at_ q hq];congr 1;unfold sw ro;grind
theorem RoP.none(h:m<=a\/b<=m)(ham:a<=m)(hmb:m<=b):RoP l l a m b:=⟨.refl _,λq _=>by
 congr 1;unfold ro;grind⟩
structure FstI(lt:α->α->Bool)(l:List α)(a m b i j:Nat):Prop where
 mi:m<=i
 ij:i<=j
 jb:j<=b
 lo:∀q,m<=q->q<i->lt (gD l q) (gD l a)=true
 hi:∀q,j<=q->q<b->lt (gD l q) (gD l a)=false
theorem FstI.start(h:m<=b):FstI lt l a m b m b:=⟨by omega,by omega,by omega,λq _ _=>by omega,λq _ _=>by omega⟩
theorem FstI.more(T:TotB lt)(h:FstI lt l a m b i j)(hs:dH lt l m b)(hl:lt (gD l k) (gD l a)=true)(h1:i<=k)(h2:k<j)(hk:e=k+1):FstI lt l a m b e j:=by
 subst hk;have:=h.mi;have:=h.jb;refine⟨by omega,by omega,h.jb,λq q1 q2=>?_,h.hi⟩;exact T.down (hs.le T q1 (by omega) (by omega)) hl
theorem FstI.less(T:TotB lt)(h:FstI lt l a m b i j)(hs:dH lt l m b)(hl:lt (gD l k) (gD l a)=false)(h1:i<=k)(h2:k<j):FstI lt l a m b i k:=by
 have:=h.mi;have:=h.jb;refine⟨h.mi,by omega,by omega,h.lo,λq q1 q2=>?_⟩;exact T.trans _ _ _ hl (hs.le T (by omega) q1 q2)
structure UpI(l x:List α)(a k:Nat):Prop where
 perm:x.Perm l
 at_:∀q,q<l.length->gD x q=gD l (if a<=q/\q<k then q+1 else if q=k then a else q)
theorem UpI.len(h:UpI l x a k):x.length=l.length:=h.perm.length_eq
theorem UpI.start:UpI l l a a:=⟨.refl _,λq _=>by grind⟩
theorem UpI.step(h:UpI l x a k)(hk:a<=k)(hn:k+1<l.length)(he:e=k+1):UpI l ((x.set k (gD x e)).set e (gD x k)) a e:=by
 subst he;have hx:=h.len;have h1:k<x.length:=by omega
 have h2:k+1<x.length:=by omega
 refine⟨(rN h1 h2).trans h.perm,λq hq=>?_⟩;rw[yH h1 h2];by_cases c1:q=k+1
 ·rw[if_pos c1,h.at_ _ (by omega),if_neg (by omega),if_pos rfl,if_neg (by omega),if_pos c1]
 ·rw[if_neg c1];by_cases c2:q=k
  ·rw[if_pos c2,h.at_ _ (by omega),if_neg (by omega),if_neg (by omega),if_pos (by omega),c2]
  ·rw[if_neg c2,h.at_ _ hq];grind
theorem UpI.stop(T:TotB lt)(h:UpI l x a k)(hf:FstI lt l a m b i j)(hs:dH lt l m b)(hma:m=a+1)(hij:j<=i)(hk:k+1=i)(hb:b<=l.length):SSeg lt l x a b:=by
 have q1:=hf.mi;have q2:=hf.ij;have q3:=hf.jb;refine⟨h.perm,λq hq=>?_,λq h1 h2=>?_,λp q h1 h2 h3=>?_⟩
 ·rcases fg q l.length with c|c
  ·rw[h.at_ q c,if_neg (by omega),if_neg (by omega)]
  ·rw[wI (by rw[h.len];omega),wI c]
 ·rw[h.at_ q (by omega)];grind
 ·rw[h.at_ p (by omega),h.at_ q (by omega)];by_cases c1:p<k
  ·rw[if_pos (show a<=p/\p<k by omega)];by_cases c2:q<k
   ·rw[if_pos (show a<=q/\q<k by omega)];exact hs _ _ (by omega) (by omega) (by omega)
   ·rw[if_neg (show ¬(a<=q/\q<k) by omega)];by_cases c3:q=k
    ·grind[cases TotB,cases FstI]
    ·grind[cases TotB,cases FstI]
  ·rw[if_neg (show ¬(a<=p/\p<k) by omega),if_neg (show ¬(a<=q/\q<k) by omega),if_neg (show ¬q=k by omega)];by_cases c3:p=k
   ·rw[if_pos c3];exact hf.hi _ (by omega) (by omega)
   ·rw[if_neg c3];exact hs _ _ (by omega) (by omega) (by omega)
structure LstI(lt:α->α->Bool)(l:List α)(a m i j:Nat):Prop where
 ai:a<=i
 ij:i<=j
 jm:j<=m
 lo:∀q,a<=q->q<i->lt (gD l m) (gD l q)=false
 hi:∀q,j<=q->q<m->lt (gD l m) (gD l q)=true
theorem LstI.start(h:a<=m):LstI lt l a m a m:=⟨by omega,by omega,by omega,λq _ _=>by omega,λq _ _=>by omega⟩
theorem LstI.more(T:TotB lt)(h:LstI lt l a m i j)(hs:dH lt l a m)(hl:lt (gD l m) (gD l k)=false)(h1:i<=k)(h2:k<j)(hk:e=k+1):LstI lt l a m e j:=by
 subst hk;have:=h.ai;have:=h.jm;refine⟨by omega,by omega,h.jm,λq q1 q2=>?_,h.hi⟩;exact T.trans _ _ _ (hs.le T q1 (by omega) (by omega)) hl
theorem LstI.less(T:TotB lt)(h:LstI lt l a m i j)(hs:dH lt l a m)(hl:lt (gD l m) (gD l k)=true)(h1:i<=k)(h2:k<j):LstI lt l a m i k:=by
 have:=h.ai;have:=h.jm;refine⟨h.ai,by omega,by omega,h.lo,λq q1 q2=>?_⟩;exact T.up hl (hs.le T (by omega) q1 q2)
structure DnI(l x:List α)(m k:Nat):Prop where
 perm:x.Perm l
 at_:∀q,q<l.length->gD x q=gD l (if k<q/\q<=m then q-1 else if q=k then m else q)
theorem DnI.len(h:DnI l x m k):x.length=l.length:=h.perm.length_eq
theorem DnI.start:DnI l l m m:=⟨.refl _,λq _=>by grind⟩
theorem DnI.step(h:DnI l x m k)(hk:k<=m)(hn:m<l.length)(he:e+1=k):DnI l ((x.set k (gD x e)).set e (gD x k)) m e:=by
 subst he;have hx:=h.len;have h1:e+1<x.length:=by omega
 have h2:e<x.length:=by omega
 refine⟨(rN h1 h2).trans h.perm,λq hq=>?_⟩;rw[yH h1 h2];by_cases c1:q=e
 ·rw[if_pos c1,h.at_ _ (by omega),if_neg (by omega),if_pos rfl,if_neg (by omega),if_pos c1]
 ·rw[if_neg c1];by_cases c2:q=e+1
  ·rw[if_pos c2,h.at_ _ (by omega),if_neg (by omega),if_neg (by omega),if_pos (by omega)];simp_all
  ·rw[if_neg c2,h.at_ _ hq];grind
theorem DnI.stop(T:TotB lt)(h:DnI l x m k)(hf:LstI lt l a m i j)(hs:dH lt l a m)(hmb:b=m+1)(hij:j<=i)(hk:k=i)(hb:b<=l.length):SSeg lt l x a b:=by
 have q1:=hf.ai;have q2:=hf.ij;have q3:=hf.jm;refine⟨h.perm,λq hq=>?_,λq h1 h2=>?_,λp q h1 h2 h3=>?_⟩
 ·rcases fg q l.length with c|c
  ·rw[h.at_ q c,if_neg (by omega),if_neg (by omega)]
  ·rw[wI (by rw[h.len];omega),wI c]
 ·rw[h.at_ q (by omega)];grind
 ·rw[h.at_ p (by omega),h.at_ q (by omega)];by_cases c1:q<=k
  ·rw[if_neg (show ¬(k<q/\q<=m) by omega),if_neg (show ¬(k<p/\p<=m) by omega),if_neg (show ¬p=k by omega)];by_cases c3:q=k
   ·rw[if_pos c3];exact hf.lo _ h1 (by omega)
   ·rw[if_neg c3];exact hs _ _ h1 h2 (by omega)
  ·rw[if_pos (show k<q/\q<=m by omega)];by_cases c2:k<p
   ·rw[if_pos (show k<p/\p<=m by omega)];exact hs _ _ (by omega) (by omega) (by omega)
   ·rw[if_neg (show ¬(k<p/\p<=m) by omega)];by_cases c3:p=k
    ·grind[cases TotB,cases LstI]
    ·rw[if_neg c3];exact hs _ _ h1 (by omega) (by omega)
structure CutI(lt:α->α->Bool)(l:List α)(lo hi p i j:Nat):Prop where
 li:lo<=i
 ij:i<=j
 jh:j<=hi
 low:∀c,lo<=c->c<i->lt (gD l (p-c)) (gD l c)=false
 high:∀c,j<=c->c<hi->lt (gD l (p-c)) (gD l c)=true
variable{lo hi:Nat}
theorem CutI.start(h:lo<=hi):CutI lt l lo hi p lo hi:=⟨by omega,by omega,by omega,λq _ _=>by omega,λq _ _=>by omega⟩
theorem CutI.more(T:TotB lt)(h:CutI lt l lo hi p i j)(hA:dH lt l a m)(hB:dH lt l m b)(hl:lt (gD l s) (gD l k)=false)(b1:a<=lo)(b2:hi<=m)(b3:m+hi<=p+1)(b4:p<b+lo)(h1:i<=k)(h2:k<j)(hk:e=k+1)(hs:s=p-k):CutI lt l lo hi p e j:=by
 subst hk hs;have:=h.li;have:=h.jh;refine⟨by omega,by omega,h.jh,λc c1 c2=>?_,h.high⟩;exact T.trans _ _ _ (hA.le T (i:=c) (j:=k) (by omega) (by omega) (by omega)) (T.trans _ _ _ hl (hB.le T (i:=p-k) (j:=p-c) (by omega) (by omega) (by omega)))
theorem CutI.less(T:TotB lt)(h:CutI lt l lo hi p i j)(hA:dH lt l a m)(hB:dH lt l m b)(hl:lt (gD l s) (gD l k)=true)(b1:a<=lo)(b2:hi<=m)(b3:m+hi<=p+1)(b4:p<b+lo)(h1:i<=k)(h2:k<j)(hs:s=p-k):CutI lt l lo hi p i k:=by
 subst hs;have:=h.li;have:=h.jh;refine⟨h.li,by omega,by omega,h.low,λc c1 c2=>?_⟩;exact T.down (hB.le T (i:=p-c) (j:=p-k) (by omega) (by omega) (by omega)) (T.up hl (hA.le T (i:=k) (j:=c) (by omega) (by omega) (by omega)))
theorem PD(T:TotB lt)(h:CutI lt l lo hi p s s)(hA:dH lt l a m)(hB:dH lt l m b)(hr:RoP l y s m e)(hab:b<=l.length)
  (d1:d+m=p+1)(e1:e+s=p+1)(f1:a<=s)(f2:s<=m)(f3:m<=e)(f4:e<=b)(f5:lo<s\/s=a\/e=b)(f6:s<hi\/s=m\/e=m):
  ∀i j,a<=i->i<d->d<=j->j<b->lt (gD y j) (gD y i)=false:=by
 intro i j h1 h2 h3 h4;rw[hr.at_ i (by omega),hr.at_ j (by omega)];unfold ro;by_cases c1:i<s
 ·rw[if_neg (show ¬(s<=i/\i<s+(e-m)) by omega),if_neg (show ¬(s+(e-m)<=i/\i<e) by omega)];rw[if_neg (show ¬(s<=j/\j<s+(e-m)) by omega)];by_cases c2:j<e
  ·rw[if_pos (show s+(e-m)<=j/\j<e by omega)];exact hA.le T h1 (by omega) (by omega)
  ·rw[if_neg (show ¬(s+(e-m)<=j/\j<e) by omega)];have hc:=h.low (s-1) (by omega) (by omega);rw[show p-(s-1)=e by omega]at hc;exact T.trans _ _ _ (hA.le T (i:=i) (j:=s-1) h1 (by omega) (by omega)) (T.trans _ _ _ hc (hB.le T (i:=e) (j:=j) (by omega) (by omega) h4))
 ·rw[if_pos (show s<=i/\i<s+(e-m) by omega),if_neg (show ¬(s<=j/\j<s+(e-m)) by omega)];by_cases c2:j<e
  ·rw[if_pos (show s+(e-m)<=j/\j<e by omega)];have hc:=h.high s (by omega) (by omega);rw[show p-s=e-1 by omega]at hc;refine T.asym _ _ (T.up (T.down (hB.le T (i:=i-s+m) (j:=e-1) (by omega) (by omega) (by omega)) hc) (hA.le T (i:=s) (j:=j-(e-m)) (by omega) (by omega) (by omega)))
  ·rw[if_neg (show ¬(s+(e-m)<=j/\j<e) by omega)];exact hB.le T (by omega) (by omega) h4
theorem RoP.left(hr:RoP l y s m e)(hA:dH lt l a m)(f2:s<=m)(f3:m<=e)(f4:e<=l.length):dH lt y a s:=λi j h1 h2 h3=>by
 rw[hr.at_ i (by omega),hr.at_ j (by omega)];unfold ro;rw[if_neg (by omega),if_neg (by omega),if_neg (by omega),if_neg (by omega)];exact hA i j h1 h2 (by omega)
theorem RoP.mid1(hr:RoP l y s m e)(hB:dH lt l m b)(f3:m<=e)(f4:e<=b)(f2:s<=m)(hb:b<=l.length)(hd:d=s+(e-m)):dH lt y s d:=λi j h1 h2 h3=>by
 rw[hr.at_ i (by omega),hr.at_ j (by omega)];unfold ro;rw[if_pos (by omega),if_pos (by omega)];exact hB _ _ (by omega) (by omega) (by omega)
theorem RoP.mid2(hr:RoP l y s m e)(hA:dH lt l a m)(f1:a<=s)(f2:s<=m)(f3:m<=e)(f4:e<=l.length)(hd:d=s+(e-m)):dH lt y d e:=λi j h1 h2 h3=>by
 rw[hr.at_ i (by omega),hr.at_ j (by omega)];unfold ro;rw[if_neg (by omega),if_pos (by omega),if_neg (by omega),if_pos (by omega)];exact hA _ _ (by omega) (by omega) (by omega)
theorem RoP.right(hr:RoP l y s m e)(hB:dH lt l m b)(f2:s<=m)(f3:m<=e)(hb:b<=l.length):dH lt y e b:=λi j h1 h2 h3=>by
 rw[hr.at_ i (by omega),hr.at_ j (by omega)];unfold ro;rw[if_neg (by omega),if_neg (by omega),if_neg (by omega),if_neg (by omega)];exact hB i j (by omega) h2 h3
theorem RoP.lower(hr:RoP l y s m e)(hA:dH lt l a m)(hB:dH lt l m b)(hd:d+m=s+e)(h:s<=a\/d<=s)(f1:a<=s)(f2:s<=m)(f3:m<=e)(f4:e<=b)(hb:b<=l.length):dH lt y a d:=by
 rcases h with h|h
 ·have:=hr.mid1 hB f3 f4 f2 hb (d:=d) (by omega);grind
 ·have:=hr.left hA f2 f3 (by omega);grind
theorem RoP.upper(hr:RoP l y s m e)(hA:dH lt l a m)(hB:dH lt l m b)(hd:d+m=s+e)(h:b<=e\/e<=d)(f1:a<=s)(f2:s<=m)(f3:m<=e)(f4:e<=b)(hb:b<=l.length):dH lt y d b:=by
 rcases h with h|h
 ·have:=hr.mid2 hA f1 f2 f3 (by omega) (d:=d) (by omega);grind
 ·have:=hr.right hB f2 f3 hb;grind
theorem Y3(hr:RoP l y s m e)(hz:SSeg lt y z a d)(hw:SSeg lt z w d b)(had:a<=d)(hdb:d<=b)(hb:b<=l.length)(f1:a<=s)(f2:s<=m)(f3:m<=e)(f4:e<=b)
  (hx:∀i j,a<=i->i<d->d<=j->j<b->lt (gD y j) (gD y i)=false):SSeg lt l w a b:=by
 have hro:∀q,a<=q->q<b->a<=ro s m e q/\ro s m e q<b:=λq h1 h2=>by grind[ro]
 have hy:∀q,q<a\/b<=q->gD y q=gD l q:=λq hq=>by
  rcases fg q l.length with c|c
  ·rw[hr.at_ q c];congr 1;unfold ro;grind
  ·rw[wI (by rw[hr.len];omega),wI c]
 refine⟨hw.perm.trans (hz.perm.trans hr.perm),λq hq=>?_,λq h1 h2=>?_,λi j h1 h2 h3=>?_⟩
 ·grind[cases SSeg]
 ·rcases fg q d with c|c
  ·obtain⟨j,j1,j2,j3⟩:=hz.src q h1 c;have:=hro j j1 (by omega);exact⟨_,this.1,this.2,by rw[hw.out q (.inl c),j3,hr.at_ j (by omega)]⟩
  ·obtain⟨j,j1,j2,j3⟩:=hw.src q c h2;have:=hro j (by omega) j2;exact⟨_,this.1,this.2,by rw[j3,hz.out j (.inr j1),hr.at_ j (by omega)]⟩
 ·rcases fg j d with c|c
  ·rw[hw.out i (.inl (by omega)),hw.out j (.inl c)];exact hz.srt i j h1 h2 c
  ·rcases fg i d with c2|c2
   ·obtain⟨i',i1,i2,i3⟩:=hz.src i h1 c2;obtain⟨j',j1,j2,j3⟩:=hw.src j c h3;rw[hw.out i (.inl c2),i3,j3,hz.out j' (.inr j1)];simp_all
   ·exact hw.srt i j c2 h2 h3
theorem wm(T:TotB lt)(h:CutI lt l lo hi p i s)(hA:dH lt l a m)(hB:dH lt l m b)(hr:RoP l y i m e)(hz:SSeg lt y z a d)(hw:SSeg lt z w d b)(his:s<=i)(hd:d+m=p+1)(he:e+i=p+1)(had:a<=d)(hdb:d<=b)(hb:b<=l.length)(f1:a<=i)(f2:i<=m)(f3:m<=e)(f4:e<=b)(f5:lo<i\/i=a\/e=b)(f6:i<hi\/i=m\/e=m):SSeg lt l w a b:=by
 have:i=s:=Nat.le_antisymm h.ij his;grind[Y3,PD]
theorem SSeg.keep(h:SSeg lt l x a b)(hs:dH lt l i j)(hd:j<=a\/b<=i):dH lt x i j:=λp q h1 h2 h3=>by rw[h.out p (by omega),h.out q (by omega)];exact hs p q h1 h2 h3
def QV(lt:α->α->Bool)(x:List α)(s n:Nat):Prop:=∀c,dH lt x (c*s) (min ((c+1)*s) n)
theorem sy{t c d:Nat}(h:a=d*t):(c+1)*t<=a\/c=d\/a+t<=c*t:=by
 subst h;rcases Nat.lt_trichotomy c d with q|q|q
 ·exact .inl (e9 _ q)
 ·omega
 ·refine .inr (.inr ?_);have:=e9 t q;grind
structure BlkA(lt:α->α->Bool)(l x:List α)(s a:Nat):Prop where
 perm:x.Perm l
 dv:∃c,a=c*s
 ok:∀c,dH lt x (c*s) (min ((c+1)*s) a)
theorem BlkA.len(h:BlkA lt l x s a):x.length=l.length:=h.perm.length_eq
theorem BlkA.start:BlkA lt l l s 0:=⟨.refl _,⟨0,by omega⟩,λc=>dH.nil (by omega)⟩
theorem BlkA.step(h:BlkA lt l x s a)(hy:SSeg lt x y a b)(hb:b=a+s):BlkA lt l y s b:=by
 obtain⟨d,hd⟩:=h.dv;subst hb;refine⟨hy.perm.trans h.perm,⟨d+1,by grind⟩,λc=>?_⟩;rcases sy (c:=c) hd with q|q|q
 ·have:=h.ok c;rw[show min ((c+1)*s) a=(c+1)*s by omega]at this;rw[show min ((c+1)*s) (a+s)=(c+1)*s by omega];exact hy.keep this (.inl q)
 all_goals grind[dH.nil,cases SSeg]
theorem BlkA.last(h:BlkA lt l x s a)(hy:SSeg lt x y a n)(hn:n<a+s)(ha:a<=n):y.Perm l/\QV lt y s n:=by
 obtain⟨d,hd⟩:=h.dv;refine⟨hy.perm.trans h.perm,λc=>?_⟩;rcases sy (c:=c) hd with q|q|q
 ·have:=h.ok c;rw[show min ((c+1)*s) a=(c+1)*s by omega]at this;rw[show min ((c+1)*s) n=(c+1)*s by omega];exact hy.keep this (.inl q)
 all_goals grind[dH.nil,cases SSeg]
structure BlkB(lt:α->α->Bool)(l x:List α)(s a n:Nat):Prop where
 perm:x.Perm l
 dv:∃c,a=c*(2*s)
 ok:∀c,dH lt x (c*(2*s)) (min ((c+1)*(2*s)) a)
 rest:∀c,a<=c*s->dH lt x (c*s) (min ((c+1)*s) n)
theorem BlkB.len(h:BlkB lt l x s a n):x.length=l.length:=h.perm.length_eq
theorem BlkB.start(h:x.Perm l/\QV lt x s n):BlkB lt l x s 0 n:=⟨h.1,⟨0,by omega⟩,λc=>dH.nil (by omega),λc _=>h.2 c⟩
theorem BlkB.pre1(h:BlkB lt l x s a n)(hm:m=a+s)(hn:m<=n):dH lt x a m:=by
 obtain⟨d,hd⟩:=h.dv;have e:a=(d*2)*s:=by grind
 have:=h.rest (d*2) (by omega);grind
theorem BlkB.pre2(h:BlkB lt l x s a n)(hm:m=a+s)(hb:b<=m+s)(hn:b<=n):dH lt x m b:=by
 obtain⟨d,hd⟩:=h.dv;have e:a=(d*2)*s:=by grind
 have e2:m=(d*2+1)*s:=by grind
 have:=h.rest (d*2+1) (by omega);rw[<-e2,qE,<-e2]at this;exact this.sub (ar _) (by omega)
theorem BlkB.step(h:BlkB lt l x s a n)(hy:SSeg lt x y a b)(hb:b=a+2*s):BlkB lt l y s b n:=by
 obtain⟨d,hd⟩:=h.dv;subst hb;refine⟨hy.perm.trans h.perm,⟨d+1,by grind⟩,λc=>?_,λc hc=>hy.keep (h.rest c (by omega)) (.inr hc)⟩;rcases sy (c:=c) hd with q|q|q
 ·have:=h.ok c;rw[show min ((c+1)*(2*s)) a=(c+1)*(2*s) by omega]at this;rw[show min ((c+1)*(2*s)) (a+2*s)=(c+1)*(2*s) by omega];exact hy.keep this (.inl q)
 all_goals grind[dH.nil,cases SSeg]
theorem BlkB.last(h:BlkB lt l x s a n)(hy:SSeg lt x y a n)(hn:n<a+2*s)(ht:d=2*s)(ha:a<=n):y.Perm l/\QV lt y d n:=by
 subst ht;obtain⟨d,hd⟩:=h.dv;refine⟨hy.perm.trans h.perm,λc=>?_⟩;rcases sy (c:=c) hd with q|q|q
 ·have:=h.ok c;rw[show min ((c+1)*(2*s)) a=(c+1)*(2*s) by omega]at this;rw[show min ((c+1)*(2*s)) n=(c+1)*(2*s) by omega];exact hy.keep this (.inl q)
 all_goals grind[dH.nil,cases SSeg]
theorem BlkB.one(h:BlkB lt l x s a n)(hn:n<=a+s):SSeg lt x x a n:=by
 obtain⟨d,hd⟩:=h.dv;have e:a=(d*2)*s:=by grind
 have:=h.rest (d*2) (by omega);simp_all[qE,mP]
theorem QV.all(h:QV lt x s n)(hn:n<=s):dH lt x 0 n:=by
 have:=h 0;simp_all
theorem dH.pair:∀{x:List α},dH lt x 0 x.length->x.Pairwise λu v=>lt v u=false
 |[],_=>.nil
 | u::r,h=>iN.2 ⟨λv hv=>by
   obtain⟨i,hi,rfl⟩:=GW hv;have:=h 0 (i+1) (by omega) (by omega) (by simp_all);have e:gD (u::r) (i+1)=r[i]:=by grind[gD]
   rw[e]at this;exact this,dH.pair λi j _ h2 h3=>h (i+1) (j+1) (by omega) (by omega) (by simp_all)⟩
end
section
variable{α:Type}{lt:α->α->Bool}
theorem Dz:∀{x y:List α},x.Pairwise (λu v=>lt v u=false)->y.Pairwise (λu v=>lt v u=false)->x.Perm y->(∀u v,u∈x->v∈x->lt u v=false->lt v u=false->u=v)->x=y
 |[],y,_,_,hp,_=>hp.nil_eq
 |u::r,[],_,_,hp,_=>by simp_all
 |u::r,v::t,hx,hy,hp,H=>by
  obtain⟨x1,x2⟩:=iN.1 hx;obtain⟨y1,y2⟩:=iN.1 hy;have hv:v∈u::r:=hp.mem_iff.2 (dr ..);have hu:u∈v::t:=hp.mem_iff.1 (dr ..);have e:u=v:=by grind
  subst e;rw[Dz x2 y2 ((List.perm_cons u).1 hp) λa b ha hb=>H a b (di _ ha) (di _ hb)]
def FU(lt:α->α->Bool)(a:α):List α->List α
 |[]=>[a]
 |b::r=>match lt b a with|true=>b::FU lt a r|false=>a::b::r
def QN(lt:α->α->Bool)(l:List α):List α:=l.foldl (λo a=>FU lt a o) []
theorem wF(a:α):∀(l:List α),(FU lt a l).Perm (a::l)
 |[]=>.refl _
 |b::r=>by
  unfold FU;cases lt b a with
  |true=>exact((wF a r).cons b).trans (.swap a b r)
  |false=>simp_all
theorem Dt(T:TotB lt)(a:α):∀{l:List α},l.Pairwise (λu v=>lt v u=false)->(FU lt a l).Pairwise (λu v=>lt v u=false)
 |[],_=>List.pairwise_singleton ..
 | b::r,h=>by
  obtain⟨h1,h2⟩:=iN.1 h;unfold FU;cases q:lt b a with
  |true=>
   refine iN.2 ⟨λv hv=>?_,Dt T a h2⟩;grind[wF,cases TotB]
  |false=>
   refine iN.2 ⟨λv hv=>?_,h⟩;grind[cases TotB]
theorem ug(T:TotB lt):∀(l o:List α),o.Pairwise (λu v=>lt v u=false)->((l.foldl (λo a=>FU lt a o) o).Perm (o++l)/\(l.foldl (λo a=>FU lt a o) o).Pairwise λu v=>lt v u=false)
 |[],o,h=>⟨by simp_all,h⟩
 |a::r,o,h=>by
  obtain⟨h1,h2⟩:=ug T r (FU lt a o) (Dt T a h);refine⟨h1.trans ?_,h2⟩;exact((wF a o).append_right r).trans (List.perm_middle.symm)
theorem zS(T:TotB lt)(l:List α):(QN lt l).Perm l:=(ug T l [] .nil).1
theorem QM(T:TotB lt){l x:List α}(hp:x.Perm l)(hs:x.Pairwise λu v=>lt v u=false)(H:∀u v,u∈l->v∈l->lt u v=false->lt v u=false->u=v):x=QN lt l:=Dz hs (ug T l [] .nil).2 (hp.trans (zS T l).symm) λu v hu hv=>H u v (hp.mem_iff.1 hu) (hp.mem_iff.1 hv)
end
theorem VRel.unren{ρ:Nat->Nat}{n:Nat}{pl pl2:Pl}{M:dN}{v:AV}{x:Value}(h:VRel pl2 M v x)(hp:∀id p,id<n->pl2 id=some p->pl (ρ id)=some p)(ht:v.top<=n):VRel pl M (Ev.ren ρ v) x:=by
 have gt:∀{xs:laa}{i:Nat}{z:AV},(xs.map (Ev.ren ρ))[i]?=some z->∃y,xs[i]?=some y/\z=Ev.ren ρ y:=by grind
 have tp:∀{xs:laa}{i j:Nat}{z y:AV},az xs<=n->xs[i]?=some z->z.cells[j]?=some y->y.top<=n:=by
  intro xs i j x y h1 h2 h3;exact ly (dS.1 h1 x (bC h2)) (bC h3)
 have sc:∀{xs:laa}{sz:Nat},(∀x,x∈xs->x.cells.length=sz/\Sc x)->∀x,x∈xs.map (Ev.ren ρ)->x.cells.length=sz/\Sc x:=by
  intro xs sz h x hx;obtain⟨y,hy,rfl⟩:=iO.1 hx;obtain⟨h1,h2⟩:=h y hy;rw[gq];refine⟨by simp_all,λu hu=>?_⟩;rw[gq]at hu;obtain⟨z,hz,rfl⟩:=iO.1 hu;rw[oC];exact h2 z hz
 have cel:∀{xs:laa}{c:Array Value}{o sz:Nat},az xs<=n->(∀i x j y,xs[i]?=some x->x.cells[j]?=some y->y.top<=n->VRel pl M (Ev.ren ρ y) (c.getD (o+i*sz+j) undef))->
   ∀i x j y,(xs.map (Ev.ren ρ))[i]?=some x->x.cells[j]?=some y->VRel pl M y (c.getD (o+i*sz+j) undef):=by
  intro xs c o sz ht h i x j y h1 h2;obtain⟨x0,e1,rfl⟩:=gt h1;rw[gq]at h2;grind
 induction h with
 |bool b=>exact .bool b
 |int k n=>exact .int k n
 |str s=>exact .str s
 |nilp=>exact .nilp
 |ptr h1 h2 h3=>simp only[AV.top]at ht;exact .ptr (hp _ _ (by omega) h1) h2 h3
 |pptr hm hs hi hc ih=>
  simp only[AV.top]at ht;simp only[Ev.ren,fm];exact .pptr ⟨hm.1,hm.2.1,by simp_all,hm.2.2.2⟩ (sc hs) (by simp_all) (cel ht λi x j y h1 h2 h3=>ih i x j y h1 h2 h3)
 |nils=>exact .nils
 |slice h1 h2 h3 h4 h5=>simp only[AV.top]at ht;exact .slice (hp _ _ (by omega) h1) h2 h3 h4 h5
 |sl0n _ ih=>exact .sl0n (ih (b6 _))
 |sl0s _ ih=>exact .sl0s (ih ht)
 |ps hl ht' hm hs hc ih=>
  simp only[AV.top]at ht;simp only[Ev.ren,fm];have:=VRel.ps (pl:=pl) (xs:=_) (by simpa using hl) (by simpa using ht') (by simp_all) (sc hs) (cel ht λi x j y h1 h2 h3=>ih i x j y h1 h2 h3);simp_all
 |lsn=>exact .lsn
 |lsp h ht0 ih=>
  have:=ih (by grind[AV.top]);simp only[Ev.ren,fk ρ _ ht0]at this;exact .lsp this ht0
 |nilm=>exact .nilm
 |map h1 h2=>simp only[AV.top]at ht;exact .map (hp _ _ (by omega) h1) h2
 |func h1 h2 _ _ ih1 ih2=>
  simp only[AV.top,rU]at ht;simp only[Ev.ren,fm];refine .func (by simp_all) (by simp_all) (λj y hj=>?_) (λj y hj=>?_)
  ·obtain⟨z,e,rfl⟩:=gt hj;exact ih1 j z e (dS.1 ht.1 z (bC e))
  ·obtain⟨z,e,rfl⟩:=gt hj;exact ih2 j z e (dS.1 ht.2 z (bC e))
 |nilf=>exact .nilf
 |iface _ ih=>simp only[AV.top]at ht;exact .iface (ih ht)
 |nili=>exact .nili
 |agg h1 h2 _ ih=>
  simp only[AV.top]at ht;simp only[Ev.ren,fm];refine .agg (by simp_all) (λy hy=>?_) (λj y hj=>?_)
  ·grind[oC]
  ·obtain⟨z,e,rfl⟩:=gt hj;exact ih j z e (dS.1 ht z (bC e))
 |tuple h1 _ ih=>
  simp only[AV.top]at ht;simp only[Ev.ren,fm];refine .tuple (by simp_all) (λj y hj=>?_);obtain⟨z,e,rfl⟩:=gt hj;exact ih j z e (dS.1 ht z (bC e))
def ep0:AObj->Bool
 | .row _ _ e _=>Nat.beq e 0
 | .map _ _=>true
 |_=>false
theorem bm.ep0{pl:Pl}{M:dN}{p:Place}{o:AObj}{x:Option Obj}(h:bm pl M p o x)(he:Ev.ep0 o=true):p.ep=0:=by
 match o,x with
 | .row sz op ep xs,some (.cells c t fr)=>rw[h.1];exact qW he
 | .map es clock,some (.map entries clock')=>exact h.1
theorem Wb{ρ:Nat->Nat}{o:AObj}:ep0 (kn ρ o)=ep0 o:=by cases o<;>rfl
theorem bm.unren{ρ:Nat->Nat}{n:Nat}{pl pl2:Pl}{M:dN}{o:AObj}{p:Place}{x:Option Obj}(h:bm pl2 M p o x)(he:Ev.ep0 o=true)(hp:∀id p,id<n->pl2 id=some p->pl (ρ id)=some p)(ht:o.top<=n):bm pl M p (kn ρ o) x:=by
 match o,x with
 | .row sz op ep xs,some (.cells c t fr)=>
  obtain⟨h1,h2,h3,h4,h5,h6,h7,h8⟩:=h;simp only[AObj.top]at ht;have gt:∀{xs:laa}{i:Nat}{z:AV},(xs.map (Ev.ren ρ))[i]?=some z->∃y,xs[i]?=some y/\z=Ev.ren ρ y:=by grind
  simp only[kn,fm];refine⟨h1,h2,by simp_all,h4,h5,h6,by simp_all,⟨by simpa using h8.fit,λy hy=>?_,λi z j y k1 k2=>?_⟩⟩
  ·obtain⟨z,hz,rfl⟩:=iO.1 hy;obtain⟨q1,q2⟩:=h8.elem z hz;rw[gq];refine⟨by simp_all,λu hu=>?_⟩;rw[gq]at hu;obtain⟨z,hz,rfl⟩:=iO.1 hu;rw[oC];exact q2 z hz
  ·obtain⟨z0,e1,rfl⟩:=gt k1;rw[gq]at k2;obtain⟨y0,e2,rfl⟩:=gt k2;exact(h8.cell i z0 j y0 e1 e2).unren hp (ly (dS.1 ht z0 (bC e1)) (bC e2))
 | .map es clock,some (.map entries clock')=>
  obtain⟨h1,h2,h3,h4⟩:=h;simp only[AObj.top]at ht;simp only[kn,rW];refine⟨h1,h2,by simp_all,λi e hi=>?_⟩;rw[qC]at hi;cases hx:es[i]? with
  |none=>grind
  |some e0=>
   rw[hx]at hi;cases hi
   obtain⟨e',k1,k2,k3,k4⟩:=h4 i e0 hx;have:=pN.1 ht e0 (bC hx);exact⟨e',k1,k2.unren hp this.1,k3.unren hp this.2,k4⟩
theorem aO.frame{P:Program}{G:fz}(hG:jK G){f:FuncId}{args:laa}{v:AV}(ρ:Nat->Nat){L L':lai}(hl:L'.length=L.length)
  (hL:∀o,o∈L->ep0 o=true/\o.top<=L.length)(hL':∀o,o∈L'->ep0 o=true/\o.top<=L.length)(hm:∀i o,L'[i]?=some o->(aw L').get i=some o)(ht:az args<=L.length)(hv:v.top<=L.length)
  (hi:∀i j,i<L.length->j<L.length->ρ i=ρ j->i=j)
  (h0:aO P G f args (aw L) (λv1 h1=>v1=v/\h1=aw L')){h h':AHeap}(hg:∀i o,L[i]?=some o->h.get (ρ i)=some (kn ρ o))
  (hg':∀k o,h'.get k=some o->(∃i o',L'[i]?=some o'/\k=ρ i/\o=kn ρ o')\/((∀i,i<L.length->k≠ρ i)/\h.get k=some o))(hn:h'.n=h.n):
  aO P G f (mw ρ args) h (λv1 h1=>v1=Ev.ren ρ v/\h1=h'):=by
 intro pl M w vs hG1 hr hvs;obtain⟨n,en⟩:∃n,n=L.length:=⟨_,rfl⟩
 rw[<-en]at hL hL' ht hi hg' hv;have hat:∀i,i<n->∃o,L[i]?=some o/\o∈L:=λi h=>⟨L[i],lE (by omega),Eh _⟩
 have hat':∀i,i<n->∃o,L'[i]?=some o/\o∈L':=λi h=>⟨L'[i]'(by omega),lE (by omega),Eh _⟩
 have hpl1:∀k q,kJ ρ n pl k=some q->k<n/\pl (ρ k)=some q:=λk q hk=>by grind[kJ]
 have hnH:(aw L).n=n:=en.symm;have hnH':(aw L').n=n:=hl.trans en.symm;have hr1:cS (kJ ρ n pl) M (aw L) w:=by
  refine⟨λk q hk=>?_,λk q o hk hgo=>?_,λk q hk=>?_,λk k' q q' hk hk' e=>?_,hr.imm,λk q hk=>?_⟩
  ·simp_all
  ·obtain⟨hk1,hk2⟩:=hpl1 k q hk;have:=oQ hgo;exact(hr.obj (ρ k) q _ hk2 (hg k o this)).ren (hL o (bC this)).2
  ·exact hr.blk _ q (hpl1 k q hk).2
  ·obtain⟨a1,a2⟩:=hpl1 k q hk;obtain⟨b1,b2⟩:=hpl1 k' q' hk';exact hi k k' a1 b1 (hr.inj _ _ q q' a2 b2 e)
  ·exact hr.sep _ q (hpl1 k q hk).2
 have hvs1:VRels (kJ ρ n pl) M args vs:=⟨by rw[<-hvs.len,fm,cw],λj y hj=>(hvs.at_ j (Ev.ren ρ y) (by grind[fm])).ren rfl (dS.1 ht y (bC hj))⟩
 have hG1':qc G (kJ ρ n pl) M:=hG1.none hG;have fin:∀cv w',ip (kJ ρ n pl) M (aw L) w v (aw L') cv w'->ip pl M h w (Ev.ren ρ v) h' cv w':=by
  intro cv w' ⟨pl2,M2,k1,k2,k3,k4⟩;have kept:∀b,b<w.heap.size->(∀i q,i<n->pl (ρ i)=some q->q.blk≠b)->w'.heap[b]?=w.heap[b]?:=λb hb hne=>k3.kept b hb λk q hk _=>hne k q (hpl1 k q hk).1 (hpl1 k q hk).2
  have same:∀i,i<n->pl2 i=pl (ρ i):=by
   intro i hin;cases hp:pl (ρ i)with
   |none=>exact k3.new i (by omega) (by simp_all[kJ])
   |some p=>
    obtain⟨p2,e1,e2,e3⟩:=k3.ext i p (uB hin hp);obtain⟨o,h1,h2⟩:=hat i hin;obtain⟨o',h1',h2'⟩:=hat' i hin;have q1:p.ep=0:=(hr.obj (ρ i) p _ hp (hg i o h1)).ep0 (by grind[Wb]);have q2:p2.ep=0:=(k2.obj i p2 o' e1 (hm i o' h1')).ep0 (hL' o' h2').1;simp_all
  have hun:∀id p,id<n->pl2 id=some p->pl (ρ id)=some p:=λid p h1 h2=>by simp_all
  refine⟨pl,M2,k1.unren hun hv,⟨λk q hk=>by rw[hn];exact hr.dom k q hk,λk q o hk hgo=>?_,λk q hk=>CI (hr.blk k q hk) k3.size,hr.inj,k2.imm,λk q hk=>?_⟩,⟨nS.refl _,λ_ _ h=>h,k3.mem,k3.size,λb hb hk=>kept b hb λi q hin hp e=>?_,λk q hk=>.inl ⟨q,hk,rfl⟩,λk q hk hno=>?_,λ_ _ h _=>h,k3.memNew,k3.os,k3.tape,k3.out,k3.drawn⟩,uj hn.symm⟩
  ·rcases hg' k o hgo with⟨i,o',h1,rfl,rfl⟩|⟨hne,hgo⟩
   ·have hin:i<n:=by grind
    have hm':=bC h1;exact(k2.obj i q o' (by simp_all) (hm i o' h1)).unren (hL' o' hm').1 hun (hL' o' hm').2
   ·rw[kept _ (hr.blk k q hk) λi q' hin hp e=>hne i hin (hr.inj _ _ q q' hk hp e.symm)];exact(hr.obj k q o hk hgo).mono (nS.refl _) k3.mem
  ·cases hM:M2 q.blk with
   |none=>rfl
   |some c2=>
    rcases k3.memNew _ c2 hM with k5|k5
    ·rw[hr.sep k q hk]at k5;grind
    ·have:=hr.blk k q hk;omega
  ·grind
  ·cases hq:h'.get k with
   |none=>rfl
   |some o=>grind
 rcases h0 (kJ ρ n pl) M w vs hG1' hr1 hvs1 with⟨h1,h2⟩|⟨cv,w',v1,h1,q1,⟨q2,q3⟩,q4⟩
 ·exact .inl ⟨h1,Calls.mono h2 λe w' ⟨cv,v1,h1,k1,⟨k2,k3⟩,k4⟩=>⟨cv,Ev.ren ρ v,h',k1,⟨rfl,rfl⟩,by simp_all⟩⟩
 ·exact .inr ⟨cv,w',Ev.ren ρ v,h',q1,⟨rfl,rfl⟩,by simp_all⟩
section
variable{P:Program}{G:fz}{call:cn}{m:Nat}{c:Code}{d:D}{s s':St}{ops:Array Oper}
theorem Fz(hm:P.follows .mixedOrders=true)(hG:jK G)(hc:cW P G call)(d:D)(e:(WP P G call m c).run d s (λe _ s=>e=.normal/\s=s')=(AExit.normal=.normal/\s'=s')):aA P G (some m) c s (λe s=>e=.normal/\s=s'):=X1 hm hG hc c d s _ _ (e▸⟨rfl,rfl⟩) λ_ _ _ _ h=>h
theorem yP(hG:jK G)(hc:cW P G call){id:Nat}{Ψ:St->Prop}(d:D){W:Prop}(p:W)(e:Z0 P G call m ops ops.toList d s (λ_ s=>Ψ s)=W):aA P G (some m) (.region id ops false) s (λe s=>e=.normal/\Ψ s):=aA.region (gn hG hc _ d s _ (e▸p) λ_ _ _ h=>⟨rfl,h⟩)
end
section
variable{P:Program}{G:fz}{ops:Array Oper}{o:Oper}{l:las}{s:St}{b:lan}
theorem sg{Y:Type}{I:Y->Prop}{r:Y->AV}{H:Y->AHeap}{Φ:St->Prop}(hg:eO s.tmps (eL ops o)=some true)
  (hO:∀(pl:Pl)(M:dN)(a:Act)(w:World),qc G pl M->cS pl M s.heap w->FrRel pl M s.tmps a->∃y pl' M' cv w',I y/\(execOp a.eval o).run P w=.ok (.value cv) w'/\VRel pl' M' (r y) cv/\cS pl' M' (H y) w'/\dK s.heap pl M w (H y) pl' M' w'/\s.heap.n<=(H y).n)
  (h:∀y,I y->∃A',jU s.tmps o.dst (r y)=some A'/\cE P G b ops l ⟨A',H y⟩ Φ):cE P G b ops (o::l) s Φ:=by
 intro i N h0' pl0 M0 w0 a w Q hb hl' hs hQ;have ho:ops[i]?=some o:=by simpa using hl' 0
 obtain⟨pl,M,g1,g2,g3,g4,g5⟩:=hs.ex;simp only[dw,CL,wpOps,ho];rw[fN g3 hg];simp only[if_true];left;obtain⟨y,pl',M',cv,w',i1,i2,i3,i4,i5,i6⟩:=hO pl M a w g1 g2 g3;obtain⟨A',e1,e2⟩:=h y i1;obtain⟨p1,p2⟩:=n8 (g3.mono i5.ext i5.mem) i3 (by rw[hs.n];exact hs.small) e1;have nxt:=e2 (i+1) N h0' pl0 M0 w0 (a.put o.dst cv) w' Q hb (λj=>by have:=hl' (j+1);grind)
  ⟨⟨pl',M',g1.mono i5.ext i5.mem,i4,p1,g4.trans i5 g5,b0 g5 i6⟩,by rw[<-hs.n];omega,hs.small⟩ hQ
 unfold Oper.wp;rw[i2];exact nxt
theorem vM{t tx e:TypeId}{i:TypeInfo}{sz bt:Nat}(hsz:i.size=sz)(hbt:i.bytes=bt){z z0:AV}{sO xO:Operand}{dst:lau}{ty:TypeId}{pos:String}{after:Array Edge}{guard:Option (Nat×Bool)}{xs:laa}
  (ht:P.underlying t=some (.slice e))(hk:∃e',P.underlying tx=some (.slice e'))(hi:P.info? e=some i)(hz:iP P e=some z0)(hzl:Le z z0)
  (hs:(cA G sO).run s.tmps=some (.ps [] true))(hx:(cA G xO).run s.tmps=some (.ls xs))(hne:xs≠[])(hfit:dL sz xs=true)(hzf:dL sz [z]=true)(hsm:small xs.length bt=true)(hs0:0<sz)
  (pl:Pl)(M:dN)(a:Act)(w:World)(g1:qc G pl M)(g2:cS pl M s.heap w)(g3:FrRel pl M s.tmps a):
  ∃(k:Nat)(pl':Pl)(M':dN)(cv:Value)(w':World),True/\(execOp a.eval ⟨dst,.call ⟨.builtin .append,#[sO,xO],#[t,tx]⟩,ty,pos,after,guard⟩).run P w=.ok (.value cv) w'/\
   VRel pl' M' (.slice s.heap.n 0 0 xs.length (some (xs.length+k))) cv/\cS pl' M' (s.heap.push (.row sz false 0 (xs++List.replicate k z))) w'/\dK s.heap pl M w (s.heap.push (.row sz false 0 (xs++List.replicate k z))) pl' M' w'/\s.heap.n<=(s.heap.push (.row sz false 0 (xs++List.replicate k z))).n:=by
 subst hsz;subst hbt;have hsr:=bK g1 g3 hs;have hxr:=bK g1 g3 hx;obtain⟨news,hsrc⟩:=zR (P:=P) g2 hxr (show kh s.heap (.ls xs)=some xs from rfl) hne hfit;obtain⟨i2,zv,hz1,hz2,hz3⟩:=m6 hz;rw[hi]at hz1;cases hz1
 obtain⟨b1,b2⟩:=jS hsm;have hpos:0<xs.length:=qB.2 hne;generalize hq:a.eval sO=cs at hsr;generalize hq2:a.eval xO=cx at hxr hsrc;cases hsr with
 | ps hl htt hm hs2 hc=>
  rename_i ad cap sz c;have hcap:cap=0:=htt rfl;subst hcap;have hzr:=hzl _ _ _ (dB (pl:=pl) (M:=M) hz3);have hzt:=mF hzf z (by simp);have hzsz:zv.cells.size=i.size:=by rw[<-hzr.cells.len];omega
  have hrun:=run_append_grow_src (P:=P) w t tx ty e i zv ht hi hz2 (some ad) 0 0 [] (by simp[Builtin.firstCells,loadCells,loadCellsFrom]) cx xs.length news (hsrc.src (.inl hk)) (by omega) (by omega) (growslice_fits (by omega) (by grind));have hge:=grownCap_ge w (0+xs.length) 0 e;obtain⟨C,hC⟩:∃C,C=grownCap w (0+xs.length) 0 e:=⟨_,rfl⟩
  rw[<-hC]at hrun hge;have hin:=fy hzr hzt.2 (C-(0+xs.length)) hzt.1 hs0;have hzl:(Builtin.zeroCells zv.cells (C-(0+xs.length))).toList.toArray=(Array.range ((C-(0+xs.length))*i.size)).map (zv.cells[· %zv.cells.size]!):=by grind[Builtin.zeroCells]
  have hnl:(Builtin.zeroCells zv.cells (C-(0+xs.length))).toList.length=(List.replicate (C-(0+xs.length)) z).length *i.size:=by grind[Builtin.zeroCells]
  have hin2:=kE (news:=(Builtin.zeroCells zv.cells (C-(0+xs.length))).toList) hsrc.mem (by grind) hsrc.newsLen hnl #[];have hce:(news++(Builtin.zeroCells zv.cells (C-(0+xs.length))).toList).toArray++#[]=([]++news).toArray++Builtin.zeroCells zv.cells (C-(0+xs.length)):=by grind
  rw[hce]at hin2;have hcs:(([]++news).toArray++Builtin.zeroCells zv.cells (C-(0+xs.length))).size=(xs++List.replicate (C-(0+xs.length)) z).length *i.size:=by simp only[xj,GY,CN,hsrc.newsLen,size_zeroCells,hzsz,eA,qA,kQ]
  obtain⟨cells,hcells⟩:∃cells,cells=([]++news).toArray++Builtin.zeroCells zv.cells (C-(0+xs.length)):=⟨_,rfl⟩
  rw[<-hcells]at hrun hin2 hcs;have hxl:(xs++List.replicate (C-(0+xs.length)) z).length=C:=by grind
  let p:Place:=⟨w.heap.size,0,i.size,C,C*i.size⟩
  have hwd:(w.drew.alloc (.cells cells e)).heap=w.heap.push (.cells cells e):=rfl;obtain⟨r1,r2⟩:=cS.alloc (o:=.row i.size false 0 (xs++List.replicate (C-(0+xs.length)) z)) (p:=p) g2 hwd ⟨rfl,rfl,rfl,om _⟩ rfl
   ⟨rfl,rfl,hxl.symm,by grind,rfl,hs0,λ_=>hcs,hin2.mono (λid q hq=>⟨q,by rw[dj (by have:=g2.dom id q hq;omega)];omega,ar _,λ_=>rfl⟩) (λ_ _ h=>h)⟩
  refine⟨C-(0+xs.length),upd pl s.heap.n p,M,.slice (some ⟨w.heap.size,0,none⟩) (0+xs.length) C,w.drew.alloc (.cells cells e),trivial,?_,?_,r1,r2,om _⟩
  ·simp only[execOp,resolve,invoke,builtin,Sem.run_bind,Sem.run_pure,Result.andThen_ok,List.map_toArray,eT,xK,hq,hq2];show(Sem.run P (Builtin.append_ #[t,tx] ty #[Value.slice (some ad) 0 0,cx]) w).andThen _=_
   rw[hrun];rfl
  ·rw[fx]at hge ⊢;refine .slice (eY _ _ _) (ar _) hge (λk hk=>by grind) (λ_=>⟨.inr (by grind),by grind,by grind,(λhk=>by grind),(λk hk=>by grind)⟩)
end
section
variable{s id ep off len c l h m a b d sz bt i n k:Nat}{hp H:AHeap}{xs ys zs new:laa}{lo hi mx cap:lan}{op:Bool}{x z:AV}{vl vh vm:lae}
theorem iG(hg:qS s hp id ep=some xs)(h1:jk 0 vl=some l)(h2:jk len vh=some h)(q1:l<=h)(q2:h<=c)(q3:c≠l)(e1:off+l=a)(e2:h-l=b)(e3:c-l=d):
  bp H (dt s hp (some (.slice id ep off len (some c))) vl vh none)=some (.val (.slice id ep a b (some d)) H):=by
 have p1:Nat.ble l h=true:=tZ q1;have p2:Nat.ble h c=true:=tZ q2;have p3:Nat.beq c l=false:=by grind[aD]
 simp only[dt,gj,hg,h1,h2,room,qj,p1,p2,p3,ze,e1,e2,e3,bp]
theorem EE(hg:qS s hp id ep=some xs)(h1:jk 0 vl=some l)(h2:gX x=some h)(h3:gX z=some m)(q1:l<=h)(q2:h<=m)(q3:m<=c)(q4:m≠l)(e1:off+l=a)(e2:h-l=b)(e3:m-l=d):
  bp H (dt s hp (some (.slice id ep off len (some c))) vl (some x) (some z))=some (.val (.slice id ep a b (some d)) H):=by
 have p1:Nat.ble l h=true:=tZ q1;have p2:Nat.ble h m=true:=tZ q2;have p3:Nat.beq m l=false:=by grind[aD]
 simp_all[tZ,dt,gj,room,qj,bp]
theorem MW(hg:qS s hp id ep=some xs)(h1:jk 0 vl=some l)(h2:jk len vh=some h)(q1:l=h)(q3:c=l):
  bp H (dt s hp (some (.slice id ep off len (some c))) vl vh none)=some (.val (.slice id ep 0 0 (some 0)) H):=by
 subst q1;subst q3;have p1:Nat.ble c c=true:=tZ (ar _);have p3:Nat.beq c c=true:=qt _;simp only[dt,gj,hg,h1,h2,room,qj,p1,p3,ze,bp]
theorem MX(hg:qS s hp id ep=some xs)(h1:jk 0 vl=some l)(h2:jk len vh=some h)(q1:l<=h)(q2:h+off<=xs.length)(e1:off+l=a)(e2:h-l=b):
  bp H (dt s hp (some (.slice id ep off len none)) vl vh none)=some (.val (.slice id ep a b none) H):=by
 grind[Nat.ble_eq_true_of_le,dt,gj,room,qj,bp]
theorem zP(hg:H.get id=some (.row sz op ep xs))(e:(xs.drop off).take len=zs):kh H (.slice id ep off len cap)=some zs:=by grind[Nat.beq_refl,kh,kI]
theorem Xo{xs ys:laa}{n:Nat}(h:xs.length=n):((xs++ys).drop 0).take n=xs:=by simp_all
theorem xf{xs:laa}{t:Bool}{n:Nat}(h:az xs=0):Nat.ble (AV.ps xs t).top n=true:=by simp_all[AV.top]
theorem OZ(hg:H.get id=some (.row sz op ep xs))(hx:kh H x=some new)(hf:dL sz new=true)(hne:new≠[])(hc:len+new.length<=c)(hl:off+len+new.length<=xs.length)(hs:small (len+new.length) bt=true)(e1:len+new.length=n)(e2:bN xs (off+len) new=ys):
  fJ (dx sz bt H (some (.slice id ep off len (some c))) (some x))=some (.val (.slice id ep off n (some c)) (H.put id (.row sz op ep ys))):=by
 subst e1;cases new with
 |nil=>simp_all
 |cons y r=>simp_all[tZ,dx,ge,gE,fJ]
theorem T0(hx:kh H x=some []):fJ (dx sz bt H (some (.slice id ep off len cap)) (some x))=some (.val (.slice id ep off len cap) H):=by grind[dx,ge,gE,fJ]
theorem XX(hg:H.get id=some (.row sz op ep xs))(hx:kh H x=some new)(hf:dL sz new=true)(hne:new≠[])(hc:c<len+new.length)(hs:small (len+new.length) bt=true)(e1:(xs.drop off).take len++new=ys)(e2:ys.length=n):
  fJ (dx sz bt H (some (.slice id ep off len (some c))) (some x))=some (.val (.slice H.n 0 0 n none) (H.push (.row sz true 0 ys))):=by
 cases new with
 |nil=>simp_all
 |cons y r=>
  have p1:Nat.beq ep ep=true:=qt ep;have p2:Nat.beq sz sz=true:=qt sz;have p3:Nat.ble (len+(y::r).length) c=false:=by grind[bd]
  simp_all[dx,ge,gE,iR,fJ]
theorem Vb(hg:H.get id=some (.row sz op ep xs))(hk:0<k)(hc:c<len+k)(hf:dL sz [z]=true)(hs:small (len+k) bt=true)(hs2:small k bt=true)(e1:(xs.drop off).take len++List.replicate k z=ys)(e2:ys.length=n):
  fJ (Dn sz bt z H (some (.slice id ep off len (some c))) (some (.int .i64 (.ofNat k))))=some (.val (.slice H.n 0 0 n none) (H.push (.row sz true 0 ys))):=by
 have p1:Nat.beq ep ep=true:=qt ep;have p2:Nat.beq sz sz=true:=qt sz;grind[Nat.ble_eq_true_of_le,Nat.blt,Dn,NV,iR,fJ]
theorem N0(hg:H.get id=some (.row sz op ep xs))(hx:kh H x=some zs)(hf:dL sz (zs.take len)=true)(e1:min zs.length len=k)(e2:bN xs off (zs.take len)=ys):
  fJ (vu sz H (some (.slice id ep off len cap)) (some x))=some (.val (.int .i64 (.ofNat k)) (H.put id (.row sz op ep ys))):=by
 grind[Nat.beq_refl,vu,N1,fJ]
theorem LY(hg:H.get id=some (.row sz op ep xs))(hf:dL sz [z]=true)(e2:bN xs off (List.replicate len z)=ys):
  fJ (wS sz z H (some (.slice id ep off len cap)))=some (.val gh (H.put id (.row sz op ep ys))):=by
 grind[Nat.beq_refl,wS,fJ]
theorem sV{sz:Nat}:∀{xs:laa}{n:Nat},dL sz xs=true->dL sz (xs.take n)=true
 |[],n,h=>by simp_all
 |x::r,0,_=>rfl
 |x::r,n+1,h=>by
  simp only[List.take_succ_cons,dL,ba]at h ⊢;exact⟨h.1,sV h.2⟩
theorem sY{sz:Nat}:∀{xs:laa}{n:Nat},dL sz xs=true->dL sz (xs.drop n)=true
 |[],n,h=>by simp_all
 |x::r,0,h=>h
 |x::r,n+1,h=>by
  simp only[List.drop_succ_cons,dL,ba]at h ⊢;exact sY h.2
end
theorem Ch{P:Program}{G:fz}{f:FuncId}{fn:Func}{tS tR e:TypeId}{n:Nat}(hf:P.funcs[f]?=some fn)(hname:(fn.name== "runtime.NumGoroutine")=false)(hb:fn.body.isNone=true)(hn:Extern.findNext fn=none)(he:Extern.find fn=some (Extern.SlicesOverlaps.overlaps #[tS,tS] #[tR]))
  (ht:P.underlying tS=some (.slice e))(hi:dV P e=some n){xs ys:laa}{t:Bool}{id off len c sz:Nat}{op:Bool}{h:AHeap}(hne:xs≠[])(hgo:h.get id=some (.row sz op 0 ys)):
  aO P G f [.ps xs t,.slice id 0 off len (some c)] h (λv h'=>v=.bool false/\h'=h):=by
 intro pl M w vs hG hr hv;right;refine⟨.bool false,w,.bool false,h,?_,⟨rfl,rfl⟩,pl,M,.bool false,hr,dK.refl _ _ _ _,ar _⟩;have v0:=hv.at_ 0 _ rfl;have v1:=hv.at_ 1 _ rfl;have hvs:vs=#[vs.getD 0 undef,vs.getD 1 undef]:=by
  have hl:vs.size=2:=hv.len.symm;apply Array.ext
  ·omega
  ·intro i h1 h2
   match i,h2 with
   |0,_=>simp_all
   |1,_=>simp_all
 rw[run_callFunc_extern hf hname hb hn he,hvs];generalize vs.getD 0 undef=x0 at v0;generalize vs.getD 1 undef=x1 at v1;cases v0 with
 | ps hl htt hm hs hc=>
  rename_i a cap0 sz0 c0;obtain⟨m1,m2,m3,m4⟩:=hm hne;have hpos:0<xs.length:=qB.2 hne;cases v1 with
  | slice hp hep hl1 hk ha=>
   rename_i cap1 b p;have hcap:=hk c rfl;subst hcap;obtain⟨tA,frA,hA⟩:=hr.imm _ _ m2;have ho:=hr.obj id p _ hp hgo;obtain⟨cB,tB,hB,hpe⟩:∃cB tB,w.heap[p.blk]?=some (.cells cB tB (0,0))/\p.ep=0:=by
    cases hb2:w.heap[p.blk]? with
    |none=>rw[hb2]at ho;exact ho.elim
    |some ob=>
     rw[hb2]at ho;cases ob with
     |cells cB tB fr=>obtain⟨h1,_,_,_,h5,_⟩:=ho;grind
     |_=>exact ho.elim
   have hsep:=hr.sep id p hp;have hsz:=dZ hi w;have hc0:c0.size≠0:=by
    have:0<xs.length*sz0:=Nat.mul_pos hpos m4;omega
   obtain⟨q1,-⟩:=ha hpe.symm
   suffices hh:(Extern.SlicesOverlaps.overlaps #[tS,tS] #[tR] #[.slice (some a) xs.length cap0,.slice (some b) len cap1]).run P w=.ok (.bool false) w by rw[hh];rfl
   generalize xs.length=la;change Sem.run P (α:=Value) (do
    let some t:=(#[tS,tS]:Array TypeId)[0]?|stuck "slices.overlaps: no parameter types"
    let .slice elem <-underlying t|stuck "slices.overlaps: slice type expected"
    let size <-sizeOf elem
    match(some a:lbf),(some b:lbf)with
    | some a,some b=>
     if la=0\/len=0\/size=0 then pure (Value.bool false)
     else if a.block !=b.block&&(<-frozen a)&&(<-frozen b)then unsupported .addressObserved
     else do
      if a.block !=b.block then do
       noView a;noView b
       if <-mayBeOne a b then return Value.bool ((<-choose (.extern "sameAddr.stringBytes" 2))==1)
      pure (Value.bool (a.block==b.block&&a.off<b.off+len*size&&b.off<a.off+la*size))
    |_,_=>pure (Value.bool false)) w=_
   by_cases h0:la=0\/len=0\/n=0
   ·simp[run_underlying ht,hsz,h0]
   ·have hbk:b=⟨p.blk,off*p.sz,none⟩:=by grind
    subst hbk;have hnb:a.block≠p.blk:=λe=>by grind
    have hnb1:(a.block !=p.blk)=true:=by grind
    have hnb2:(a.block==p.blk)=false:=by grind
    have f1:∀o,w.frozen? ⟨p.blk,o,none⟩=false:=λo=>by grind[World.frozen?]
    have s1:w.shape? a.block=some (tA,c0.size):=by grind[World.shape?]
    have s2:w.shape? p.blk=some (tB,cB.size):=by grind[World.shape?]
    cases hsx:c0.size with
    |zero=>omega
    |succ kA=>
     rw[hsx]at s1;cases hfa:w.frozen? a<;>cases hfb:w.frozen? {block:=a.block,off:=kA+1}<;>
     simp[run_underlying ht,hsz,h0,hnb1,hnb2,frozen,noView,viewAt,mayBeOne,stringish,shape,Sem.run,s1,s2,f1,hfa,hfb]
def U5(rs:laf):AHeap->lai->Nat->AHeap
 |h,[],_=>h
 |h,o::r,i=>U5 rs (h.put (gV rs i) (kn (gV rs) o)) r (i+1)
def ZG(rs:laf)(h:AHeap):lai->Nat->Prop
 |[],_=>True
 |o::r,i=>h.get (gV rs i)=some (kn (gV rs) o)/\ZG rs h r (i+1)
def Si(h:AHeap):lai->Nat->Prop
 |[],_=>True
 |o::r,i=>h.get i=some o/\Si h r (i+1)
def Er(n:Nat):lai->Prop
 |[]=>True
 |o::r=>(ep0 o=true/\o.top<=n)/\Er n r
theorem Q9(rs:laf):∀(l:lai)(h:AHeap)(i:Nat),(U5 rs h l i).n=h.n
 |[],_,_=>rfl
 |_::r,h,i=>Q9 rs r _ (i+1)
theorem N8{rs:laf}{h:AHeap}:∀{l:lai}{i j:Nat}{o:AObj},ZG rs h l i->l[j]?=some o->h.get (gV rs (i+j))=some (kn (gV rs) o)
 |x::r,i,0,o,a,e=>by simp at e;subst e;exact a.1
 |x::r,i,j+1,o,a,e=>by
  have:=N8 (i:=i+1) (j:=j) a.2 (by simpa using e);grind
theorem HS{h:AHeap}:∀{l:lai}{i j:Nat}{o:AObj},Si h l i->l[j]?=some o->h.get (i+j)=some o
 |x::r,i,0,o,a,e=>by simp at e;subst e;exact a.1
 |x::r,i,j+1,o,a,e=>by
  have:=HS (i:=i+1) (j:=j) a.2 (by simpa using e);grind
theorem wV{n:Nat}:∀{l:lai},Er n l->∀o,o∈l->ep0 o=true/\o.top<=n
 |x::r,a,o,e=>by
  rcases dO.1 e with rfl|e
  ·exact a.1
  ·exact wV a.2 o e
theorem G4{rs:laf}:∀{l:lai}{h:AHeap}{i k:Nat}{o:AObj},(∀j,j<l.length->gV rs (i+j)<1000000)->(U5 rs h l i).get k=some o->
  (∃j o',l[j]?=some o'/\k=gV rs (i+j)/\o=kn (gV rs) o')\/((∀j,j<l.length->k≠gV rs (i+j))/\h.get k=some o)
 |[],h,i,k,o,_,e=>.inr ⟨λj hj=>absurd hj (qu _),e⟩
 | x::r,h,i,k,o,hb,e=>by
  rcases G4 (l:=r) (i:=i+1) (λj hj=>by have:=hb (j+1) (by simp_all);grind) e with⟨j,o',h1,h2,h3⟩|⟨h1,h2⟩
  ·exact .inl ⟨j+1,o',by simp_all,by grind,h3⟩
  ·rcases AHeap.get_put (by have:=hb 0 (Nat.zero_lt_succ _);omega) h2 with⟨h3,h4⟩|⟨h3,h4⟩
   ·exact .inl ⟨0,x,rfl,h3,h4⟩
   grind
theorem HI{q:Nat->Bool}:∀{rs:laf}{i:Nat},rs.all q=true->i<rs.length->q (gV rs i)=true
 |x::r,0,h,_=>by simp only[List.all_cons,ba]at h;exact h.1
 |x::r,i+1,h,hi=>by
  simp only[List.all_cons,ba]at h;exact HI (rs:=r) (i:=i) h.2 (by simp_all)
theorem qX{P:Program}{G:fz}(hG:jK G){f:FuncId}{args args':laa}{v v':AV}{L L' os os':lai}(rs:laf)
  (h0:aO P G f args (aw L) (λv1 h1=>v1=v/\h1=aw L'))(ea:mw (gV rs) args=args')(ev:Ev.ren (gV rs) v=v')
  (c:(Ae rs&&(Nat.beq rs.length L.length&&(Nat.beq L'.length L.length&&rs.all λx=>Nat.blt x 1000000)))=true)
  (hL:Er L.length L)(hL':Er L.length L')(ht:az args<=L.length)(hv:v.top<=L.length)
  (a1:ZG rs (aw os) L 0)(a2:Si (aw L') L' 0)(a3:aw os'=U5 rs (aw os) L' 0):aO P G f args' (aw os) (λv1 h1=>v1=v'/\h1=aw os'):=by
 simp only[ba,aD,decide_eq_true_eq]at c;obtain⟨c1,c2,c3,c4⟩:=c;subst ea;subst ev;rw[a3];refine aO.frame hG (gV rs) c3 (wV hL) (wV hL') (λi o hi=>by have:=HS a2 hi;simp_all) ht hv (λi j hi hj=>r8 c1 i j (by omega) (by omega)) h0
  (λi o hi=>by have:=N8 a1 hi;simp_all) (λk o hk=>?_) (Q9 rs L' _ 0)
 rcases G4 (λj hj=>by have:=HI c4 (show 0+j<rs.length by omega);simp_all) hk with⟨j,o',h1,h2,h3⟩|⟨h1,h2⟩
 all_goals grind
theorem wv{ρ:Nat->Nat}{sz ep:Nat}{b:Bool}{xs:laa}(h:az xs=0):kn ρ (.row sz b ep xs)=.row sz b ep xs:=by grind[kn,fk]
theorem fI{P:Program}{G:fz}(hG:jK G){f:FuncId}{args args':laa}{v v':AV}{sz:Nat}{b b':Bool}{xs xs':laa}{os os':lai}(id:Nat)(hx:az xs=0)(hx':az xs'=0)
  (h0:aO P G f args (aw [.row sz b 0 xs]) (λv1 h1=>v1=v/\h1=aw [.row sz b' 0 xs']))(ea:mw (gV [id]) args=args')(ev:Ev.ren (gV [id]) v=v')(c:Nat.blt id 1000000=true)
  (ht:Nat.ble (az args) 1=true)(hv:Nat.ble v.top 1=true)(a1:(aw os).get id=some (.row sz b 0 xs))(a3:aw os'=(aw os).put id (.row sz b' 0 xs')):aO P G f args' (aw os) (λv1 h1=>v1=v'/\h1=aw os'):=
 qX hG [id] h0 ea ev (by simp only[Ae,ja,List.all_cons,List.all_nil,c];rfl) ⟨⟨rfl,by grind[AObj.top]⟩,trivial⟩ ⟨⟨rfl,by grind[AObj.top]⟩,trivial⟩ (wQ ht) (wQ hv)
  ⟨by rw[wv hx];exact a1,trivial⟩ ⟨rfl,trivial⟩ (by rw[a3];show _=AHeap.put _ _ (kn _ _);rw[wv hx'];rfl)
def j5(u:TUnit)(ks:lad):TUnit:=⟨u.act,u.item,u.n,u.kind,u.label,u.head,u.words,ks⟩
def ml(w:lag)(u:TUnit):TUnit:=⟨u.act,u.item,u.n,u.kind,u.label,u.head,w,u.kids⟩
def BZ(w:lag)(u:TUnit):TUnit:=⟨u.act,u.item,u.n,u.kind,u.label,w,u.words,u.kids⟩
def pC(s:bZ)(u:TUnit):TUnit:=⟨u.act,u.item,u.n,u.kind,s,u.head,u.words,u.kids⟩
def vj(i:Nat)(x:TUnit)(l:lad):lad:=l.take i++(x::l.drop i)
def ee(i:Nat)(u:TUnit):TUnit:=j5 u (u.kids.eraseIdx i)
def dn(i:Nat)(x:TUnit)(u:TUnit):TUnit:=j5 u (vj i x u.kids)
mutual
def co(p:PId)(f:TUnit->TUnit):TUnit->TUnit
 |⟨a,i,n,k,l,h,w,ks⟩=>bif gQ p ⟨a,i,n,k,l,h,w,ks⟩then f ⟨a,i,n,k,l,h,w,ks⟩else⟨a,i,n,k,l,h,w,eC p f ks⟩
def eC(p:PId)(f:TUnit->TUnit):lad->lad
 |[]=>[]
 |k::r=>bif bG p k then co p f k::r else k::eC p f r
end
section
variable{p:PId}{f:TUnit->TUnit}{u w:TUnit}{l r:lad}{i:Nat}
theorem Gw(p:PId)(f:TUnit->TUnit)(u:TUnit):co p f u=bif gQ p u then f u else j5 u (eC p f u.kids):=by cases u;rw[co];rfl
theorem tW:eC p f []=[]:=by rw[eC]
theorem iX(k:TUnit)(r:lad):eC p f (k::r)=bif bG p k then co p f k::r else k::eC p f r:=by rw[eC]
theorem rE(h:gQ p u=true):co p f u=f u:=by rw[Gw,h];rfl
theorem m7(h:gQ p u=false):co p f u=j5 u (eC p f u.kids):=by rw[Gw,h];rfl
def jc(p:PId)(f:TUnit->TUnit)(l:lad)(i:Nat)(r:lad):Prop:=eC p f l=l.take i++eC p f r
theorem jc.start:jc p f l 0 l:=rfl
theorem jc.skip(h:jc p f l i (w::r))(hd:l.drop i=w::r)(hw:bG p w=false):jc p f l (i+1) r:=by
 unfold jc at *;have hi:i<l.length:=by grind[List.drop_eq_nil_of_le]
 have e:l[i]=w:=by
  have:=congrArg (·[0]?) hd;grind
 grind[iX]
theorem jc.hit(h:jc p f l i (w::r))(hd:l.drop i=w::r)(hw:bG p w=true):eC p f l=l.set i (co p f w):=by
 unfold jc at h;have hi:i<l.length:=by grind[List.drop_eq_nil_of_le]
 rw[h,iX,hw,List.set_eq_take_append_cons_drop,if_pos hi];have:l.drop (i+1)=r:=by rw[<-zb,hd];rfl
 simp_all
theorem jc.done(h:jc p f l i [])(hd:l.drop i=[]):eC p f l=l:=by simp_all[jc,tW,za]
theorem tJ:∀(u:TUnit),bG p u=false->co p f u=u:=TUnit.ind λu ih h=>by
 have hw:=BW h;rw[f9]at hw;cases hi:gQ p u with
 |true=>grind
 | false=>
  rw[hi]at hw;simp only[cond_false]at hw;have key:∀(r:lad),(∀k,k∈r->k∈u.kids)->ca p r=[]->eC p f r=r:=by
   intro r;induction r with
   |nil=>grind[tW]
   |cons k r ihr=>
    intro hm hr;cases hk:bG p k with
    |true=>grind[m8,jN]
    |false=>simp_all[gF,iX]
  have hk:ca p u.kids=[]:=by grind
  rw[m7 hi,key u.kids (λ_ h=>h) hk];cases u;rfl
end
end Go.Ev
namespace Go.Ev
open Go
noncomputable def bu(n:Nat):AV:=.int .i64 (.ofNat n)
theorem Zj(n:Nat):(bu n).top=0:=rfl
section
variable{l part:laj}{i:Nat}{acc:laf}
def nR(l part:laj)(i:Nat)(acc:laf):Prop:=acc.length<=i/\i<=l.length+part.length/\∃f,uS l part=acc++wg part f l i/\l.length<i+f
theorem nR.start(hp:0<part.length):nR l part 0 []:=by
 refine⟨ar _,b6 _,l.length+1,?_,by omega⟩;unfold uS;grind
theorem M8{f:Nat}(hi:i+part.length<=l.length):wg part (f+1) l i=bif du ei ((l.take (i+part.length)).drop i) part then i::wg part f l (i+part.length)else wg part f l (i+1):=by
 have e:(l.take (i+part.length)).drop i=(l.drop i).take part.length:=by grind
 rw[wg,tZ hi,e];rfl
theorem nR.skip(h:nR l part i acc)(hi:i+part.length<=l.length)(hp:0<part.length)(hm:du ei ((l.take (i+part.length)).drop i) part=false):nR l part (i+1) acc:=by
 obtain⟨h1,h2,f,h3,h4⟩:=h;cases f with
 |zero=>omega
 |succ f=>rw[M8 hi,hm]at h3;exact⟨by omega,by omega,f,h3,by omega⟩
theorem nR.hit(h:nR l part i acc)(hi:i+part.length<=l.length)(hp:0<part.length)(hm:du ei ((l.take (i+part.length)).drop i) part=true):nR l part (i+part.length) (acc++[i]):=by
 obtain⟨h1,h2,f,h3,h4⟩:=h;cases f with
 |zero=>omega
 |succ f=>
  rw[M8 hi,hm]at h3;exact⟨by grind,by omega,f,by simp_all,by omega⟩
theorem nR.done(h:nR l part i acc)(hi:l.length<i+part.length):uS l part=acc:=by
 obtain⟨h1,h2,f,h3,h4⟩:=h;cases f with
 |zero=>grind[wg]
 |succ f=>grind[wg,bd]
theorem nR.len(h:nR l part i acc):acc.length<=l.length+part.length:=b0 h.1 h.2.1
end
def rD(g:Nat):laf->Nat->Nat->Prop
 |[],_,_=>True
 |p::r,lo,n=>lo<=p/\p+g<=n/\rD g r (p+g) n
theorem tg(part:laj)(hp:0<part.length):∀(f:Nat)(l:laj)(i:Nat),rD part.length (wg part f l i) i l.length
 |0,l,i=>by rw[wg];trivial
 | f+1,l,i=>by
  rw[wg];have key:∀(m:laf)(a b n:Nat),a<=b->rD part.length m b n->rD part.length m a n:=by
   intro m;cases m with
   |nil=>intro _ _ _ _ _;trivial
   |cons p r=>intro a b n h ⟨h1,h2,h3⟩;exact⟨b0 h h1,h2,h3⟩
  cases hb:Nat.ble (i+part.length) l.length with
  |false=>trivial
  |true=>
   rw[bd]at hb;have hb:=of_decide_eq_true hb;simp only[cond_true];cases du ei ((l.drop i).take part.length) part with
   |true=>exact⟨ar _,hb,tg part hp f l _⟩
   |false=>exact key _ _ _ _ (om i) (tg part hp f l (i+1))
theorem Db(l part:laj):rD part.length (uS l part) 0 l.length:=by
 unfold uS;cases part with
 |nil=>trivial
 |cons x r=>exact tg (x::r) (pU _) _ l 0
def pV(g:Nat)(l:laf)(n:Nat):Prop:=∀i,i<l.length->gD l i+g<=n/\∀j,j<i->gD l j+g<=gD l i
theorem B8{g n:Nat}:∀{l:laf}{lo:Nat},rD g l lo n->pV g l n
 |[],_,_=>λi hi=>absurd hi (qu _)
 | p::r,lo,⟨h1,h2,h3⟩=>by
  have low:∀(m:laf)(a:Nat),rD g m a n->∀i,i<m.length->a<=gD m i:=by
   intro m;induction m with
   |nil=>simp_all
   |cons q m ih=>
    intro a ⟨k1,k2,k3⟩ i hi;cases i with
    |zero=>exact k1
    |succ i=>have:=ih _ k3 i (by simp_all);grind[gD]
  intro i hi;cases i with
  |zero=>exact⟨h2,λj hj=>absurd hj (qu _)⟩
  |succ i=>
   have hi':i<r.length:=by simp_all
   obtain⟨k1,k2⟩:=B8 h3 i hi';refine⟨k1,λj hj=>?_⟩;cases j with
   |zero=>exact low r _ h3 i hi'
   |succ j=>exact k2 j (by omega)
def gw(at_ g:Nat)(m l:lag):lag:=l.take at_++m++l.drop (at_+g)
def uC(a b:Int)(g:Nat)(ps:laf)(fresh:laj):Nat->lag->lag
 |0,l=>l
 |i+1,l=>uC a b g ps fresh i (gw (gD ps i) g (c9 a b fresh (i*fresh.length)) l)
theorem OD{at_ g:Nat}{m l:lag}(h:at_+g<=l.length):(gw at_ g m l).length+g=l.length+m.length:=by grind[gw]
structure PutI(a b:Int)(g:Nat)(ps:laf)(fresh:laj)(w:lag)(i:Nat)(l:lag):Prop where
 le:i<=ps.length
 all:uC a b g ps fresh ps.length w=uC a b g ps fresh i l
 room:∀j,j<i->gD ps j+g<=l.length
 small:l.length<=w.length+(ps.length-i)*fresh.length
theorem PutI.start{a b:Int}{g:Nat}{ps:laf}{fresh:laj}{w:lag}(h:pV g ps w.length):PutI a b g ps fresh w ps.length w:=⟨ar _,rfl,λj hj=>(h j hj).1,by omega⟩
theorem PutI.step{a b:Int}{g:Nat}{ps:laf}{fresh:laj}{w l:lag}{i:Nat}(hg:pV g ps w.length)(h:PutI a b g ps fresh w (i+1) l):PutI a b g ps fresh w i (gw (gD ps i) g (c9 a b fresh (i*fresh.length)) l):=by
 have hr:=h.room i (Nat.lt_succ_self i);have hl:=OD (m:=c9 a b fresh (i*fresh.length)) hr;rw[gz]at hl;have hle:=h.le;refine⟨by omega,h.all,λj hj=>?_,?_⟩
 ·have:=(hg i (by omega)).2 j hj;grind
 ·have hs:=h.small;have e:(ps.length-i)*fresh.length=(ps.length-(i+1))*fresh.length+fresh.length:=by rw[show ps.length-i=(ps.length-(i+1))+1 by omega,qE]
  omega
theorem PutI.done{a b:Int}{g:Nat}{ps:laf}{fresh:laj}{w l:lag}(h:PutI a b g ps fresh w 0 l):uC a b g ps fresh ps.length w=l:=h.all
theorem PutI.len{a b:Int}{g:Nat}{ps:laf}{fresh:laj}{w l:lag}{i:Nat}(h:PutI a b g ps fresh w i l)(h1:w.length<=2^18)(h2:ps.length<=2^9)(h3:fresh.length<=2^9):l.length<=2^19:=by
 have:=h.small;have:(ps.length-i)*fresh.length<=2^9*2^9:=Nat.mul_le_mul (by omega) h3;omega
section
variable{sz b id n n' k l h m:Nat}{H:AHeap}{xs ys zs:laa}{t:Bool}{x z:AV}{vl:lae}
theorem JH(hh:pE sz xs=true)(h1:jk 0 vl=some l)(h2:gX x=some h)(h3:gX z=some h)(q1:l<=h)(q2:h<=xs.length)(e:(xs.take h).drop l=ys):bp H (dt sz H (some (.ps xs t)) vl (some x) (some z))=some (.val (.ps ys true) H):=by simp_all[tZ,dt,gj,vi,bp]
theorem QP(hh:pE sz xs=true)(h1:gX x=some l)(q1:l<=xs.length)(e:xs.drop l=ys):bp H (dt sz H (some (.ps xs false)) (some x) none none)=some (.val (.ps ys false) H):=by
 have p2:Nat.ble l xs.length=true:=tZ q1;have p3:Nat.ble xs.length xs.length=true:=tZ (ar _);simp only[dt,gj,hh,jk,h1,vi,p2,p3,ze,List.take_length,e,zy,bp]
theorem abB(hf:dL sz xs=true)(hf2:dL sz ys=true)(hne:ys≠[])(hs:small (xs.length+ys.length) b=true)(e:xs++ys=zs)(e2:zs.length=n):fJ (dx sz b H (some (.ps xs true)) (some (.ls ys)))=some (.val (.slice H.n 0 0 n none) (H.push (.row sz true 0 zs))):=by
 cases ys with
 |nil=>simp_all
 |cons y r=>simp_all[dx,ge,kh,kI,gE,iR,fJ]
theorem TT(e:ys=[]):fJ (dx sz b H (some (.ps xs true)) (some (.ls ys)))=some (.val (.ps xs true) H):=by subst e;rfl
def ud:laa->Nat
 |[]=>0
 |_::_=>1
theorem XZ(hg:H.get id=some (.row sz true 0 xs))(hp:H.put id (.row sz true 0 xs)=H)(hf:dL sz ys=true)(hl:xs.length=n)(hs:small (n+ys.length) b=true)(e:xs++ys=zs)(e2:zs.length=n'):
  fJ (dx sz b H (some (.slice id 0 0 n none)) (some (.ps ys t)))=some (.val (.slice id (ud ys) 0 n' none) (H.put id (.row sz true (ud ys) zs))):=by
 cases ys with
 |nil=>
  rw[eu]at e;subst e;simp only[ud,hp,<-e2,hl];rfl
 |cons y r=>
  have p1:Nat.beq 0 0=true:=rfl;have p2:Nat.beq sz sz=true:=qt sz;have p4:xs.take n=xs:=za (by omega);have p5:n+(y::r).length=n':=by grind
  have p3:Nat.ble n' xs.length=false:=by grind[bd]
  rw[p5]at hs;simp only[dx,ge,kh,kI,gE,hf,hg,p1,p2,hs,ze,p3,p4,e,p5,ud,fJ,fx]
theorem TS(hf:dL sz xs=true)(hf2:dL sz ys=true)(hne:ys≠[])(hs:small (xs.length+ys.length) b=true)(e:xs++ys=zs)(e2:zs.length=n):fJ (dx sz b H (some (.ps xs true)) (some (.ps ys t)))=some (.val (.slice H.n 0 0 n none) (H.push (.row sz true 0 zs))):=by
 cases ys with
 |nil=>simp_all
 |cons y r=>simp_all[dx,ge,kh,kI,gE,iR,fJ]
end
def ov(l:laf)(n:Int):laf:=bif ae n 0 then l else bif aE (Int.ofNat l.length) n then[]else(l.take n.toNat).drop (n.toNat-1)
theorem WX{l:laf}{a b i:Nat}(h:i<((l.take b).drop a).length):gD ((l.take b).drop a) i=gD l (a+i):=by grind[gD]
theorem Pv{g n a b:Nat}{l:laf}(h:pV g l n):pV g ((l.take b).drop a) n:=by
 intro i hi;have hl:((l.take b).drop a).length<=l.length-a:=by grind
 obtain⟨h1,h2⟩:=h (a+i) (by omega);grind[WX]
theorem H0{g n:Nat}{l:laf}{k:Int}(h:pV g l n):pV g (ov l k) n:=by
 unfold ov;cases ae k 0 with
 |true=>grind
 |false=>
  cases aE (Int.ofNat l.length) k with
  |true=>exact λi hi=>absurd hi (qu _)
  |false=>exact Pv h
theorem HV(l:laf)(k:Int):(ov l k).length<=l.length:=by
 unfold ov;grind
theorem Eb{g n:Nat}(hg:0<g):∀{l:laf}{lo:Nat},rD g l lo n->lo<=n->l.length+lo<=n
 |[],lo,_,h=>by simp_all
 |p::r,lo,⟨h1,h2,h3⟩,_=>by have:=Eb hg h3 h2;grind
theorem M7(l part:laj):(uS l part).length<=l.length:=by
 cases part with
 |nil=>exact b6 _
 |cons x r=>have:=Eb (pU _) (Db l (x::r)) (b6 _);omega
theorem HK(l part:laj):pV part.length (uS l part) l.length:=B8 (Db l part)
def yt(c i:Nat)(l:laf):laf:=(l.take i).map (· +c)++l.drop i
theorem UQ(c i:Nat)(l:laf):(yt c i l).length=l.length:=by grind[yt]
theorem Xx{c i:Nat}{l:laf}(h:i<l.length):gD (yt c i l) i=gD l i:=by
 unfold yt gD List.getD;grind
theorem P8{c i:Nat}{l:laf}(h:i<l.length):(yt c i l).set i (gD l i+c)=yt c (i+1) l:=by
 unfold yt;have h1:((l.take i).map (· +c)).length=i:=by grind
 rw[List.set_append_right _ _ (by omega),h1,Nat.sub_self,Qx h,List.set_cons_zero,Qj h,mT];grind[gD]
theorem P7{c n:Nat}{l m:laf}(h:l.length=n):(yt c n (l++m)).take n=l.map (· +c):=by grind[yt]
theorem KH{c i:Nat}{l:laf}(h:i<l.length):gD (l.map (· +c)) i=gD l i+c:=by grind[gD]
theorem Sn{c n:Nat}{l:laf}(h:pV c l n):pV 0 (l.map (· +c)) n:=by
 intro i hi;rw[cw]at hi;obtain⟨h1,h2⟩:=h i hi;grind[KH]
def wa(l:lag):lag:=bif aE 256 (Int.ofNat l.length)then[]else l
def Ak(l:lag):Int:=bif aE 256 (Int.ofNat l.length)then 6 else 0
def yd(a b:Int)(g:Nat)(ps:laf)(fresh:laj)(w:lag):lag×Int:=(wa (uC a b g ps fresh ps.length w),Ak (uC a b g ps fresh ps.length w))
def GT(a b:Int)(w:lag)(old new:laj)(n:Int):lag×Int:=bif ae (Int.ofNat old.length) 0 then([],1)else bif ae (Int.ofNat (ov (uS (cK w) old) n).length) 0 then([],4)else yd a b old.length (ov (uS (cK w) old) n) new w
def FY(a b:Int)(w:lag)(part new:laj)(n:Int):lag×Int:=
 bif ae (Int.ofNat new.length) 0||(ae (Int.ofNat part.length) 0&&ak (ae n 0))then([],1)
 else bif ae (Int.ofNat part.length) 0 then yd a b 0 [0] new w
 else bif ae (Int.ofNat (ov (uS (cK w) part) n).length) 0 then([],4)else yd a b 0 ((ov (uS (cK w) part) n).map (· +part.length)) new w
def lU(x k:TUnit):Bool:=ae k.kind x.kind&&ei k.label x.label
def zD(p x:TUnit):Int:=bif jd p.kind x.kind then(bif p.kids.any (lU x)then 10 else 0)else 9
def Tj(u:TUnit)(p:PId)(x:TUnit):Bool:=aE 8 (Int.ofNat ((mH p u).length+1+nF x))
abbrev pK:=TUnit×Int
def Pz(u:TUnit)(te:Int)(full cf:Bool)(u2:TUnit):pK:=bif ae te 0 then(bif full then(u,6)else bif cf then(u,5)else(u2,0))else(u,te)
def Gx(u:TUnit)(e:Int)(u2:TUnit):pK:=bif ae e 0 then(u2,0)else(u,e)
def U1(u:TUnit)(te:Int)(u2:TUnit):pK:=bif ae te 10 then(u,10)else(u2,0)
def RD(u:TUnit)(te:Int)(full:Bool)(u2:TUnit):pK:=bif ae te 0 then(bif full then(u,6)else(u2,0))else(u,te)
def Ip(e1 e2:Int)(sp:PSpot)(e3:Int):PSpot×Int:=bif ae e1 0 then(bif ae e2 0 then(bif ae e3 0 then(sp,0)else(eJ,e3))else(eJ,e2))else(eJ,e1)
noncomputable def fY(r:pK):AV:=.tuple [eU r.1,.int .i64 r.2]
theorem iH{p:PId}{u:TUnit}(h:bG p u=true):cH p u∈bV u/\aF (cH p u)=p:=by grind[Qi,Ub,DL]
theorem sK(l m:lad):io (l++m)=io l++io m:=by
 induction l with
 |nil=>rw[sJ];rfl
 |cons k r ih=>grind[fT]
theorem rj(u:TUnit)(l:lad):cG (j5 u l)=aF u::io l:=by rw[mC];rfl
theorem je(u:TUnit):nU u=(cG u).length:=(vw u).symm
theorem xo(u:TUnit)(l:lad):bV (j5 u l)=j5 u l::bx l:=by rw[b8];rfl
theorem tX{q:PId}:∀(u:TUnit),bG q u=true->∃v C,v∈bV u/\aF v=q/\(cG u).Perm (C++cG v)/\∀f,(cG (co q f u)).Perm (C++cG (f v))/\
  ∀x,x∈bV (co q f u)->x∈bV (f v)\/∃y,y∈bV u/\aF x=aF y/\x.kids.length=y.kids.length/\x.head=y.head/\x.words=y.words:=TUnit.ind λu ih h=>by
 cases hi:gQ q u with
 |true=>
  refine⟨u,[],dU u,(fS q u).1 hi,List.Perm.refl _,λf=>?_⟩;grind[rE]
 | false=>
  have key:∀(r:lad),(∀k,k∈r->k∈u.kids)->ca q r≠[]->∃v C,v∈bx r/\aF v=q/\(io r).Perm (C++cG v)/\∀f,(io (eC q f r)).Perm (C++cG (f v))/\(eC q f r).length=r.length/\
    ∀x,x∈bx (eC q f r)->x∈bV (f v)\/∃y,y∈bx r/\aF x=aF y/\x.kids.length=y.kids.length/\x.head=y.head/\x.words=y.words:=by
   intro r;induction r with
   |nil=>grind[kZ]
   | cons k r ihr=>
    intro hm hw;cases hk:bG q k with
    | true=>
     obtain⟨v,C,h1,h2,h3,h4⟩:=ih k (hm k (dr ..)) hk;refine⟨v,C++io r,by grind[bz],h2,?_,λf=>?_⟩
     ·grind[fT]
     ·have e:eC q f (k::r)=co q f k::r:=by rw[iX,hk];rfl
      rw[e];refine⟨?_,rfl,λx hx=>?_⟩
      ·grind[fT]
      ·rw[bz]at hx;rcases ie.1 hx with hx|hx
       ·grind[bz]
       ·exact .inr ⟨x,by grind[bz],rfl,rfl,rfl,rfl⟩
    |false=>
     rw[gF hk]at hw;obtain⟨v,C,h1,h2,h3,h4⟩:=ihr (λx hx=>hm x (di _ hx)) hw;refine⟨v,cG k++C,by grind[bz],h2,by grind[fT],λf=>?_⟩;have e:eC q f (k::r)=k::eC q f r:=by rw[iX,hk];rfl
     rw[e];refine⟨by grind[fT],by simp_all,λx hx=>?_⟩;rw[bz]at hx;rcases ie.1 hx with hx|hx
     ·exact .inr ⟨x,by grind[bz],rfl,rfl,rfl,rfl⟩
     grind[bz]
  have hw:ca q u.kids≠[]:=by
   intro e;have:=jN h;rw[f9,hi,e]at this;simp_all
  obtain⟨v,C,h1,h2,h3,h4⟩:=key u.kids (λ_ h=>h) hw;refine⟨v,aF u::C,by grind[b8],h2,by grind[mC],λf=>?_⟩;rw[m7 hi];refine⟨by grind[rj],λx hx=>?_⟩;rw[xo]at hx;rcases dO.1 hx with rfl|hx
  ·exact .inr ⟨u,dU u,rfl,(h4 f).2.1,rfl,rfl⟩
  grind[b8]
theorem rS{p:PId}:∀(u:TUnit),jg p u=true->∃q i,q∈bV u/\si p u=aF q/\rJ p u=Int.ofNat i/\i<q.kids.length/\aF (gD q.kids i)=p:=TUnit.ind λu ih h=>by
 have hh:bG p u=true:=by
  cases e:bG p u with
  |true=>rfl
  |false=>grind[Sb]
 cases hi:gQ p u with
 |true=>
  unfold jg at h;rw[uy hi]at h;cases h
 | false=>
  have key:∀(r:lad),ca p r≠[]->∃j k,j<r.length/\gD r j=k/\bG p k=true/\ca p r=aL p k/\∀n,cN (bG p) r n=Int.ofNat (n+j):=by
   intro r;induction r with
   |nil=>grind[kZ]
   | cons k r ihr=>
    intro hw;cases hk:bG p k with
    |true=>
     refine⟨0,k,pU _,rfl,hk,m8 hk,λn=>?_⟩;unfold cN;simp_all
    | false=>
     rw[gF hk]at hw;obtain⟨j,k2,h1,h2,h3,h4,h5⟩:=ihr hw;refine⟨j+1,k2,by simp_all,h2,h3,by grind[gF],λn=>?_⟩;have e:cN (bG p) (k::r) n=cN (bG p) r (n+1):=by
      show(bif bG p k then _ else _)=_
      simp_all
     grind
  have hw:ca p u.kids≠[]:=by
   intro e;have:=jN hh;rw[f9,hi,e]at this;simp_all
  obtain⟨j,k,h1,h2,h3,h4,h5⟩:=key u.kids hw;obtain⟨y,t,e⟩:=wH h3;have hway:aL p u=u::aL p k:=by rw[f9,hi,h4,e];rfl
  have hkm:k∈u.kids:=h2▸eP h1;rw[J6 h,J7 h];cases hk:jg p k with
  | true=>
   obtain⟨q,i,q1,q2,q3,q4,q5⟩:=ih k hkm hk;rw[J6 hk]at q2;rw[J7 hk]at q3;have e2:Jr p u=Jr p k:=by
    unfold Jr;rw[hway];have:2<=(aL p k).length:=by
     unfold jg at hk;cases hl:aE (Int.ofNat (aL p k).length) 2 with
     |true=>grind
     |false=>have:=aI hl;grind
    show gD (u::aL p k) ((aL p k).length+1-2)=_
    rw[show(aL p k).length+1-2=((aL p k).length -2)+1 by omega];rfl
   grind[bi]
  | false=>
   have hl:(aL p k).length=1:=by
    unfold jg at hk;cases hl:aE (Int.ofNat (aL p k).length) 2 with
    |false=>grind
    |true=>have:=ap hl;grind
   have hik:gQ p k=true:=by
    cases hik:gQ p k with
    |true=>rfl
    |false=>
     rw[f9,hik]at hl e;grind
   have e2:Jr p u=u:=by
    unfold Jr;rw[hway];show gD (u::aL p k) ((aL p k).length+1-2)=_
    rw[hl];rfl
   rw[e2,h5 0,fx];exact⟨u,j,dU u,rfl,rfl,h1,by grind[fS]⟩
theorem V6{p:PId}{u:TUnit}(h:bG p u=true)(hi:gQ p u=false):jg p u=true:=by
 have hw:aL p u≠[]:=jN h;have e:aL p u=match ca p u.kids with|[]=>[]|y::t=>u::y::t:=by rw[f9,hi];rfl
 unfold jg;rw[e]at hw ⊢;cases ew:ca p u.kids with
 |nil=>simp_all
 |cons y t=>
  show ak (aE (Int.ofNat (u::y::t).length) 2)=true
  rw[jC (by grind)];rfl
theorem V1{v:TUnit}{i:Nat}(h:i<v.kids.length):(cG v).Perm (cG (ee i v)++cG (gD v.kids i)):=by
 unfold ee;rw[mC v,rj,Je,sK];have e:v.kids=v.kids.take i++(gD v.kids i::v.kids.drop (i+1)):=by grind[gD,List.drop_eq_getElem_cons,List.take_append_drop]
 grind[sK,fT]
theorem V0{v x:TUnit}{i:Nat}:(cG (dn i x v)).Perm (cG v++cG x):=by
 unfold dn vj;rw[mC v,rj,sK,fT,zh];grind[List.take_append_drop,sK]
section
variable{P:Program}{G:fz}{call:cn}{m:Nat}{c:Code}{d:D}{s s':St}{ops:Array Oper}{h h':AHeap}{o:AObj}{f:FuncId}{args:laa}{v u:AV}{pl pl':Pl}{M M':dN}{w w':World}
theorem cS.psh(g2:cS pl M h w):cS pl M (h.push o) w:=
 ⟨λid p hp=>Nat.lt_succ_of_lt (g2.dom id p hp),(λid p o' hp hg=>by
  rcases dh hg with⟨rfl,_⟩|⟨_,h2⟩
  ·exact absurd (g2.dom _ p hp) (xz _)
  ·exact g2.obj id p o' hp h2),g2.blk,g2.inj,g2.imm,g2.sep⟩
theorem dK.psh(g2:cS pl M h w)(g4:dK h pl M w h' pl' M' w')(g2':cS pl' M' h' w'):dK h pl M w (h'.push o) pl' M' w':=
 ⟨g4.ext,g4.new,g4.mem,g4.size,g4.kept,g4.blks,(λid p hp hg=>by
  have:=g4.live id p hp hg;cases hh:(h'.push o).get id with
  |none=>rfl
  |some o'=>
   rcases dh hh with⟨rfl,_⟩|⟨_,h2⟩
   ·obtain⟨p',e1,_⟩:=g4.ext _ p hp;exact absurd (g2'.dom _ p' e1) (xz _)
   simp_all),g4.stay,g4.memNew,g4.os,g4.tape,g4.out,g4.drawn⟩
theorem aO.psh(h0:aO P G f args h (λv1 h1=>v1=v/\h1=h'))(hl:Le u v):aO P G f args h (λv1 h1=>v1=u/\h1=h'.push o):=by
 intro pl M w vs hg hr hv;have key:∀{cv w'},ip pl M h w v h' cv w'->ip pl M h w u (h'.push o) cv w':=λ⟨pl',M',k1,k2,k3,k4⟩=>⟨pl',M',hl _ _ _ k1,cS.psh k2,dK.psh hr k3 k2,Nat.le_succ_of_le k4⟩
 rcases h0 pl M w vs hg hr hv with⟨h1,h2⟩|⟨cv,w',v',h'',h1,⟨rfl,rfl⟩,h3⟩
 ·exact .inl ⟨h1,Calls.mono h2 λe w' ⟨cv,v',h'',k1,⟨k2,k2'⟩,k3⟩=>⟨cv,u,h'.push o,k1,⟨rfl,rfl⟩,by simp_all⟩⟩
 ·exact .inr ⟨cv,w',u,_,h1,⟨rfl,rfl⟩,key h3⟩
theorem LC{Ψ Ψ':AV->AHeap->Prop}(o:AObj)(h0:aO P G f args h Ψ)(hΨ:∀v h',Ψ v h'->∃u,Le u v/\Ψ' u (h'.push o)):aO P G f args h Ψ':=by
 intro pl M w vs hg hr hv;have key:∀{v u h' cv w'},Le u v->ip pl M h w v h' cv w'->ip pl M h w u (h'.push o) cv w':=λhl ⟨pl',M',k1,k2,k3,k4⟩=>⟨pl',M',hl _ _ _ k1,cS.psh k2,dK.psh hr k3 k2,Nat.le_succ_of_le k4⟩
 rcases h0 pl M w vs hg hr hv with⟨h1,h2⟩|⟨cv,w',v',h'',h1,h2,h3⟩
 ·refine .inl ⟨h1,Calls.mono h2 λe w' ⟨cv,v',h'',k1,k2,k3⟩=>?_⟩;grind
 ·obtain⟨u,q1,q2⟩:=hΨ _ _ h2;exact .inr ⟨cv,w',u,_,h1,q2,key q1 h3⟩
theorem Q5(pl:Pl)(M:dN)(p:Place)(x:Option Obj):bm pl M p .dead x:=by cases x<;>trivial
theorem aO.dead{i:Nat}{Ψ Ψ':AV->AHeap->Prop}(h0:aO P G f args h Ψ)(hi:h.n<=i)(hm:i<1000000)(hΨ:∀v h',Ψ v h'->Ψ' v (h'.put i .dead)):aO P G f args h Ψ':=by
 intro pl M w vs hg hr hv;have key:∀{v h' cv w'},ip pl M h w v h' cv w'->ip pl M h w v (h'.put i .dead) cv w':=λ⟨pl',M',k1,k2,k3,k4⟩=>⟨pl',M',k1,⟨k2.dom,(λid p o hp hg=>by
  rcases AHeap.get_put hm hg with⟨_,rfl⟩|⟨_,h2⟩
  ·grind[Q5]
  ·exact k2.obj id p o hp h2),k2.blk,k2.inj,k2.imm,k2.sep⟩,⟨k3.ext,k3.new,k3.mem,k3.size,k3.kept,k3.blks,(λid p hp hg=>by
   have hl:=hr.dom id p hp;have hn:=k3.live id p hp hg;cases hh:AHeap.get (AHeap.put _ i .dead) id with
   |none=>rfl
   |some o'=>grind[AHeap.get_put]),k3.stay,k3.memNew,k3.os,k3.tape,k3.out,k3.drawn⟩,k4⟩
 rcases h0 pl M w vs hg hr hv with⟨h1,h2⟩|⟨cv,w',v',h'',h1,h2,h3⟩
 ·exact .inl ⟨h1,Calls.mono h2 λe w' ⟨cv,v',h'',k1,k2,k3⟩=>⟨cv,v',h''.put i .dead,k1,hΨ _ _ k2,key k3⟩⟩
 ·exact .inr ⟨cv,w',v',_,h1,hΨ _ _ h2,key h3⟩
end
section
variable{P:Program}{G:fz}{ops:Array Oper}{o:Oper}{l:las}{s:St}{b:lan}
theorem yz{t tx e:TypeId}{i:TypeInfo}{sz bt:Nat}(hsz:i.size=sz)(hbt:i.bytes=bt){z z0:AV}{sO xO:Operand}{dst:lau}{ty:TypeId}{pos:String}{after:Array Edge}{guard:Option (Nat×Bool)}{xs:laa}
  (ht:P.underlying t=some (.slice e))(hk:∃e',P.underlying tx=some (.slice e'))(hi:P.info? e=some i)(hz:iP P e=some z0)(hzl:Le z z0)
  (hs:(cA G sO).run s.tmps=some (.ps [] true))(hx:(cA G xO).run s.tmps=some (.ls xs))(hne:xs≠[])(hfit:dL sz xs=true)(hzf:dL sz [z]=true)(hsm:small xs.length bt=true)(hs0:0<sz)
  (pl:Pl)(M:dN)(a:Act)(w:World)(g1:qc G pl M)(g2:cS pl M s.heap w)(g3:FrRel pl M s.tmps a):
  ∃(k:Nat)(pl':Pl)(M':dN)(cv:Value)(w':World),k=0/\(execOp a.eval ⟨dst,.call ⟨.builtin .append,#[sO,xO],#[t,tx]⟩,ty,pos,after,guard⟩).run P w=.ok (.value cv) w'/\
   VRel pl' M' (.slice s.heap.n 0 0 xs.length none) cv/\cS pl' M' (s.heap.push (.row sz true 0 xs)) w'/\dK s.heap pl M w (s.heap.push (.row sz true 0 xs)) pl' M' w'/\s.heap.n<=(s.heap.push (.row sz true 0 xs)).n:=by
 subst hsz;subst hbt;have hsr:=bK g1 g3 hs;have hxr:=bK g1 g3 hx;obtain⟨news,hsrc⟩:=zR (P:=P) g2 hxr (show kh s.heap (.ls xs)=some xs from rfl) hne hfit;obtain⟨i2,zv,hz1,hz2,hz3⟩:=m6 hz;rw[hi]at hz1;cases hz1
 obtain⟨b1,b2⟩:=jS hsm;have hpos:0<xs.length:=qB.2 hne;generalize hq:a.eval sO=cs at hsr;generalize hq2:a.eval xO=cx at hxr hsrc;cases hsr with
 | ps hl htt hm hs2 hc=>
  rename_i ad cap sz c;have hcap:cap=0:=htt rfl;subst hcap;have hzr:=hzl _ _ _ (dB (pl:=pl) (M:=M) hz3);have hzt:=mF hzf z (by simp);have hzsz:zv.cells.size=i.size:=by rw[<-hzr.cells.len];omega
  have hrun:=run_append_grow_src (P:=P) w t tx ty e i zv ht hi hz2 (some ad) 0 0 [] (by simp[Builtin.firstCells,loadCells,loadCellsFrom]) cx xs.length news (hsrc.src (.inl hk)) (by omega) (by omega) (growslice_fits (by omega) (by grind));have hge:=grownCap_ge w (0+xs.length) 0 e;obtain⟨C,hC⟩:∃C,C=grownCap w (0+xs.length) 0 e:=⟨_,rfl⟩
  rw[<-hC]at hrun hge;have hin:=fy hzr hzt.2 (C-(0+xs.length)) hzt.1 hs0;have hzl:(Builtin.zeroCells zv.cells (C-(0+xs.length))).toList.toArray=(Array.range ((C-(0+xs.length))*i.size)).map (zv.cells[· %zv.cells.size]!):=by grind[Builtin.zeroCells]
  have hnl:(Builtin.zeroCells zv.cells (C-(0+xs.length))).toList.length=(List.replicate (C-(0+xs.length)) z).length *i.size:=by grind[Builtin.zeroCells]
  have hin2:=kE (news:=(Builtin.zeroCells zv.cells (C-(0+xs.length))).toList) hsrc.mem (by grind) hsrc.newsLen hnl #[];have hce:(news++(Builtin.zeroCells zv.cells (C-(0+xs.length))).toList).toArray++#[]=([]++news).toArray++Builtin.zeroCells zv.cells (C-(0+xs.length)):=by grind
  rw[hce]at hin2;have hcs:(([]++news).toArray++Builtin.zeroCells zv.cells (C-(0+xs.length))).size=(xs++List.replicate (C-(0+xs.length)) z).length *i.size:=by simp only[xj,GY,CN,hsrc.newsLen,size_zeroCells,hzsz,eA,qA,kQ]
  obtain⟨cells,hcells⟩:∃cells,cells=([]++news).toArray++Builtin.zeroCells zv.cells (C-(0+xs.length)):=⟨_,rfl⟩
  rw[<-hcells]at hrun hin2 hcs;have hxC:xs.length<=C:=by omega
  have hszc:cells.size=C*i.size:=by grind
  have hin3:InMem pl M cells 0 i.size xs:=⟨by rw[fx,hszc];exact e9 _ hxC,λx hx=>hin2.elem x (ux _ hx),λi x j y h1 h2=>hin2.cell i x j y (by grind) h2⟩
  let p:Place:=⟨w.heap.size,0,i.size,xs.length,C*i.size⟩
  have hwd:(w.drew.alloc (.cells cells e)).heap=w.heap.push (.cells cells e):=rfl;obtain⟨r1,r2⟩:=cS.alloc (o:=.row i.size true 0 xs) (p:=p) g2 hwd ⟨rfl,rfl,rfl,om _⟩ rfl
   ⟨rfl,rfl,rfl,hszc.symm,rfl,hs0,λh=>(by grind),hin3.mono (λid q hq=>⟨q,by rw[dj (by have:=g2.dom id q hq;omega)];omega,ar _,λ_=>rfl⟩) (λ_ _ h=>h)⟩
  refine⟨0,upd pl s.heap.n p,M,.slice (some ⟨w.heap.size,0,none⟩) (0+xs.length) C,w.drew.alloc (.cells cells e),rfl,?_,?_,r1,r2,om _⟩
  ·simp only[execOp,resolve,invoke,builtin,Sem.run_bind,Sem.run_pure,Result.andThen_ok,List.map_toArray,eT,xK,hq,hq2];show(Sem.run P (Builtin.append_ #[t,tx] ty #[Value.slice (some ad) 0 0,cx]) w).andThen _=_
   rw[hrun];rfl
  ·rw[fx]at hge ⊢;refine .slice (eY _ _ _) (ar _) hge (λk hk=>by grind) (λ_=>⟨.inr (by grind),by grind,by grind,(λ_=>by grind),(λk hk=>by grind)⟩)
end
theorem jz{s u:lar}{H:AHeap}(h:s.length+u.length<=2^62):bp H (Xz (.str s) (.str u))=some (.val (.str (s++u)) H):=by grind[Nat.ble_eq_true_of_le,Xz,bp]
def Pr(s:bZ):bZ:=bif ae (.ofNat (gD s 0).toNat) 124 then[92]else bif ae (.ofNat (gD s 0).toNat) 92 then[92]else[]
def CA(s:bZ)(w:PWord):bZ:=s++[32]++Pr w.text++w.text
def me(s:bZ)(l:lag):bZ:=l.foldl CA s
theorem pX(s:bZ)(w:PWord)(r:lag):me s (w::r)=me (CA s w) r:=rfl
theorem F2{x:bZ}{w:PWord}(h1:ae (.ofNat (gD w.text 0).toNat) 124=true):CA x w=x++[32]++[92]++w.text:=by grind[CA,Pr]
theorem F1{x:bZ}{w:PWord}(h1:ae (.ofNat (gD w.text 0).toNat) 124=false)(h2:ae (.ofNat (gD w.text 0).toNat) 92=true):CA x w=x++[32]++[92]++w.text:=by grind[CA,Pr]
theorem F0{x:bZ}{w:PWord}(h1:ae (.ofNat (gD w.text 0).toNat) 124=false)(h2:ae (.ofNat (gD w.text 0).toNat) 92=false):CA x w=x++[32]++w.text:=by grind[CA,Pr]
theorem Yi(d:Nat):aE (.ofNat d) 0=false:=rfl
def um(u:TUnit):TUnit:=⟨0,0,0,u.kind,u.label,u.head,u.words,[]⟩
def E9(u:TUnit)(d:Nat):Bool:=ak (aE (.ofNat d) 0)&&(ak (aE 8 (.ofNat d))&&lY (dY (um u)))
def gy(u:TUnit)(d:Nat):bZ:=
 bif ak (E9 u d)then[]else
  let a:=Lib.repeatL [32,32] d++dc u.kind
  let b:=bif ak (ae u.kind 0)then a++([32]++u.label)else a
  let c:=bif aE 0 (.ofNat u.head.length)then me (b++[58]) u.head else b
  bif aE 0 (.ofNat u.words.length)then me (c++[32,124]) u.words else c
mutual
def eD:Nat->TUnit->laj
 |d,⟨a,i,n,k,l,h,w,ks⟩=>gy ⟨a,i,n,k,l,h,w,ks⟩ d::dg (d+1) ks
def dg:Nat->lad->laj
 |_,[]=>[]
 |d,k::r=>eD d k++dg d r
end
theorem Do(d:Nat)(u:TUnit):eD d u=gy u d::dg (d+1) u.kids:=by cases u;rw[eD];rfl
theorem xC(d:Nat):dg d []=[]:=by rw[dg]
theorem mA(d:Nat)(k:TUnit)(r:lad):dg d (k::r)=eD d k++dg d r:=by rw[dg]
def yf(u:TUnit):bZ×Int:=
 bif ak (lY (dY u))then([],1)else
  bif aE 16384 (.ofNat (Lib.join (eD 0 u) [10]++[10]).length)then([],6)else(Lib.join (eD 0 u) [10]++[10],0)
theorem S3(s:bZ):(Pr s).length<=1:=by grind[Pr]
theorem UZ(s:bZ)(w:PWord):(CA s w).length<=s.length+(w.text.length+2):=by grind[S3,CA]
theorem vT{l:lag}(h:∀w,w∈l->w.text.length<=24)(s:bZ):(me s l).length<=s.length+26*l.length:=by
 induction l generalizing s with
 |nil=>exact ar _
 |cons w r ih=>grind[UZ,pX]
theorem AP(k:Int):(dc k).length<=16:=by
 unfold dc;split<;>decide
theorem gu{a b:Int}(h:ak (aE a b)=true):b<=a:=aI (by cases q:aE a b<;>rw[q]at h<;>first|rfl|grind)
theorem Kg{s:bZ}(h:kB s=true):s.length<=7:=by
 unfold kB at h;simp only[ba]at h;have h1:=gu h.2.1;have h2:=gu h.2.2.2.1;grind
theorem Ox{s:bZ}(h:sF s=true):1<=s.length/\s.length<=24:=by
 unfold sF at h;simp only[ba]at h;have h1:=gu h.1;have h2:=gu h.2.1;grind
theorem Jh{l:lag}(h:pq l=true):l.length<=256/\∀w,w∈l->1<=w.text.length/\w.text.length<=24:=by
 unfold pq rZ at h;simp only[ba,mf]at h;have h1:=gu h.1;simp only[aT]at h1;exact⟨by omega,λw hw=>Ox (h.2.2 _ (iO.2 ⟨w,hw,rfl⟩))⟩
theorem P3{u:TUnit}(h:md u=true):u.label.length<=7/\(u.head.length<=256/\∀w,w∈u.head->1<=w.text.length/\w.text.length<=24)/\(u.words.length<=256/\∀w,w∈u.words->1<=w.text.length/\w.text.length<=24):=by
 unfold md at h;simp only[ba]at h;have h:=h.1;cases hk:ae u.kind 0 with
 |true=>
  rw[hk]at h;simp only[cond_true,ba]at h;have h1:u.label=[]:=NH h.1;have h2:=gu h.2;grind
 |false=>grind[Kg,Jh]
theorem Q0{q:TUnit->Bool}{u:TUnit}(h:xX q u=true):q u=true:=by grind[zz]
theorem NK{u:TUnit}{d:Nat}(h:E9 u d=true):d<=8/\u.label.length<=7/\(u.head.length<=256/\∀w,w∈u.head->1<=w.text.length/\w.text.length<=24)/\(u.words.length<=256/\∀w,w∈u.words->1<=w.text.length/\w.text.length<=24):=by
 unfold E9 lY at h;simp only[ba]at h;have h1:=gu h.2.1;simp only[aT]at h1;have h2:=P3 (Q0 h.2.2.1);rw[mI]at h2;obtain⟨e1,⟨e2,e3⟩,e4,e5⟩:=h2;refine⟨by omega,e1,⟨by grind[um,TUnit.head],λw hw=>?_⟩,⟨by grind[um,TUnit.words],λw hw=>?_⟩⟩
 ·exact e3 (iU w) (iO.2 ⟨w,hw,rfl⟩)
 ·exact e5 (iU w) (iO.2 ⟨w,hw,rfl⟩)
theorem FF{b:Bool}{x y:bZ}{n:Nat}(h1:x.length<=n)(h2:y.length<=n):(bif b then x else y).length<=n:=by grind
theorem RM(u:TUnit)(d:Nat):(gy u d).length<=2^14:=by
 unfold gy;cases h:E9 u d with
 |false=>simp_all
 |true=>
  obtain⟨h1,h2,⟨h3,h4⟩,h5,h6⟩:=NK h;have k:=AP u.kind;have r:=Lib.repeatL_length [32,32] d;simp only[dw,hJ]at r;have ha:(Lib.repeatL [32,32] d++dc u.kind).length<=32:=by grind
  have hh:∀w,w∈u.head->w.text.length<=24:=λw hw=>(h4 w hw).2
  have hw:∀w,w∈u.words->w.text.length<=24:=λw hw=>(h6 w hw).2
  simp only[ak,cond_false];have hb:∀x:bZ,x.length<=32->(bif ak (ae u.kind 0)then x++([32]++u.label)else x).length<=40:=λx hx=>FF (by grind) (by omega)
  have hc:∀x:bZ,x.length<=40->(bif aE 0 (.ofNat u.head.length)then me (x++[58]) u.head else x).length<=6700:=λx hx=>FF (by grind[vT]) (by omega)
  have hd:∀x:bZ,x.length<=6700->(bif aE 0 (.ofNat u.words.length)then me (x++[32,124]) u.words else x).length<=2^14:=λx hx=>FF (by have:=vT hw (x++[32,124]);grind) (by omega)
  grind
mutual
theorem lj(d:Nat):∀u:TUnit,(eD d u).length=nU u
 |⟨a,i,n,k,l,h,w,ks⟩=>by rw[eD,dw,xE (d+1) ks,nU];omega
theorem xE(d:Nat):∀l:lad,(dg d l).length=eB l
 |[]=>by rw[dg,eB];rfl
 |k::r=>by rw[dg,eB,eA,lj d k,xE d r]
end
mutual
theorem AN(d:Nat):∀(u:TUnit)(s:bZ),s∈eD d u->s.length<=2^14
 |⟨a,i,n,k,l,h,w,ks⟩,s,hs=>by
  rw[eD]at hs;rcases dO.1 hs with rfl|hs
  ·exact RM _ _
  ·exact xD (d+1) ks s hs
theorem xD(d:Nat):∀(l:lad)(s:bZ),s∈dg d l->s.length<=2^14
 |[],s,hs=>by rw[dg]at hs;cases hs
 |k::r,s,hs=>by
  rw[dg]at hs;rcases ie.1 hs with hs|hs
  ·exact AN d k s hs
  ·exact xD d r s hs
end
theorem vY{sep:bZ}{B:Nat}:∀{l:laj},(∀s,s∈l->s.length<=B)->(Lib.joinTail sep l).length<=l.length*(sep.length+B)
 |[],_=>b6 _
 |x::r,h=>by
  have h1:=h x dr;have h2:=vY (sep:=sep) (l:=r) λs hs=>h s (di _ hs)
  grind[Lib.joinTail,Nat.succ_mul]
theorem R3{sep:bZ}{B:Nat}{l:laj}(h:∀s,s∈l->s.length<=B):(Lib.join l sep).length<=l.length*(sep.length+B):=by
 cases l with
 |nil=>exact b6 _
 |cons x r=>
  have h1:=h x dr;have h2:=vY (sep:=sep) (l:=r) λs hs=>h s (di _ hs)
  grind[Lib.join_cons,Nat.succ_mul]
theorem xi:∀(l:lad),(∀k,k∈l->nU (dY k)=nU k/\∀x,x∈bV (dY k)->∃y,y∈bV k/\x=dY y)->eB (l.map dY)=eB l/\∀x,x∈bx (l.map dY)->∃y,y∈bx l/\x=dY y
 |[],_=>⟨rfl,λx hx=>by grind[ef]⟩
 |k::r,h=>by
  obtain⟨a1,a2⟩:=h k dr;obtain⟨b1,b2⟩:=xi r λk hk=>h k (di _ hk)
  grind[eB,bz]
theorem Of:∀u:TUnit,nU (dY u)=nU u/\∀x,x∈bV (dY u)->∃y,y∈bV u/\x=dY y:=by
 refine TUnit.ind λu ih=>?_
 obtain⟨h1,h2⟩:=xi u.kids ih;refine⟨?_,λx hx=>?_⟩
 ·rw[jv (dY u),jv u,mI];exact congrArg (1+ ·) h1
 ·rw[b8,mI]at hx;rcases dO.1 hx with rfl|hx
  ·grind[b8,List.mem_cons_self,mI]
  ·obtain⟨y,h3,h4⟩:=h2 x hx;grind[b8]
structure OkB(u:TUnit):Prop where
 nd:(cG u).Nodup
 n:nU u<=1024
 w:∀x,x∈bV u->x.head.length<=300/\x.words.length<=300
theorem OkB.uni{u v x:TUnit}(h:OkB u)(hv:v∈bV u)(hx:x∈bV u)(e:aF v=aF x):v=x:=De h.nd hv hx e
theorem ma{u x:TUnit}(hx:x∈bV u):bG (aF x) u=true:=mD u ⟨x,hx,rfl⟩
theorem kK:∀{l:lad}{x:TUnit},x∈bx l->∃k,k∈l/\x∈bV k
 |[],x,h=>by grind[ef]
 |k::r,x,h=>by
  rw[bz]at h;rcases ie.1 h with h|h
  ·simp_all
  ·obtain⟨k',h1,h2⟩:=kK h;grind
theorem wD:∀{l:lad}{k x:TUnit},k∈l->x∈bV k->x∈bx l
 |k::r,_,x,h,hx=>by
  rw[bz];rcases dO.1 h with rfl|h
  ·simp_all
  ·exact qJ _ (wD h hx)
theorem C7{u:TUnit}:∀(p:lap)(l:lad),(∀x,x∈l->x∈bV u)->∀x,x∈gG p l->x∈bV u
 |[],l,h,x,hx=>h x hx
 |s::r,l,h,x,hx=>by
  refine C7 r _ (λy hy=>?_) x hx;grind[dD,bi,dU]
theorem DD{u:TUnit}{p:lap}{x:TUnit}(h:x∈ed u p):x∈bV u:=by
 unfold ed at h;grind[dU,C7]
theorem oZ{u:TUnit}{p:lap}(h:(aC u p).2=0):bG (aC u p).1 u=true:=by
 unfold aC at h ⊢;split at h
 ·omega
 ·rename_i x e;exact ma (DD (by rw[e];simp_all))
 omega
def F9(u:TUnit)(sp:PSpot):Prop:=∃n:Nat,sp.at_=Int.ofNat n/\n<=2^20/\∀v,v∈bV u->gQ sp.id v=true->n<=v.kids.length
theorem Rz{u:TUnit}(hu:OkB u){p:PId}(h:jg p u=true){n:Nat}(hn:n<=1):F9 u ⟨si p u,rJ p u+Int.ofNat n⟩:=by
 obtain⟨q,i,h1,h2,h3,h4,h5⟩:=rS u h;have hk:=bB q;have:=dT h1;have:=hu.n;refine⟨i+n,by simp_all,by omega,λv hv hi=>?_⟩;have hi:gQ (si p u) v=true:=hi;rw[fS,h2]at hi;rw[hu.uni hv h1 hi];omega
theorem Hg{u:TUnit}(hu:OkB u){p:PId}(hp:bG p u=true){w:Int}(he:(cD w u p).2=0):F9 u (cD w u p).1:=by
 unfold cD at he ⊢;cases h0:ae w 0 with
 |true=>exact⟨0,rfl,b6 _,λv _ _=>b6 _⟩
 | false=>
  rw[h0]at he;simp only[cond_false]at he ⊢;cases h1:ae w 1 with
  |true=>
   obtain⟨a,b⟩:=iH hp;have hk:=bB (cH p u);have:=dT a;have:=hu.n;refine⟨_,rfl,by omega,λv hv hi=>?_⟩;rw[fS]at hi;rw[hu.uni hv a (hi.trans b.symm)];omega
  |false=>
   rw[h1]at he;simp only[cond_false]at he ⊢;have key:∀n:Nat,n<=1->(kO u p (Int.ofNat n)).2=0->F9 u (kO u p (Int.ofNat n)).1:=λn hn he=>by grind[kO,Rz]
   cases h2:ae w 2 with
   |true=>grind
   |false=>rw[h2]at he;exact key 0 (b6 _) he
theorem OkB.with{u:TUnit}(hu:OkB u){q:PId}{f:TUnit->TUnit}
  (hf:∀v C,v∈bV u->aF v=q->(cG u).Perm (C++cG v)->(C++cG (f v)).Nodup/\(C++cG (f v)).length<=1024/\∀x,x∈bV (f v)->x.head.length<=300/\x.words.length<=300):OkB (co q f u):=by
 cases hq:bG q u with
 |false=>grind[tJ]
 |true=>
  obtain⟨v,C,h1,h2,h3,h4⟩:=tX u hq;obtain⟨h5,h6⟩:=h4 f;obtain⟨a,b,c⟩:=hf v C h1 h2 h3;refine⟨h5.nodup_iff.2 a,by rw[je,h5.length_eq];omega,λx hx=>?_⟩;grind[cases OkB]
theorem OkB.keep{u:TUnit}(hu:OkB u){q:PId}{f:TUnit->TUnit}(h1:∀v,aF (f v)=aF v/\(f v).kids=v.kids)(h2:∀v,v∈bV u->(f v).head.length<=300/\(f v).words.length<=300):OkB (co q f u):=by
 refine hu.with λv C hv hq hp=>?_
 have e:cG (f v)=cG v:=by grind[mC]
 rw[e];refine⟨hp.nodup_iff.1 hu.nd,by rw[<-hp.length_eq,<-je];exact hu.n,λx hx=>?_⟩;rw[b8]at hx;rcases dO.1 hx with rfl|hx
 ·simp_all
 ·rw[(h1 v).2]at hx;obtain⟨k,k1,k2⟩:=kK hx;grind[dD,bi,cases OkB]
theorem VZ{v x y:TUnit}{i:Nat}(h:y∈bV (dn i x v)):y=dn i x v\/y∈bV x\/y∈bV v:=by
 rw[b8]at h;rcases dO.1 h with rfl|h
 ·simp_all
 ·obtain⟨k,k1,k2⟩:=kK h;have k1:k∈v.kids.take i++(x::v.kids.drop i):=k1;rcases ie.1 k1 with q|q
  ·grind[bi]
  ·grind[bi]
theorem OkB.ins{u x:TUnit}(hu:OkB u){q:PId}{i:Nat}(hx:(cG x).Nodup)(hd:∀p,p∈cG x->p∉cG u)(hn:nU u+nU x<=1024)(hw:∀y,y∈bV x->y.head.length<=300/\y.words.length<=300):OkB (co q (dn i x) u):=by
 refine hu.with λv C hv hq hp=>?_
 have h1:(C++cG (dn i x v)).Perm (cG u++cG x):=((Ei C V0).trans (by grind))
 refine⟨h1.nodup_iff.2 (zi.2 ⟨hu.nd,hx,λa ha b hb e=>hd b hb (e▸ha)⟩),by rw[h1.length_eq,eA,<-je,<-je];omega,λy hy=>?_⟩;rcases VZ hy with rfl|h|h
 ·exact hu.w v hv
 all_goals grind[dD,cases OkB]
theorem MG{v y:TUnit}{i:Nat}(h:y∈bV (ee i v)):y=ee i v\/y∈bV v:=by
 rw[b8]at h;rcases dO.1 h with rfl|h
 ·simp_all
 ·obtain⟨k,k1,k2⟩:=kK h;exact .inr (bi (List.mem_of_mem_eraseIdx (show k∈v.kids.eraseIdx i from k1)) k2)
theorem OkB.del{u v:TUnit}(hu:OkB u){i:Nat}(hv:v∈bV u)(hi:i<v.kids.length):OkB (co (aF v) (ee i) u)/\(cG u).Perm (cG (co (aF v) (ee i) u)++cG (gD v.kids i)):=by
 obtain⟨v',C,h1,h2,h3,h4⟩:=tX u (ma hv);obtain rfl:=hu.uni h1 hv h2;obtain⟨h5,h6⟩:=h4 (ee i);have h7:(cG u).Perm (cG (co (aF v') (ee i) u)++cG (gD v'.kids i)):=h3.trans ((Ei C (V1 hi)).trans (by grind));have hnd:=h7.nodup_iff.1 hu.nd;refine⟨⟨(zi.1 hnd).1,?_,λx hx=>?_⟩,h7⟩
 ·have:=h7.length_eq;grind[je,cases OkB]
 ·rcases h6 x hx with h|⟨y,y1,y2,y3,y4,y5⟩
  ·rcases MG h with rfl|h
   ·exact hu.w v' hv
   grind[dD,cases OkB]
  grind[cases OkB]
theorem Gk{q:PId}{f:TUnit->TUnit}:∀u:TUnit,bG q u=true->∃v,v∈bV u/\aF v=q/\f v∈bV (co q f u):=by
 refine TUnit.ind λu ih h=>?_
 cases hi:gQ q u with
 |true=>grind[dU,fS,rE]
 | false=>
  rw [m7 hi];have key:∀r:lad,(∀k,k∈r->k∈u.kids)->(∃k,k∈r/\bG q k=true)->∃v,v∈bx r/\aF v=q/\f v∈bx (eC q f r):=by
   intro r;induction r with
   |nil=>grind
   | cons k r ihr=>
    intro hs ⟨y,hy,hyq⟩;rw[iX,bz];cases hk:bG q k with
    |true=>grind[bz]
    |false=>
     rcases dO.1 hy with rfl|hy
     ·grind
     ·obtain⟨v,a,b,c⟩:=ihr (λk hk=>hs k (di _ hk)) ⟨y,hy,hyq⟩;grind[bz]
  have hx:=iH h;have hne:cH q u≠u:=λe=>by grind[fS]
  have hm:cH q u∈bx u.kids:=by grind[b8]
  obtain⟨k,k1,k2⟩:=kK hm;obtain⟨v,a,b,c⟩:=key u.kids (λ_ h=>h) ⟨k,k1,mD k ⟨_,k2,hx.2⟩⟩;grind[b8,xo]
theorem Sf{u q:TUnit}(hu:OkB u){i:Nat}(hq:q∈bV u)(hi:i<q.kids.length){p t:PId}{w:Int}{anc bs:Bool}(ht:bG t u=true){ok:Bool}
  (he:(nO p t (aF q) (Int.ofNat i) ok anc bs (cD w u t).1 (cD w u t).2).2=0):
  F9 (co (aF q) (ee i) u) (nO p t (aF q) (Int.ofNat i) ok anc bs (cD w u t).1 (cD w u t).2).1:=by
 obtain⟨hr,_⟩:=hu.del hq hi;obtain⟨v',C,h1,h2,h3,h4⟩:=tX u (ma hq);obtain rfl:=hu.uni h1 hq h2;obtain⟨_,h6⟩:=h4 (ee i);have hlen:(ee i v').kids.length=v'.kids.length-1:=List.length_eraseIdx_of_lt hi;have own:∀v,v∈bV (co (aF v') (ee i) u)->aF v=aF v'->v.kids.length=v'.kids.length-1:=λv hv e=>by
  obtain⟨z,z1,z2,z3⟩:=Gk (q:=aF v') (f:=ee i) u (ma hq);obtain rfl:=hu.uni z1 hq z2;rw[hr.uni hv z3 (e.trans rfl)];omega
 have oth:∀v,v∈bV (co (aF v') (ee i) u)->aF v≠aF v'->∃y,y∈bV u/\aF v=aF y/\v.kids.length=y.kids.length:=λv hv hne=>by
  rcases h6 v hv with h|⟨y,y1,y2,y3,_⟩
  ·rcases MG h with rfl|h
   ·exact absurd rfl hne
   ·exact⟨v,dD hq h,rfl,rfl⟩
  grind
 have hk:=bB v';have hb:=dT hq;have hn:=hu.n;unfold nO at he ⊢;cases c1:(ak ok||((ak (ao t p)&&anc)||(ao t p&&ak bs)))with
 |true=>grind
 | false=>
  rw[c1]at he;simp only[cond_false]at he ⊢;cases c2:ao t p with
  |true=>
   refine⟨i,rfl,by omega,λv hv hid=>?_⟩;grind[fS]
  | false=>
   rw[c2]at he;simp only[cond_false]at he ⊢;have e0:(cD w u t).2=0:=by grind
   obtain⟨n,n1,n2,n3⟩:=Hg hu ht e0;rw[e0,n1];cases c4:ao (cD w u t).1.id (aF v')with
   |false=>
    have hne:(cD w u t).1.id≠aF v':=λe=>by grind[gi]
    rw[show(ae 0 0&&(false&&aE (Int.ofNat i) (Int.ofNat n)))=false from rfl];refine⟨n,n1,n2,λv hv hid=>?_⟩;grind[fS]
   | true=>
    have heq:=pI c4;have hn':=n3 v' hq ((fS _ v').2 heq.symm);cases c5:aE (Int.ofNat i) (Int.ofNat n)with
    |true=>
     have c5:=ap c5;simp only[aT]at c5;rw[show(ae 0 0&&(true&&true))=true from rfl];refine⟨n-1,by grind,by omega,λv hv hid=>?_⟩;grind[fS]
    |false=>
     have c5:=aI c5;simp only[aT]at c5;rw[show(ae 0 0&&(true&&false))=false from rfl];refine⟨n,n1,n2,λv hv hid=>?_⟩;grind[fS]
def zN(a i:Int)(n k:Nat):lam:=(List.range' (n+1) k).map λj=>⟨a,i,Int.ofNat j⟩
mutual
theorem rO(a i:Int):∀(u:TUnit)(n w:Nat),cG (cP a i u n w)=zN a i n (nU u)
 |⟨a',i',n',k,l,h,ws,ks⟩,n,w=>by
  rw[mC,cP,nU];show _::io (ft a i ks (n+1) _)=_
  rw[zL a i ks (n+1)];unfold zN;rw[Nat.add_comm 1 (eB ks),CL,eT];rfl
theorem zL(a i:Int):∀(l:lad)(n w:Nat),io (ft a i l n w)=zN a i n (eB l)
 |[],n,w=>by rw[ft,eB,sJ];rfl
 |k::r,n,w=>by
  rw[ft,eB,fT,rO a i k n w,zL a i r (n+nU k)];unfold zN;rw[<-mT,show n+nU k+1=n+1+nU k by omega,<-List.range'_append_1]
end
theorem QL(a i:Int)(n k:Nat):(zN a i n k).Nodup:=by
 unfold zN;exact List.Pairwise.map _ (λx y hne e=>hne (Int.ofNat.inj (congrArg PId.n e))) List.nodup_range'
mutual
theorem L7(a i:Int)(B:Nat):∀(u:TUnit)(n w:Nat),(∀x,x∈bV u->x.head.length<=B/\x.words.length<=B)->∀x,x∈bV (cP a i u n w)->x.head.length<=B/\x.words.length<=B
 |⟨a',i',n',k,l,h,ws,ks⟩,n,w,hB,x,hx=>by
  rw[cP,bV]at hx;rcases dO.1 hx with rfl|hx
  ·have:=hB _ (by rw[bV];exact dr);exact⟨by show(c9 _ _ _ _).length<=B;rw[gz,cK,cw];exact this.1,by show(c9 _ _ _ _).length<=B;rw[gz,cK,cw];exact this.2⟩
  ·exact Gn a i B ks _ _ (λy hy=>hB y (by rw[bV];exact di _ hy)) x hx
theorem Gn(a i:Int)(B:Nat):∀(l:lad)(n w:Nat),(∀x,x∈bx l->x.head.length<=B/\x.words.length<=B)->∀x,x∈bx (ft a i l n w)->x.head.length<=B/\x.words.length<=B
 |[],n,w,hB,x,hx=>by rw[ft,bx]at hx;cases hx
 |k::r,n,w,hB,x,hx=>by
  rw[ft,bx]at hx;rcases ie.1 hx with hx|hx
  ·exact L7 a i B k _ _ (λy hy=>hB y (by rw[bx];exact ux _ hy)) x hx
  ·exact Gn a i B r _ _ (λy hy=>hB y (by rw[bx];exact qJ _ hy)) x hx
end
theorem zM(a i:Int)(u:TUnit)(n w:Nat):nU (cP a i u n w)=nU u:=by grind[je,rO,zN]
variable{u v x:TUnit}{q:PId}{f:TUnit->TUnit}{a i:Int}
def fl{α:Type}(g:TUnit->List α)(u:TUnit):List α:=(bV u).flatMap g
def Jc{α:Type}(g:TUnit->List α)(l:lad):List α:=(bx l).flatMap g
section
variable{α:Type}{g:TUnit->List α}
theorem xP(u:TUnit):fl g u=g u++Jc g u.kids:=by grind[fl,Jc,b8]
theorem Wq:Jc g []=[]:=by unfold Jc;rw[ef];rfl
theorem ni(k:TUnit)(r:lad):Jc g (k::r)=fl g k++Jc g r:=by grind[fl,Jc,bz]
theorem NA(l m:lad):Jc g (l++m)=Jc g l++Jc g m:=by
 induction l with
 |nil=>rw[Wq];rfl
 |cons k r ih=>grind[ni]
theorem Em(hg:∀u ks,g (j5 u ks)=g u):∀u:TUnit,bG q u=true->∃v C,v∈bV u/\aF v=q/\(fl g u).Perm (C++fl g v)/\∀f,(fl g (co q f u)).Perm (C++fl g (f v)):=TUnit.ind λu ih h=>by
 cases hi:gQ q u with
 |true=>exact⟨u,[],dU u,(fS q u).1 hi,.refl _,λf=>by simp_all[rE]⟩
 | false=>
  have key:∀r:lad,(∀k,k∈r->k∈u.kids)->ca q r≠[]->∃v C,v∈bx r/\aF v=q/\(Jc g r).Perm (C++fl g v)/\∀f,(Jc g (eC q f r)).Perm (C++fl g (f v)):=by
   intro r;induction r with
   |nil=>intro _ hw;rw[kZ]at hw;simp_all
   | cons k r ihr=>
    intro hm hw;cases hk:bG q k with
    |true=>
     obtain⟨v,C,h1,h2,h3,h4⟩:=ih k (hm k (dr ..)) hk;refine⟨v,Jc g r++C,by grind[bz],h2,?_,λf=>?_⟩
     ·rw[ni,iQ];exact Qk.trans (h3.append_left _)
     ·rw[iX,hk,cond_true,ni,iQ];exact Qk.trans ((h4 f).append_left _)
    |false=>
     rw[gF hk]at hw;obtain⟨v,C,h1,h2,h3,h4⟩:=ihr (λx hx=>hm x (di _ hx)) hw;refine⟨v,fl g k++C,by grind[bz],h2,?_,λf=>?_⟩
     ·rw[ni,iQ];exact h3.append_left _
     ·rw[iX,hk,cond_false,ni,iQ];exact(h4 f).append_left _
  have hw:ca q u.kids≠[]:=by
   intro e;have:=jN h;rw[f9,hi,e]at this;simp_all
  obtain⟨v,C,h1,h2,h3,h4⟩:=key u.kids (λ_ h=>h) hw;refine⟨v,g u++C,by grind[b8],h2,by rw[xP,iQ];exact h3.append_left _,λf=>?_⟩;rw[m7 hi,xP,hg,iQ];exact(h4 f).append_left _
theorem ZQ(hg:∀u ks,g (j5 u ks)=g u){j:Nat}:(fl g (dn j x v)).Perm (fl g v++fl g x):=by
 rw[xP v];unfold dn vj;rw[xP,hg,iQ];refine Ei _ ?_;show(Jc g (v.kids.take j++(x::v.kids.drop j))).Perm _
 grind[NA,ni,List.take_append_drop,List.perm_append_comm]
theorem ZZ(hg:∀u ks,g (j5 u ks)=g u){j:Nat}(h:j<v.kids.length):(fl g v).Perm (fl g (ee j v)++fl g (gD v.kids j)):=by
 rw[xP v];unfold ee;rw[xP,hg,iQ];refine Ei _ ?_;show(Jc g v.kids).Perm (Jc g (v.kids.eraseIdx j)++_)
 have e:v.kids=v.kids.take j++(gD v.kids j::v.kids.drop (j+1)):=by grind[gD,List.drop_eq_getElem_cons,List.take_append_drop]
 grind[NA,ni,List.Perm.append_left,List.perm_append_comm]
end
variable{l:lag}{old new part:laj}{n:Int}
end Go.Ev
namespace Go.Ev
open Go
theorem Nl{K:Type}{keq:K->K->Bool}(ht:∀a b,keq a b=true->a=b)(hr:∀a,keq a a=true)(k p:K):∀m:List (K×Bool),qp keq k (cQ keq p true m)=(keq k p||qp keq k m)
 |[]=>by
  simp only[cQ,qp,mE];grind
 | (j,v)::r=>by
  have ih:=Nl ht hr k p r;unfold qp at ih ⊢;cases h1:keq p j with
  |true=>
   have e:=ht _ _ h1;subst e;rw[show cQ keq p true ((p,v)::r)=(p,true)::r by grind[cQ]];simp only[mE];grind
  |false=>
   rw[show cQ keq p true ((j,v)::r)=(j,v)::cQ keq p true r by grind[cQ]];simp only[mE];grind
variable{u v x:TUnit}{q:PId}{f:TUnit->TUnit}{a i:Int}
end Go.Ev
namespace Go.Ev
open Go
def tf(u:TUnit):List (PId×bZ×lag×lag):=[(aF u,u.label,u.head,u.words)]
theorem oE(u:TUnit)(ks:lad):tf (j5 u ks)=tf u:=rfl
theorem VW(u:TUnit):(fl tf u).map (·.1)=cG u:=by
 unfold fl cG;induction bV u with
 |nil=>rfl
 |cons x r ih=>simp_all[CD,tf]
theorem MN{u:TUnit}{c:PId×bZ×lag×lag}(h:c∈fl tf u):c.1∈cG u:=by rw[<-VW];exact xq h
def Un(A:lam)(u v:TUnit):Prop:=∀c,c.1∉A->(c∈fl tf u↔c∈fl tf v)
section
variable{A:lam}{u v x q:TUnit}{p t:PId}{f:TUnit->TUnit}{i j:Nat}{w:Int}
theorem Un.refl:Un A u u:=λ_ _=>.rfl
theorem vz(h:bG p u=true):(fl tf (co p (dn j x) u)).Perm (fl tf u++fl tf x):=by
 obtain⟨v,C,h1,h2,h3,h4⟩:=Em oE u h;refine(h4 _).trans (((ZQ oE).append_left C).trans ?_);rw[<-iQ];exact h3.symm.append_right _
theorem X8:Un (cG x) u (co p (dn j x) u):=by
 cases h:bG p u with
 |false=>rw[tJ u h];exact .refl
 |true=>
  intro c hc;rw[(vz h).mem_iff,ie];exact⟨.inl,λh=>h.resolve_right λh=>hc (MN h)⟩
theorem vf(hu:OkB u)(hv:v∈bV u)(hi:i<v.kids.length):(fl tf u).Perm (fl tf (co (aF v) (ee i) u)++fl tf (gD v.kids i)):=by
 obtain⟨v',C,h1,h2,h3,h4⟩:=Em oE u (ma hv);obtain rfl:=hu.uni h1 hv h2;refine h3.trans (((ZZ oE hi).append_left C).trans ?_);rw[<-iQ];exact(h4 _).symm.append_right _
theorem X9(hu:OkB u)(hv:v∈bV u)(hi:i<v.kids.length):Un (cG (gD v.kids i)) u (co (aF v) (ee i) u):=λc hc=>by
 rw[(vf hu hv hi).mem_iff,ie];exact⟨λh=>h.resolve_right λh=>hc (MN h),.inl⟩
theorem Ep(hf:∀v,aF (f v)=aF v/\(f v).kids=v.kids):Un [p] u (co p f u):=by
 cases h:bG p u with
 |false=>rw[tJ u h];exact .refl
 |true=>
  obtain⟨v,C,h1,h2,h3,h4⟩:=Em oE u h;intro c hc;rw[h3.mem_iff,(h4 f).mem_iff,xP,xP,(hf v).2];have e:=(hf v).1;simp only[ie,tf,jr]at *;grind
theorem Uc:∀u:TUnit,(cG u).Nodup->∀y,x∈bV u->y∈bx x.kids->aF y=p->x∈(aL p u).take ((aL p u).length -1):=TUnit.ind λu ih hn y hx hy hp=>by
 have hyx:y∈bV x:=by rw[b8];exact di _ hy
 rw [mC,List.nodup_cons]at hn;have hi:gQ p u=false:=by
  cases hi:gQ p u with
  |false=>rfl
  | true=>
   have hyu:y∈bx u.kids:=by
    rw[b8]at hx;rcases dO.1 hx with rfl|hx
    ·exact hy
    ·obtain⟨k,k1,k2⟩:=kK hx;exact wD k1 (dD k2 hyx)
   exact absurd (by rw[(fS p u).1 hi,<-hp];exact xq hyu) hn.1
 have key:∀r:lad,(∀k,k∈r->k∈u.kids)->(io r).Nodup->x∈bx r->x∈(ca p r).take ((ca p r).length -1):=by
  intro r;induction r with
  |nil=>intro _ _ h;rw[ef]at h;cases h
  | cons k r ihr=>
   intro hm hd hx;rw[fT,zi]at hd;rw[bz,ie]at hx;cases hk:bG p k with
   |true=>
    rw[m8 hk];rcases hx with hx|hx
    ·exact ih k (hm k (dr ..)) hd.1 y hx hy hp
    ·obtain⟨k',k1,k2⟩:=kK hx;have h1:=iH hk;exact absurd rfl (hd.2.2 p (h1.2▸xq h1.1) p (hp▸xq (wD k1 (dD k2 hyx))))
   |false=>
    rw[gF hk];refine ihr (λk h=>hm k (di _ h)) hd.2.1 (hx.resolve_left λh=>?_);rw[mD k ⟨y,dD h hyx,hp⟩]at hk;cases hk
 have hne:bG p u=true:=mD u ⟨y,dD hx hyx,hp⟩;have e:=jN hne;rw[f9,hi]at e ⊢;rw[b8]at hx;cases ew:ca p u.kids with
 |nil=>rw[ew]at e;exact absurd rfl e
 |cons z l=>
  show x∈(u::z::l).take ((z::l).length+1-1)
  rw[Nat.add_sub_cancel,show(z::l).length=l.length+1 from rfl,List.take_succ_cons];rcases dO.1 hx with rfl|hx
  ·exact dr ..
  ·have:=key u.kids (λ_ h=>h) hn.2 hx;rw[ew]at this;exact di _ this
theorem Se(hu:OkB u)(hq:q∈bV u)(hi:i<q.kids.length)(ht:bG t u=true){ok bs:Bool}
  (he:(nO (aF (gD q.kids i)) t (aF q) (Int.ofNat i) ok ((mH t u).any (ao (aF (gD q.kids i)))) bs (cD w u t).1 (cD w u t).2).2=0):
  bG (nO (aF (gD q.kids i)) t (aF q) (Int.ofNat i) ok ((mH t u).any (ao (aF (gD q.kids i)))) bs (cD w u t).1 (cD w u t).2).1.id (co (aF q) (ee i) u)=true:=by
 have hpm:=(hu.del hq hi).2;have hx:gD q.kids i∈bV u:=dD hq (bi (eP hi) (dU _));generalize gD q.kids i=x at *;have far:∀z,z∈bV u->(z∈bV x->False)->bG (aF z) (co (aF q) (ee i) u)=true:=λz hz h=>by
  rcases ie.1 (hpm.mem_iff.1 (xq (f:=aF) hz))with m|m
  ·obtain⟨y,y1,y2⟩:=iO.1 m;exact mD _ ⟨y,y1,y2⟩
  ·obtain⟨y,y1,y2⟩:=iO.1 m;exact absurd (hu.uni (dD hx y1) hz y2▸y1) h
 unfold nO at he ⊢;cases c1:(ak ok||((ak (ao t (aF x))&&(mH t u).any (ao (aF x)))||(ao t (aF x)&&ak bs)))with
 |true=>rw[c1]at he;simp only[cond_true]at he;cases he
 | false=>
  rw[c1]at he;simp only[cond_false]at he ⊢;cases c2:ao t (aF x)with
  |true=>
   simp only[cond_true];obtain⟨v,v1,v2,v3⟩:=Gk (q:=aF q) (f:=ee i) u (ma hq);exact mD _ ⟨_,v3,v2⟩
  | false=>
   rw[c2]at he c1;simp only[cond_false]at he ⊢;have e0:(cD w u t).2=0:=by grind
   have e1:∀b:Bool,(bif b then((⟨(cD w u t).1.id,(cD w u t).1.at_ -1⟩:PSpot),(cD w u t).2)else((cD w u t).1,(cD w u t).2)).1.id=(cD w u t).1.id:=λb=>by cases b<;>rfl
   rw[e1];have hanc:(mH t u).any (ao (aF x))=false:=by
    cases h:(mH t u).any (ao (aF x))with
    |false=>rfl
    |true=>rw[h]at c1;simp[ak]at c1
   obtain⟨t1,t2⟩:=iH ht;have hnt:∀y,y∈bV x->aF y=t->False:=λy hy e=>by
    rw[b8]at hy;rcases dO.1 hy with rfl|hy
    ·rw[e,gi]at c2;cases c2
    ·have z:=Uc u hu.nd y hx hy e;rw[List.any_eq_false]at hanc;refine hanc (aF x) ?_ (gi _);unfold mH;rw[List.mem_reverse];exact xq z
   have hT:bG t (co (aF q) (ee i) u)=true:=by
    have:=far _ t1 λh=>hnt _ h t2
    rwa[t2]at this
   have hP:∀n,(kO u t n).2=0->bG (kO u t n).1.id (co (aF q) (ee i) u)=true:=λn hn=>by
    unfold kO at hn ⊢;cases h:jg t u with
    |false=>rw[h]at hn;cases hn
    |true=>
     obtain⟨P,k,k1,k2,k3,k4,k5⟩:=rS u h;show bG (si t u) _=true
     rw[k2];exact far P k1 λhh=>hnt _ (dD hh (bi (eP k4) (dU _))) k5
   unfold cD at e0 ⊢;cases h0:ae w 0 with
   |true=>exact hT
   | false=>
    rw[h0]at e0;simp only[cond_false]at e0 ⊢;cases h1:ae w 1 with
    |true=>exact hT
    |false=>
     rw[h1]at e0;simp only[cond_false]at e0 ⊢;cases h2:ae w 2 with
     |true=>rw[h2]at e0;exact hP 1 e0
     |false=>rw[h2]at e0;exact hP 0 e0
theorem X7(hu:OkB u)(hq:q∈bV u)(hi:i<q.kids.length)(h:bG p (co (aF q) (ee i) u)=true):Un A u (co p (dn j (gD q.kids i)) (co (aF q) (ee i) u)):=λc _=>by rw[(vf hu hq hi).mem_iff,(vz h).mem_iff]
theorem MS(hu:OkB u){c:PId×bZ×lag×lag}:c∈fl tf u↔bG c.1 u=true/\(cH c.1 u).label=c.2.1/\(cH c.1 u).head=c.2.2.1/\(cH c.1 u).words=c.2.2.2:=by
 unfold fl;rw[List.mem_flatMap];constructor
 ·rintro⟨y,y1,y2⟩
  obtain rfl:=jr.1 y2;have h:=ma y1;have e:=hu.uni (iH h).1 y1 (iH h).2;show bG (aF y) u=true/\(cH (aF y) u).label=_/\(cH (aF y) u).head=_/\(cH (aF y) u).words=_
  rw[e];exact⟨h,rfl,rfl,rfl⟩
 ·rintro⟨h,h1,h2,h3⟩
  refine⟨_,(iH h).1,jr.2 ?_⟩;rw[(iH h).2,h1,h2,h3]
theorem Un.find(hu:OkB u)(hv:OkB v)(h:Un A u v)(hp:p∉A):bG p u=bG p v/\(cH p u).label=(cH p v).label/\(cH p u).head=(cH p v).head/\(cH p u).words=(cH p v).words:=by
 have k:=λa b c=>h (p,a,b,c) hp
 simp only[MS hu,MS hv]at k;cases h1:bG p u with
 |true=>
  have:=(k _ _ _).1 ⟨h1,rfl,rfl,rfl⟩;exact⟨this.1.symm,this.2.1.symm,this.2.2.1.symm,this.2.2.2.symm⟩
 |false=>
  cases h2:bG p v with
  |true=>have:=(k _ _ _).2 ⟨h2,rfl,rfl,rfl⟩;rw[h1]at this;exact absurd this.1 (by decide)
  |false=>unfold cH;rw[h1,h2];exact⟨rfl,rfl,rfl,rfl⟩
end
end Go.Ev
