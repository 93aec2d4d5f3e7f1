/- An abstract machine for runs of the program, proved sound against the model: part 7. No conditions. -/
import Derived.Test.YtjokefckffbpeaaGreatDoorMach6
import Derived.Laws.Externs
import Derived.Lib.Join
import Derived.Lib.Repeat
namespace Go.Ev
open Go
section
variable{a i:Int}{l r x:List aT}{s:aT}{m:List PWord}{j n k:Nat}
theorem sH(h1:l.drop j=x)(h2:x=s::r)(h3:s::r=l):1=[(⟨s,a,i,.ofNat (n+j)⟩:PWord)].length∧0<[(⟨s,a,i,.ofNat (n+j)⟩:PWord)].length∧[(⟨s,a,i,.ofNat (n+j)⟩:PWord)]++cC a i r (n+[(⟨s,a,i,.ofNat (n+j)⟩:PWord)].length)=cC a i l n∧[(⟨s,a,i,.ofNat (n+j)⟩:PWord)].length+r.length=l.length:=by
 have e:=congrArg List.length (h1.trans h2);have e2:=congrArg List.length h3;simp only[tV,cT]at e e2;have:j=0:=by omega
 subst this;refine⟨rfl,Nat.one_pos,?_,by grind⟩;rw[←h3,cC];rfl
theorem vE(h1:l.drop j=x)(h2:x=s::r)(h:k=m.length∧0<m.length∧m++cC a i (s::r) (n+m.length)=cC a i l n∧m.length+(s::r).length=l.length):
  k+1=(m++[(⟨s,a,i,.ofNat (n+j)⟩:PWord)]).length∧0<(m++[(⟨s,a,i,.ofNat (n+j)⟩:PWord)]).length∧(m++[(⟨s,a,i,.ofNat (n+j)⟩:PWord)])++cC a i r (n+(m++[(⟨s,a,i,.ofNat (n+j)⟩:PWord)]).length)=cC a i l n∧(m++[(⟨s,a,i,.ofNat (n+j)⟩:PWord)]).length+r.length=l.length:=by
 have e:=congrArg List.length (h1.trans h2);obtain⟨q1,q2,q3,q4⟩:=h;simp only[tV,cT]at e q4;have:j=m.length:=by omega
 subst this;simp only[dI,cT,gL];refine⟨by omega,by omega,?_,by omega⟩;rw[←q3,cC,nh];rfl
end
theorem gN(l:List PWord):(b7 l).length=l.length:=cQ ..
structure StampI(a i:Int)(ks:List TUnit)(n0 w0:Nat)(k n w:Nat)(m:List TUnit):Prop where
 len:m.length=k
 le:k≤ks.length
 all:m++fW a i (ks.drop k) n w=fW a i ks n0 w0
 num:n+eV (ks.drop k)=n0+eV ks
 wd:w+(kH (ks.drop k)).length=w0+(kH ks).length
theorem StampI.start(a i:Int)(ks:List TUnit)(n0 w0:Nat):StampI a i ks n0 w0 0 n0 w0 []:=⟨rfl,bN _,rfl,rfl,rfl⟩
theorem StampI.step{a i:Int}{ks:List TUnit}{n0 w0 k n w:Nat}{m:List TUnit}(h:StampI a i ks n0 w0 k n w m)(hk:k<ks.length):
  StampI a i ks n0 w0 (k+1) (n+nU (gD ks k)) (w+(nq (gD ks k)).length) (m++[c9 a i (gD ks k) n w]):=by
 have e:=yx hk;obtain⟨h1,h2,h3,h4,h5⟩:=h;rw[e,Dv]at h3;rw[e,be]at h4;rw[e,tZ,dI]at h5;exact⟨by simp_all,hk,by simp_all,by omega,by omega⟩
theorem StampI.done{a i:Int}{ks:List TUnit}{n0 w0 k n w:Nat}{m:List TUnit}(h:StampI a i ks n0 w0 k n w m)(hk:¬k<ks.length):m=fW a i ks n0 w0∧n=n0+eV ks∧w=w0+(kH ks).length:=by grind[FV,mq,DY,cases StampI]
theorem WG{α:Type}[Inhabited α]{m r:List α}{k:Nat}(h:m.length=k):gD (m++r) k=gD r 0:=by grind[gD]
theorem Uq{α:Type}[Inhabited α]{l:List α}{k:Nat}:gD (l.drop k) 0=gD l k:=by simp_all[gD]
theorem S2{α:Type}{m r:List α}{k:Nat}{x y:α}(h:m.length=k):(m++x::r).set k y=(m++[y])++r:=by simp_all
def gv(a i:Int)(ks:List TUnit)(n0 w0 k n w:Nat)(L:List TUnit):Prop:=∃m,L=m++ks.drop k∧StampI a i ks n0 w0 k n w m
section
variable{a i:Int}{ks L:List TUnit}{n0 w0 k n w:Nat}
theorem gv.start(a i:Int)(ks:List TUnit)(n0 w0:Nat):gv a i ks n0 w0 0 n0 w0 ks:=⟨[],rfl,StampI.start ..⟩
theorem gv.len(h:gv a i ks n0 w0 k n w L):L.length=ks.length:=by
 obtain⟨m,rfl,hI⟩:=h;grind[cases StampI]
theorem gv.at_(h:gv a i ks n0 w0 k n w L):gD L k=gD ks k:=by
 obtain⟨m,rfl,hI⟩:=h;rw[WG hI.len,Uq]
theorem gv.step(h:gv a i ks n0 w0 k n w L)(hk:k<ks.length):gv a i ks n0 w0 (k+1) (n+nU (gD L k)) (w+(nq (gD L k)).length) (L.set k (c9 a i (gD L k) n w)):=by
 rw[h.at_];obtain⟨m,rfl,hI⟩:=h;exact⟨m++[c9 a i (gD ks k) n w],by rw[yx hk,S2 hI.len],hI.step hk⟩
theorem gv.num(h:gv a i ks n0 w0 k n w L):n+eV (ks.drop k)=n0+eV ks∧w+(kH (ks.drop k)).length=w0+(kH ks).length:=by
 obtain⟨m,rfl,hI⟩:=h;grind[cases StampI]
theorem gv.done(h:gv a i ks n0 w0 k n w L)(hk:¬k<ks.length):L=fW a i ks n0 w0∧n=n0+eV ks∧w=w0+(kH ks).length:=by
 obtain⟨m,rfl,hI⟩:=h;rw[EH (by omega),ec];exact hI.done hk
theorem gv.room(h:gv a i ks n0 w0 k n w L)(hk:k<ks.length):n+nU (gD L k)≤n0+eV ks∧w+(nq (gD L k)).length≤w0+(kH ks).length:=by
 have h1:=h.num;rw[h.at_];grind[yx,be,tZ]
end
end Go.Ev
namespace Go.Ev
open Go
section
variable{α:Type}
structure TotB(lt:α→α→Bool):Prop where
 trans:∀x y z,lt y x=false→lt z y=false→lt z x=false
 asym:∀x y,lt x y=true→lt y x=false
variable{lt:α→α→Bool}
theorem TotB.down(T:TotB lt){x y z:α}(h1:lt z y=false)(h2:lt z x=true):lt y x=true:=by
 cases h:lt y x with
 |true=>rfl
 |false=>grind[cases TotB]
theorem TotB.up(T:TotB lt){x y z:α}(h1:lt x y=true)(h2:lt z y=false):lt x z=true:=by
 cases h:lt x z with
 |true=>rfl
 |false=>grind[cases TotB]
end
section
variable{α:Type}[Inhabited α]{lt:α→α→Bool}{l x y z w:List α}{a b m n i j k s e p d:Nat}
theorem vR(h:l.length≤i):gD l i=default:=by grind[gD]
theorem WF{v:α}(h:i<l.length):gD (l.set i v) k=if k=i then v else gD l k:=by
 unfold gD;grind
theorem rW(hi:i<l.length)(hj:j<l.length):((l.set i (gD l j)).set j (gD l i)).Perm l:=by grind[gD,List.set_set_perm]
theorem xM(hi:i<l.length)(hj:j<l.length)(q:Nat):gD ((l.set i (gD l j)).set j (gD l i)) q=if q=j then gD l i else if q=i then gD l j else gD l q:=by grind[WF]
def dn(lt:α→α→Bool)(l:List α)(a b:Nat):Prop:=∀i j,a≤i→i<j→j<b→lt (gD l j) (gD l i)=false
structure SSeg(lt:α→α→Bool)(l x:List α)(a b:Nat):Prop where
 perm:x.Perm l
 out:∀i,i<a∨b≤i→gD x i=gD l i
 src:∀i,a≤i→i<b→∃j,a≤j∧j<b∧gD x i=gD l j
 srt:dn lt x a b
theorem SSeg.len(h:SSeg lt l x a b):x.length=l.length:=h.perm.length_eq
theorem mo(h:dn lt l a b):SSeg lt l l a b:=⟨.refl _,fun _ _=>rfl,fun i h1 h2=>⟨i,h1,h2,rfl⟩,h⟩
theorem SSeg.cast{p q:Nat}(h:SSeg lt l x p q)(hp:p=a)(hq:q=b):SSeg lt l x a b:=by simp_all
theorem dn.nil(h:b≤a+1):dn lt l a b:=fun i j _ _ _=>by omega
theorem dn.sub(h:dn lt l a b)(h1:a≤i)(h2:j≤b):dn lt l i j:=fun p q e1 e2 e3=>h p q (by omega) e2 (by omega)
theorem dn.le(T:TotB lt)(h:dn lt l a b)(h1:a≤i)(h2:i≤j)(h3:j<b):lt (gD l j) (gD l i)=false:=by
 rcases fy i j with q|q
 ·exact h i j h1 q h3
 grind[cases TotB]
structure InsI(lt:α→α→Bool)(l x:List α)(a i j:Nat):Prop where
 perm:x.Perm l
 out:∀q,q<a∨i+1≤q→gD x q=gD l q
 src:∀q,a≤q→q<i+1→∃p,a≤p∧p<i+1∧gD x q=gD l p
 mid:∀p q,a≤p→p<q→q≤i→q≠j→lt (gD x q) (gD x p)=false
theorem InsI.start(h:SSeg lt l x a (min i b))(h1:i<b):InsI lt l x a i i:=by
 rw[show min i b=i by omega]at h;refine⟨h.perm,fun q hq=>h.out q (by omega),fun q h1 h2=>?_,fun p q h1 h2 h3 h4=>h.srt p q h1 h2 (by omega)⟩;grind[cases SSeg]
theorem InsI.step(T:TotB lt)(h:InsI lt l x a i j)(hi:i<l.length)(h1:a<j)(h2:j≤i)(hk:k+1=j)(hl:lt (gD x j) (gD x k)=true):InsI lt l ((x.set j (gD x k)).set k (gD x j)) a i k:=by
 have hx:x.length=l.length:=h.perm.length_eq;have hj:j<x.length:=by omega
 have hkx:k<x.length:=by omega
 have g:=xM hj hkx;refine⟨(rW hj hkx).trans h.perm,fun q hq=>?_,fun q q1 q2=>?_,fun p q h3 h4 h5 h6=>?_⟩
 ·rw[g,if_neg (by omega),if_neg (by omega)];exact h.out q hq
 ·rw[g];split
  ·grind[cases InsI]
  ·split
   ·grind[cases InsI]
   ·exact h.src q q1 q2
 ·rw[g,g];rw[if_neg (show ¬q=k by omega)];by_cases c1:q=j
  ·rw[if_pos c1];by_cases c2:p=k
   ·rw[if_pos c2];exact T.asym _ _ hl
   ·grind[cases InsI]
  ·rw[if_neg c1];by_cases c2:p=k
   ·grind[cases InsI]
   ·rw[if_neg c2];by_cases c3:p=j
    ·grind[cases InsI]
    ·rw[if_neg c3];exact h.mid p q h3 h4 h5 c1
theorem InsI.stop(T:TotB lt)(h:InsI lt l x a i j)(ha:a≤j)(h2:j≤i)(hb:i<b)(hs:s=i+1)(hl:j=a∨∃k,k+1=j∧lt (gD x j) (gD x k)=false):SSeg lt l x a (min s b):=by
 rw[show min s b=i+1 by omega];refine⟨h.perm,h.out,h.src,fun p q h3 h4 h5=>?_⟩;grind[cases TotB,cases InsI]
theorem Na(hab:a≤b):SSeg lt l l a (min (a+1) b):=mo (dn.nil (by omega))
theorem Qi(h:SSeg lt l x a (min i b))(hi:b≤i):SSeg lt l x a b:=by simp_all
def sw(a b m i:Nat):Nat:=if a≤i∧i<a+m then i-a+b else if b≤i∧i<b+m then i-b+a else i
structure SwP(l x:List α)(a b m:Nat):Prop where
 perm:x.Perm l
 at_:∀i,i<l.length→gD x i=gD l (sw a b m i)
theorem SwP.len(h:SwP l x a b m):x.length=l.length:=h.perm.length_eq
theorem SwP.start:SwP l l a b 0:=⟨.refl _,fun i _=>by simp_all[sw,if_neg]⟩
theorem SwP.step(h:SwP l x a b k)(hk:k<m)(ha:a+m≤b)(hb:b+m≤l.length)(hi:i=a+k)(hj:j=b+k)(hs:s=k+1):SwP l ((x.set i (gD x j)).set j (gD x i)) a b s:=by
 subst hi hj hs;have hx:x.length=l.length:=h.perm.length_eq;have h1:a+k<x.length:=by omega
 have h2:b+k<x.length:=by omega
 refine⟨(rW h1 h2).trans h.perm,fun q hq=>?_⟩;rw[xM h1 h2];by_cases c1:q=b+k
 ·rw[if_pos c1,h.at_ _ (by omega)];congr 1;unfold sw;grind
 ·rw[if_neg c1];by_cases c2:q=a+k
  ·rw[if_pos c2,h.at_ _ (by omega)];congr 1;unfold sw;grind
  ·rw[if_neg c2,h.at_ _ (by omega)];congr 1;unfold sw;grind
theorem SwP.done(h:SwP l x a b k)(hk:k=m):SwP l x a b m:=hk▸h
def ro(a m b i:Nat):Nat:=if a≤i∧i<a+(b-m)then i-a+m else if a+(b-m)≤i∧i<b then i-(b-m)else i
structure RoP(l x:List α)(a m b:Nat):Prop where
 perm:x.Perm l
 at_:∀q,q<l.length→gD x q=gD l (ro a m b q)
theorem RoP.len(h:RoP l x a m b):x.length=l.length:=h.perm.length_eq
theorem RoP.cast{p q r:Nat}(h:RoP l x p q r)(hp:p=a)(hq:q=m)(hr:r=b):RoP l x a m b:=by simp_all
structure RoI(l x:List α)(a m b i j:Nat):Prop where
 perm:x.Perm l
 i0:0<i
 j0:0<j
 im:i≤m
 jn:m+j≤l.length
 at_:∀q,q<l.length→gD x (ro (m-i) m (m+j) q)=gD l (ro a m b q)
theorem RoI.len(h:RoI l x a m b i j):x.length=l.length:=h.perm.length_eq
theorem RoI.start(ha:a<m)(hm:m<b)(hb:b≤l.length)(hi:i=m-a)(hj:j=b-m):RoI l l a m b i j:=by
 subst hi hj;refine⟨.refl _,by omega,by omega,by omega,by omega,fun q _=>?_⟩;grind
theorem Vk(ham:a≤m)(hmb:m≤b)(hb:b≤n)(hi:i<n):ro a m b i<n:=by grind[ro]
theorem RoI.left{p q r:Nat}(h:RoI l x a m b i j)(hs:SwP x y p q r)(hp:p=m-i)(hq:q=m)(hr:r=j)(hij:j<i)(hk:k=i-j):RoI l y a m b k j:=by
 subst hk;subst hp;have hq:=hq.symm;subst hq;have hr:=hr.symm;subst hr;have hi:=h.im;have hj:=h.jn;have h0:=h.j0;refine⟨hs.perm.trans h.perm,by omega,h0,by omega,hj,fun q hq=>?_⟩;rw[hs.at_ _ (by rw[h.len];simp_all[Vk]),←h.at_ q hq];congr 1;unfold sw ro;grind
theorem RoI.right{p q r:Nat}(h:RoI l x a m b i j)(hs:SwP x y p q r)(hp:p=m-i)(hq:q=m+j-i)(hr:r=i)(hij:i<j)(hk:k=j-i):RoI l y a m b i k:=by
 subst hk;subst hp;have hq:=hq.symm;subst hq;have hr:=hr.symm;subst hr;have hi:=h.im;have hj:=h.jn;have h0:=h.i0;refine⟨hs.perm.trans h.perm,h0,by omega,hi,by omega,fun q hq=>?_⟩;rw[hs.at_ _ (by rw[h.len];exact Vk (by omega) (by omega) (by omega) hq),←h.at_ q hq];congr 1;unfold sw ro;by_cases c1:m-i≤q∧q<m-i+(m+(j-i)-m)
 ·grind
 ·rw[if_neg c1];by_cases c2:m-i+(m+(j-i)-m)≤q∧q<m+(j-i)
  ·grind
  ·rw[if_neg c2];grind
theorem RoI.stop{p q r:Nat}(h:RoI l x a m b i j)(hs:SwP x y p q r)(hp:p=m-i)(hq:q=m)(hr:r=i)(hij:i=j):RoP l y a m b:=by
 subst hij;subst hp;have hq:=hq.symm;subst hq;have hr:=hr.symm;subst hr;have hi:=h.im;have hj:=h.jn;refine⟨hs.perm.trans h.perm,fun q hq=>?_⟩;rw[hs.at_ _ (by rw[h.len];omega),←h.at_ q hq];congr 1;unfold sw ro;grind
theorem RoP.none(h:m≤a∨b≤m)(ham:a≤m)(hmb:m≤b):RoP l l a m b:=⟨.refl _,fun q _=>by
 congr 1;unfold ro;grind⟩
structure FstI(lt:α→α→Bool)(l:List α)(a m b i j:Nat):Prop where
 mi:m≤i
 ij:i≤j
 jb:j≤b
 lo:∀q,m≤q→q<i→lt (gD l q) (gD l a)=true
 hi:∀q,j≤q→q<b→lt (gD l q) (gD l a)=false
theorem FstI.start(h:m≤b):FstI lt l a m b m b:=⟨by omega,by omega,by omega,fun q _ _=>by omega,fun q _ _=>by omega⟩
theorem FstI.more(T:TotB lt)(h:FstI lt l a m b i j)(hs:dn lt l m b)(hl:lt (gD l k) (gD l a)=true)(h1:i≤k)(h2:k<j)(hk:e=k+1):FstI lt l a m b e j:=by
 subst hk;have:=h.mi;have:=h.jb;refine⟨by omega,by omega,h.jb,fun q q1 q2=>?_,h.hi⟩;exact T.down (hs.le T q1 (by omega) (by omega)) hl
theorem FstI.less(T:TotB lt)(h:FstI lt l a m b i j)(hs:dn lt l m b)(hl:lt (gD l k) (gD l a)=false)(h1:i≤k)(h2:k<j):FstI lt l a m b i k:=by
 have:=h.mi;have:=h.jb;refine⟨h.mi,by omega,by omega,h.lo,fun q q1 q2=>?_⟩;exact T.trans _ _ _ hl (hs.le T (by omega) q1 q2)
structure UpI(l x:List α)(a k:Nat):Prop where
 perm:x.Perm l
 at_:∀q,q<l.length→gD x q=gD l (if a≤q∧q<k then q+1 else if q=k then a else q)
theorem UpI.len(h:UpI l x a k):x.length=l.length:=h.perm.length_eq
theorem UpI.start:UpI l l a a:=⟨.refl _,fun q _=>by grind⟩
theorem UpI.step(h:UpI l x a k)(hk:a≤k)(hn:k+1<l.length)(he:e=k+1):UpI l ((x.set k (gD x e)).set e (gD x k)) a e:=by
 subst he;have hx:=h.len;have h1:k<x.length:=by omega
 have h2:k+1<x.length:=by omega
 refine⟨(rW h1 h2).trans h.perm,fun q hq=>?_⟩;rw[xM h1 h2];by_cases c1:q=k+1
 ·rw[if_pos c1,h.at_ _ (by omega),if_neg (by omega),if_pos rfl,if_neg (by omega),if_pos c1]
 ·rw[if_neg c1];by_cases c2:q=k
  ·rw[if_pos c2,h.at_ _ (by omega),if_neg (by omega),if_neg (by omega),if_pos (by omega),c2]
  ·rw[if_neg c2,h.at_ _ hq];grind
theorem UpI.stop(T:TotB lt)(h:UpI l x a k)(hf:FstI lt l a m b i j)(hs:dn lt l m b)(hma:m=a+1)(hij:j≤i)(hk:k+1=i)(hb:b≤l.length):SSeg lt l x a b:=by
 have q1:=hf.mi;have q2:=hf.ij;have q3:=hf.jb;refine⟨h.perm,fun q hq=>?_,fun q h1 h2=>?_,fun p q h1 h2 h3=>?_⟩
 ·rcases fy q l.length with c|c
  ·rw[h.at_ q c,if_neg (by omega),if_neg (by omega)]
  ·rw[vR (by rw[h.len];omega),vR c]
 ·rw[h.at_ q (by omega)];grind
 ·rw[h.at_ p (by omega),h.at_ q (by omega)];by_cases c1:p<k
  ·rw[if_pos (show a≤p∧p<k by omega)];by_cases c2:q<k
   ·rw[if_pos (show a≤q∧q<k by omega)];exact hs _ _ (by omega) (by omega) (by omega)
   ·rw[if_neg (show ¬(a≤q∧q<k) by omega)];by_cases c3:q=k
    ·grind[cases TotB,cases FstI]
    ·grind[cases TotB,cases FstI]
  ·rw[if_neg (show ¬(a≤p∧p<k) by omega),if_neg (show ¬(a≤q∧q<k) by omega),if_neg (show ¬q=k by omega)];by_cases c3:p=k
   ·rw[if_pos c3];exact hf.hi _ (by omega) (by omega)
   ·rw[if_neg c3];exact hs _ _ (by omega) (by omega) (by omega)
structure LstI(lt:α→α→Bool)(l:List α)(a m i j:Nat):Prop where
 ai:a≤i
 ij:i≤j
 jm:j≤m
 lo:∀q,a≤q→q<i→lt (gD l m) (gD l q)=false
 hi:∀q,j≤q→q<m→lt (gD l m) (gD l q)=true
theorem LstI.start(h:a≤m):LstI lt l a m a m:=⟨by omega,by omega,by omega,fun q _ _=>by omega,fun q _ _=>by omega⟩
theorem LstI.more(T:TotB lt)(h:LstI lt l a m i j)(hs:dn lt l a m)(hl:lt (gD l m) (gD l k)=false)(h1:i≤k)(h2:k<j)(hk:e=k+1):LstI lt l a m e j:=by
 subst hk;have:=h.ai;have:=h.jm;refine⟨by omega,by omega,h.jm,fun q q1 q2=>?_,h.hi⟩;exact T.trans _ _ _ (hs.le T q1 (by omega) (by omega)) hl
theorem LstI.less(T:TotB lt)(h:LstI lt l a m i j)(hs:dn lt l a m)(hl:lt (gD l m) (gD l k)=true)(h1:i≤k)(h2:k<j):LstI lt l a m i k:=by
 have:=h.ai;have:=h.jm;refine⟨h.ai,by omega,by omega,h.lo,fun q q1 q2=>?_⟩;exact T.up hl (hs.le T (by omega) q1 q2)
structure DnI(l x:List α)(m k:Nat):Prop where
 perm:x.Perm l
 at_:∀q,q<l.length→gD x q=gD l (if k<q∧q≤m then q-1 else if q=k then m else q)
theorem DnI.len(h:DnI l x m k):x.length=l.length:=h.perm.length_eq
theorem DnI.start:DnI l l m m:=⟨.refl _,fun q _=>by grind⟩
theorem DnI.step(h:DnI l x m k)(hk:k≤m)(hn:m<l.length)(he:e+1=k):DnI l ((x.set k (gD x e)).set e (gD x k)) m e:=by
 subst he;have hx:=h.len;have h1:e+1<x.length:=by omega
 have h2:e<x.length:=by omega
 refine⟨(rW h1 h2).trans h.perm,fun q hq=>?_⟩;rw[xM h1 h2];by_cases c1:q=e
 ·rw[if_pos c1,h.at_ _ (by omega),if_neg (by omega),if_pos rfl,if_neg (by omega),if_pos c1]
 ·rw[if_neg c1];by_cases c2:q=e+1
  ·rw[if_pos c2,h.at_ _ (by omega),if_neg (by omega),if_neg (by omega),if_pos (by omega)];simp_all
  ·rw[if_neg c2,h.at_ _ hq];grind
theorem DnI.stop(T:TotB lt)(h:DnI l x m k)(hf:LstI lt l a m i j)(hs:dn lt l a m)(hmb:b=m+1)(hij:j≤i)(hk:k=i)(hb:b≤l.length):SSeg lt l x a b:=by
 have q1:=hf.ai;have q2:=hf.ij;have q3:=hf.jm;refine⟨h.perm,fun q hq=>?_,fun q h1 h2=>?_,fun p q h1 h2 h3=>?_⟩
 ·rcases fy q l.length with c|c
  ·rw[h.at_ q c,if_neg (by omega),if_neg (by omega)]
  ·rw[vR (by rw[h.len];omega),vR c]
 ·rw[h.at_ q (by omega)];grind
 ·rw[h.at_ p (by omega),h.at_ q (by omega)];by_cases c1:q≤k
  ·rw[if_neg (show ¬(k<q∧q≤m) by omega),if_neg (show ¬(k<p∧p≤m) by omega),if_neg (show ¬p=k by omega)];by_cases c3:q=k
   ·rw[if_pos c3];exact hf.lo _ h1 (by omega)
   ·rw[if_neg c3];exact hs _ _ h1 h2 (by omega)
  ·rw[if_pos (show k<q∧q≤m by omega)];by_cases c2:k<p
   ·rw[if_pos (show k<p∧p≤m by omega)];exact hs _ _ (by omega) (by omega) (by omega)
   ·rw[if_neg (show ¬(k<p∧p≤m) by omega)];by_cases c3:p=k
    ·grind[cases TotB,cases LstI]
    ·rw[if_neg c3];exact hs _ _ h1 (by omega) (by omega)
structure CutI(lt:α→α→Bool)(l:List α)(lo hi p i j:Nat):Prop where
 li:lo≤i
 ij:i≤j
 jh:j≤hi
 low:∀c,lo≤c→c<i→lt (gD l (p-c)) (gD l c)=false
 high:∀c,j≤c→c<hi→lt (gD l (p-c)) (gD l c)=true
variable{lo hi:Nat}
theorem CutI.start(h:lo≤hi):CutI lt l lo hi p lo hi:=⟨by omega,by omega,by omega,fun q _ _=>by omega,fun q _ _=>by omega⟩
theorem CutI.more(T:TotB lt)(h:CutI lt l lo hi p i j)(hA:dn lt l a m)(hB:dn lt l m b)(hl:lt (gD l s) (gD l k)=false)(b1:a≤lo)(b2:hi≤m)(b3:m+hi≤p+1)(b4:p<b+lo)(h1:i≤k)(h2:k<j)(hk:e=k+1)(hs:s=p-k):CutI lt l lo hi p e j:=by
 subst hk hs;have:=h.li;have:=h.jh;refine⟨by omega,by omega,h.jh,fun c c1 c2=>?_,h.high⟩;exact T.trans _ _ _ (hA.le T (i:=c) (j:=k) (by omega) (by omega) (by omega)) (T.trans _ _ _ hl (hB.le T (i:=p-k) (j:=p-c) (by omega) (by omega) (by omega)))
theorem CutI.less(T:TotB lt)(h:CutI lt l lo hi p i j)(hA:dn lt l a m)(hB:dn lt l m b)(hl:lt (gD l s) (gD l k)=true)(b1:a≤lo)(b2:hi≤m)(b3:m+hi≤p+1)(b4:p<b+lo)(h1:i≤k)(h2:k<j)(hs:s=p-k):CutI lt l lo hi p i k:=by
 subst hs;have:=h.li;have:=h.jh;refine⟨h.li,by omega,by omega,h.low,fun c c1 c2=>?_⟩;exact T.down (hB.le T (i:=p-c) (j:=p-k) (by omega) (by omega) (by omega)) (T.up hl (hA.le T (i:=k) (j:=c) (by omega) (by omega) (by omega)))
theorem NI(T:TotB lt)(h:CutI lt l lo hi p s s)(hA:dn lt l a m)(hB:dn lt l m b)(hr:RoP l y s m e)(hab:b≤l.length)
  (d1:d+m=p+1)(e1:e+s=p+1)(f1:a≤s)(f2:s≤m)(f3:m≤e)(f4:e≤b)(f5:lo<s∨s=a∨e=b)(f6:s<hi∨s=m∨e=m):
  ∀i j,a≤i→i<d→d≤j→j<b→lt (gD y j) (gD y i)=false:=by
 intro i j h1 h2 h3 h4;rw[hr.at_ i (by omega),hr.at_ j (by omega)];unfold ro;by_cases c1:i<s
 ·rw[if_neg (show ¬(s≤i∧i<s+(e-m)) by omega),if_neg (show ¬(s+(e-m)≤i∧i<e) by omega)];rw[if_neg (show ¬(s≤j∧j<s+(e-m)) by omega)];by_cases c2:j<e
  ·rw[if_pos (show s+(e-m)≤j∧j<e by omega)];exact hA.le T h1 (by omega) (by omega)
  ·rw[if_neg (show ¬(s+(e-m)≤j∧j<e) by omega)];have hc:=h.low (s-1) (by omega) (by omega);rw[show p-(s-1)=e by omega]at hc;exact T.trans _ _ _ (hA.le T (i:=i) (j:=s-1) h1 (by omega) (by omega)) (T.trans _ _ _ hc (hB.le T (i:=e) (j:=j) (by omega) (by omega) h4))
 ·rw[if_pos (show s≤i∧i<s+(e-m) by omega),if_neg (show ¬(s≤j∧j<s+(e-m)) by omega)];by_cases c2:j<e
  ·rw[if_pos (show s+(e-m)≤j∧j<e by omega)];have hc:=h.high s (by omega) (by omega);rw[show p-s=e-1 by omega]at hc;refine T.asym _ _ (T.up (T.down (hB.le T (i:=i-s+m) (j:=e-1) (by omega) (by omega) (by omega)) hc) (hA.le T (i:=s) (j:=j-(e-m)) (by omega) (by omega) (by omega)))
  ·rw[if_neg (show ¬(s+(e-m)≤j∧j<e) by omega)];exact hB.le T (by omega) (by omega) h4
theorem RoP.left(hr:RoP l y s m e)(hA:dn lt l a m)(f2:s≤m)(f3:m≤e)(f4:e≤l.length):dn lt y a s:=fun i j h1 h2 h3=>by
 rw[hr.at_ i (by omega),hr.at_ j (by omega)];unfold ro;rw[if_neg (by omega),if_neg (by omega),if_neg (by omega),if_neg (by omega)];exact hA i j h1 h2 (by omega)
theorem RoP.mid1(hr:RoP l y s m e)(hB:dn lt l m b)(f3:m≤e)(f4:e≤b)(f2:s≤m)(hb:b≤l.length)(hd:d=s+(e-m)):dn lt y s d:=fun i j h1 h2 h3=>by
 rw[hr.at_ i (by omega),hr.at_ j (by omega)];unfold ro;rw[if_pos (by omega),if_pos (by omega)];exact hB _ _ (by omega) (by omega) (by omega)
theorem RoP.mid2(hr:RoP l y s m e)(hA:dn lt l a m)(f1:a≤s)(f2:s≤m)(f3:m≤e)(f4:e≤l.length)(hd:d=s+(e-m)):dn lt y d e:=fun i j h1 h2 h3=>by
 rw[hr.at_ i (by omega),hr.at_ j (by omega)];unfold ro;rw[if_neg (by omega),if_pos (by omega),if_neg (by omega),if_pos (by omega)];exact hA _ _ (by omega) (by omega) (by omega)
theorem RoP.right(hr:RoP l y s m e)(hB:dn lt l m b)(f2:s≤m)(f3:m≤e)(hb:b≤l.length):dn lt y e b:=fun i j h1 h2 h3=>by
 rw[hr.at_ i (by omega),hr.at_ j (by omega)];unfold ro;rw[if_neg (by omega),if_neg (by omega),if_neg (by omega),if_neg (by omega)];exact hB i j (by omega) h2 h3
theorem RoP.lower(hr:RoP l y s m e)(hA:dn lt l a m)(hB:dn lt l m b)(hd:d+m=s+e)(h:s≤a∨d≤s)(f1:a≤s)(f2:s≤m)(f3:m≤e)(f4:e≤b)(hb:b≤l.length):dn lt y a d:=by
 rcases h with h|h
 ·have:=hr.mid1 hB f3 f4 f2 hb (d:=d) (by omega);grind
 ·have:=hr.left hA f2 f3 (by omega);grind
theorem RoP.upper(hr:RoP l y s m e)(hA:dn lt l a m)(hB:dn lt l m b)(hd:d+m=s+e)(h:b≤e∨e≤d)(f1:a≤s)(f2:s≤m)(f3:m≤e)(f4:e≤b)(hb:b≤l.length):dn lt y d b:=by
 rcases h with h|h
 ·have:=hr.mid2 hA f1 f2 f3 (by omega) (d:=d) (by omega);grind
 ·have:=hr.right hB f2 f3 hb;grind
theorem WB(hr:RoP l y s m e)(hz:SSeg lt y z a d)(hw:SSeg lt z w d b)(had:a≤d)(hdb:d≤b)(hb:b≤l.length)(f1:a≤s)(f2:s≤m)(f3:m≤e)(f4:e≤b)
  (hx:∀i j,a≤i→i<d→d≤j→j<b→lt (gD y j) (gD y i)=false):SSeg lt l w a b:=by
 have hro:∀q,a≤q→q<b→a≤ro s m e q∧ro s m e q<b:=fun q h1 h2=>by grind[ro]
 have hy:∀q,q<a∨b≤q→gD y q=gD l q:=fun q hq=>by
  rcases fy q l.length with c|c
  ·rw[hr.at_ q c];congr 1;unfold ro;grind
  ·rw[vR (by rw[hr.len];omega),vR c]
 refine⟨hw.perm.trans (hz.perm.trans hr.perm),fun q hq=>?_,fun q h1 h2=>?_,fun i j h1 h2 h3=>?_⟩
 ·grind[cases SSeg]
 ·rcases fy q d with c|c
  ·obtain⟨j,j1,j2,j3⟩:=hz.src q h1 c;have:=hro j j1 (by omega);exact⟨_,this.1,this.2,by rw[hw.out q (.inl c),j3,hr.at_ j (by omega)]⟩
  ·obtain⟨j,j1,j2,j3⟩:=hw.src q c h2;have:=hro j (by omega) j2;exact⟨_,this.1,this.2,by rw[j3,hz.out j (.inr j1),hr.at_ j (by omega)]⟩
 ·rcases fy j d with c|c
  ·rw[hw.out i (.inl (by omega)),hw.out j (.inl c)];exact hz.srt i j h1 h2 c
  ·rcases fy i d with c2|c2
   ·obtain⟨i',i1,i2,i3⟩:=hz.src i h1 c2;obtain⟨j',j1,j2,j3⟩:=hw.src j c h3;rw[hw.out i (.inl c2),i3,j3,hz.out j' (.inr j1)];simp_all
   ·exact hw.srt i j c2 h2 h3
theorem vD(T:TotB lt)(h:CutI lt l lo hi p i s)(hA:dn lt l a m)(hB:dn lt l m b)(hr:RoP l y i m e)(hz:SSeg lt y z a d)(hw:SSeg lt z w d b)(his:s≤i)(hd:d+m=p+1)(he:e+i=p+1)(had:a≤d)(hdb:d≤b)(hb:b≤l.length)(f1:a≤i)(f2:i≤m)(f3:m≤e)(f4:e≤b)(f5:lo<i∨i=a∨e=b)(f6:i<hi∨i=m∨e=m):SSeg lt l w a b:=by
 have:i=s:=Nat.le_antisymm h.ij his;grind[WB,NI]
theorem SSeg.keep(h:SSeg lt l x a b)(hs:dn lt l i j)(hd:j≤a∨b≤i):dn lt x i j:=fun p q h1 h2 h3=>by rw[h.out p (by omega),h.out q (by omega)];exact hs p q h1 h2 h3
def Oq(lt:α→α→Bool)(x:List α)(s n:Nat):Prop:=∀c,dn lt x (c*s) (min ((c+1)*s) n)
theorem rm{t c d:Nat}(h:a=d*t):(c+1)*t≤a∨c=d∨a+t≤c*t:=by
 subst h;rcases Nat.lt_trichotomy c d with q|q|q
 ·exact .inl (ei _ q)
 ·omega
 ·refine .inr (.inr ?_);have:=ei t q;grind
structure BlkA(lt:α→α→Bool)(l x:List α)(s a:Nat):Prop where
 perm:x.Perm l
 dv:∃c,a=c*s
 ok:∀c,dn lt x (c*s) (min ((c+1)*s) a)
theorem BlkA.len(h:BlkA lt l x s a):x.length=l.length:=h.perm.length_eq
theorem BlkA.start:BlkA lt l l s 0:=⟨.refl _,⟨0,by omega⟩,fun c=>dn.nil (by omega)⟩
theorem BlkA.step(h:BlkA lt l x s a)(hy:SSeg lt x y a b)(hb:b=a+s):BlkA lt l y s b:=by
 obtain⟨d,hd⟩:=h.dv;subst hb;refine⟨hy.perm.trans h.perm,⟨d+1,by grind⟩,fun c=>?_⟩;rcases rm (c:=c) hd with q|q|q
 ·have:=h.ok c;rw[show min ((c+1)*s) a=(c+1)*s by omega]at this;rw[show min ((c+1)*s) (a+s)=(c+1)*s by omega];exact hy.keep this (.inl q)
 all_goals grind[dn.nil,cases SSeg]
theorem BlkA.last(h:BlkA lt l x s a)(hy:SSeg lt x y a n)(hn:n<a+s)(ha:a≤n):y.Perm l∧Oq lt y s n:=by
 obtain⟨d,hd⟩:=h.dv;refine⟨hy.perm.trans h.perm,fun c=>?_⟩;rcases rm (c:=c) hd with q|q|q
 ·have:=h.ok c;rw[show min ((c+1)*s) a=(c+1)*s by omega]at this;rw[show min ((c+1)*s) n=(c+1)*s by omega];exact hy.keep this (.inl q)
 all_goals grind[dn.nil,cases SSeg]
structure BlkB(lt:α→α→Bool)(l x:List α)(s a n:Nat):Prop where
 perm:x.Perm l
 dv:∃c,a=c*(2*s)
 ok:∀c,dn lt x (c*(2*s)) (min ((c+1)*(2*s)) a)
 rest:∀c,a≤c*s→dn lt x (c*s) (min ((c+1)*s) n)
theorem BlkB.len(h:BlkB lt l x s a n):x.length=l.length:=h.perm.length_eq
theorem BlkB.start(h:x.Perm l∧Oq lt x s n):BlkB lt l x s 0 n:=⟨h.1,⟨0,by omega⟩,fun c=>dn.nil (by omega),fun c _=>h.2 c⟩
theorem BlkB.pre1(h:BlkB lt l x s a n)(hm:m=a+s)(hn:m≤n):dn lt x a m:=by
 obtain⟨d,hd⟩:=h.dv;have e:a=(d*2)*s:=by grind
 have:=h.rest (d*2) (by omega);grind
theorem BlkB.pre2(h:BlkB lt l x s a n)(hm:m=a+s)(hb:b≤m+s)(hn:b≤n):dn lt x m b:=by
 obtain⟨d,hd⟩:=h.dv;have e:a=(d*2)*s:=by grind
 have e2:m=(d*2+1)*s:=by grind
 have:=h.rest (d*2+1) (by omega);rw[←e2,qK,←e2]at this;exact this.sub (ao _) (by omega)
theorem BlkB.step(h:BlkB lt l x s a n)(hy:SSeg lt x y a b)(hb:b=a+2*s):BlkB lt l y s b n:=by
 obtain⟨d,hd⟩:=h.dv;subst hb;refine⟨hy.perm.trans h.perm,⟨d+1,by grind⟩,fun c=>?_,fun c hc=>hy.keep (h.rest c (by omega)) (.inr hc)⟩;rcases rm (c:=c) hd with q|q|q
 ·have:=h.ok c;rw[show min ((c+1)*(2*s)) a=(c+1)*(2*s) by omega]at this;rw[show min ((c+1)*(2*s)) (a+2*s)=(c+1)*(2*s) by omega];exact hy.keep this (.inl q)
 all_goals grind[dn.nil,cases SSeg]
theorem BlkB.last(h:BlkB lt l x s a n)(hy:SSeg lt x y a n)(hn:n<a+2*s)(ht:d=2*s)(ha:a≤n):y.Perm l∧Oq lt y d n:=by
 subst ht;obtain⟨d,hd⟩:=h.dv;refine⟨hy.perm.trans h.perm,fun c=>?_⟩;rcases rm (c:=c) hd with q|q|q
 ·have:=h.ok c;rw[show min ((c+1)*(2*s)) a=(c+1)*(2*s) by omega]at this;rw[show min ((c+1)*(2*s)) n=(c+1)*(2*s) by omega];exact hy.keep this (.inl q)
 all_goals grind[dn.nil,cases SSeg]
theorem BlkB.one(h:BlkB lt l x s a n)(hn:n≤a+s):SSeg lt x x a n:=by
 obtain⟨d,hd⟩:=h.dv;have e:a=(d*2)*s:=by grind
 have:=h.rest (d*2) (by omega);simp_all[qK,mo]
theorem Oq.all(h:Oq lt x s n)(hn:n≤s):dn lt x 0 n:=by
 have:=h 0;simp_all
theorem dn.pair:∀{x:List α},dn lt x 0 x.length→x.Pairwise fun u v=>lt v u=false
 |[],_=>.nil
 | u::r,h=>jd.2 ⟨fun v hv=>by
   obtain⟨i,hi,rfl⟩:=BC hv;have:=h 0 (i+1) (by omega) (by omega) (by simp_all);have e:gD (u::r) (i+1)=r[i]:=by grind[gD]
   rw[e]at this;exact this,dn.pair fun i j _ h2 h3=>h (i+1) (j+1) (by omega) (by omega) (by simp_all)⟩
end
section
variable{α:Type}{lt:α→α→Bool}
theorem Ck:∀{x y:List α},x.Pairwise (fun u v=>lt v u=false)→y.Pairwise (fun u v=>lt v u=false)→x.Perm y→(∀u v,u∈x→v∈x→lt u v=false→lt v u=false→u=v)→x=y
 |[],y,_,_,hp,_=>hp.nil_eq
 |u::r,[],_,_,hp,_=>by simp_all
 |u::r,v::t,hx,hy,hp,H=>by
  obtain⟨x1,x2⟩:=jd.1 hx;obtain⟨y1,y2⟩:=jd.1 hy;have hv:v∈u::r:=hp.mem_iff.2 (e9 ..);have hu:u∈v::t:=hp.mem_iff.1 (e9 ..);have e:u=v:=by grind
  subst e;rw[Ck x2 y2 ((List.perm_cons u).1 hp) fun a b ha hb=>H a b (fk _ ha) (fk _ hb)]
def DO(lt:α→α→Bool)(a:α):List α→List α
 |[]=>[a]
 |b::r=>match lt b a with|true=>b::DO lt a r|false=>a::b::r
def PW(lt:α→α→Bool)(l:List α):List α:=l.foldl (fun o a=>DO lt a o) []
theorem vM(a:α):∀(l:List α),(DO lt a l).Perm (a::l)
 |[]=>.refl _
 |b::r=>by
  unfold DO;cases lt b a with
  |true=>exact((vM a r).cons b).trans (.swap a b r)
  |false=>simp_all
theorem Ct(T:TotB lt)(a:α):∀{l:List α},l.Pairwise (fun u v=>lt v u=false)→(DO lt a l).Pairwise (fun u v=>lt v u=false)
 |[],_=>List.pairwise_singleton ..
 | b::r,h=>by
  obtain⟨h1,h2⟩:=jd.1 h;unfold DO;cases q:lt b a with
  |true=>
   refine jd.2 ⟨fun v hv=>?_,Ct T a h2⟩;grind[vM,cases TotB]
  |false=>
   refine jd.2 ⟨fun v hv=>?_,h⟩;grind[cases TotB]
theorem yP(T:TotB lt):∀(l o:List α),o.Pairwise (fun u v=>lt v u=false)→((l.foldl (fun o a=>DO lt a o) o).Perm (o++l)∧(l.foldl (fun o a=>DO lt a o) o).Pairwise fun u v=>lt v u=false)
 |[],o,h=>⟨by simp_all,h⟩
 |a::r,o,h=>by
  obtain⟨h1,h2⟩:=yP T r (DO lt a o) (Ct T a h);refine⟨h1.trans ?_,h2⟩;exact((vM a o).append_right r).trans (List.perm_middle.symm)
theorem yO(T:TotB lt)(l:List α):(PW lt l).Perm l:=(yP T l [] .nil).1
theorem PX(T:TotB lt){l x:List α}(hp:x.Perm l)(hs:x.Pairwise fun u v=>lt v u=false)(H:∀u v,u∈l→v∈l→lt u v=false→lt v u=false→u=v):x=PW lt l:=Ck hs (yP T l [] .nil).2 (hp.trans (yO T l).symm) fun u v hu hv=>H u v (hp.mem_iff.1 hu) (hp.mem_iff.1 hv)
end
end Go.Ev
namespace Go.Ev
open Go
theorem R3(a b:Int):ax (aC a b)=decide (b≤a):=by
 cases h:aC a b with
 |true=>grind[al]
 |false=>simp_all[aD]
theorem TI(a b:Int):aC a b=decide (a<b):=by
 cases h:aC a b with
 |true=>simp_all[al]
 |false=>simp_all[aD]
structure PtsI(l:List Int):Prop where
 rise:l.Pairwise (· < ·)
 zero:0∈l
 ok:∀z,z∈l→0≤z∧z≤1048576
def bnd(P:List Int)(i:Nat):Int:=bif Nat.blt i P.length then gD P i else 1048577
structure BothI(g:Int→Bool)(P:List Int)(out:List PSpan)(i:Nat):Prop where
 nrm:NrmS out
 mem:∀d,memB out d=(decide (0≤d∧d<bnd P i)&&g d)
 to:∀s,s∈out→s.to≤bnd P i
section
variable{g:Int→Bool}{P:List Int}{out:List PSpan}{i:Nat}
end
end Go.Ev
namespace Go.Ev
open Go
theorem VRel.unren{ρ:Nat→Nat}{n:Nat}{pl pl2:Pl}{M:dr}{v:AV}{x:Value}(h:VRel pl2 M v x)(hp:∀id p,id<n→pl2 id=some p→pl (ρ id)=some p)(ht:v.top≤n):VRel pl M (Ev.ren ρ v) x:=by
 have gt:∀{xs:List AV}{i:Nat}{z:AV},(xs.map (Ev.ren ρ))[i]?=some z→∃y,xs[i]?=some y∧z=Ev.ren ρ y:=by grind
 have tp:∀{xs:List AV}{i j:Nat}{z y:AV},aq xs≤n→xs[i]?=some z→z.cells[j]?=some y→y.top≤n:=by
  intro xs i j x y h1 h2 h3;exact lX (dF.1 h1 x (bg h2)) (bg h3)
 have sc:∀{xs:List AV}{sz:Nat},(∀x,x∈xs→x.cells.length=sz∧Sc x)→∀x,x∈xs.map (Ev.ren ρ)→x.cells.length=sz∧Sc x:=by
  intro xs sz h x hx;obtain⟨y,hy,rfl⟩:=j9.1 hx;obtain⟨h1,h2⟩:=h y hy;rw[fS];refine⟨by simp_all,fun u hu=>?_⟩;rw[fS]at hu;obtain⟨z,hz,rfl⟩:=j9.1 hu;rw[oK];exact h2 z hz
 have cel:∀{xs:List AV}{c:Array Value}{o sz:Nat},aq xs≤n→(∀i x j y,xs[i]?=some x→x.cells[j]?=some y→y.top≤n→VRel pl M (Ev.ren ρ y) (c.getD (o+i*sz+j) undef))→
   ∀i x j y,(xs.map (Ev.ren ρ))[i]?=some x→x.cells[j]?=some y→VRel pl M y (c.getD (o+i*sz+j) undef):=by
  intro xs c o sz ht h i x j y h1 h2;obtain⟨x0,e1,rfl⟩:=gt h1;rw[fS]at h2;grind
 induction h with
 |bool b=>exact .bool b
 |int k n=>exact .int k n
 |str s=>exact .str s
 |nilp=>exact .nilp
 |ptr h1 h2 h3=>simp only[AV.top]at ht;exact .ptr (hp _ _ (by omega) h1) h2 h3
 |pptr hm hs hi hc ih=>
  simp only[AV.top]at ht;simp only[Ev.ren,fZ];exact .pptr ⟨hm.1,hm.2.1,by simp_all,hm.2.2.2⟩ (sc hs) (by simp_all) (cel ht fun i x j y h1 h2 h3=>ih i x j y h1 h2 h3)
 |nils=>exact .nils
 |slice h1 h2 h3 h4 h5=>simp only[AV.top]at ht;exact .slice (hp _ _ (by omega) h1) h2 h3 h4 h5
 |sl0n _ ih=>exact .sl0n (ih (bN _))
 |sl0s _ ih=>exact .sl0s (ih ht)
 |ps hl ht' hm hs hc ih=>
  simp only[AV.top]at ht;simp only[Ev.ren,fZ];have:=VRel.ps (pl:=pl) (xs:=_) (by simpa using hl) (by simpa using ht') (by simp_all) (sc hs) (cel ht fun i x j y h1 h2 h3=>ih i x j y h1 h2 h3);simp_all
 |lsn=>exact .lsn
 |lsp h ht0 ih=>
  have:=ih (by grind[AV.top]);simp only[Ev.ren,eN ρ _ ht0]at this;exact .lsp this ht0
 |nilm=>exact .nilm
 |map h1 h2=>simp only[AV.top]at ht;exact .map (hp _ _ (by omega) h1) h2
 |func h1 h2 _ _ ih1 ih2=>
  simp only[AV.top,qi]at ht;simp only[Ev.ren,fZ];refine .func (by simp_all) (by simp_all) (fun j y hj=>?_) (fun j y hj=>?_)
  ·obtain⟨z,e,rfl⟩:=gt hj;exact ih1 j z e (dF.1 ht.1 z (bg e))
  ·obtain⟨z,e,rfl⟩:=gt hj;exact ih2 j z e (dF.1 ht.2 z (bg e))
 |nilf=>exact .nilf
 |iface _ ih=>simp only[AV.top]at ht;exact .iface (ih ht)
 |nili=>exact .nili
 |agg h1 h2 _ ih=>
  simp only[AV.top]at ht;simp only[Ev.ren,fZ];refine .agg (by simp_all) (fun y hy=>?_) (fun j y hj=>?_)
  ·grind[oK]
  ·obtain⟨z,e,rfl⟩:=gt hj;exact ih j z e (dF.1 ht z (bg e))
 |tuple h1 _ ih=>
  simp only[AV.top]at ht;simp only[Ev.ren,fZ];refine .tuple (by simp_all) (fun j y hj=>?_);obtain⟨z,e,rfl⟩:=gt hj;exact ih j z e (dF.1 ht z (bg e))
def ep0:AObj→Bool
 | .row _ _ e _=>Nat.beq e 0
 | .map _ _=>true
 |_=>false
theorem bm.ep0{pl:Pl}{M:dr}{p:Place}{o:AObj}{x:Option Obj}(h:bm pl M p o x)(he:Ev.ep0 o=true):p.ep=0:=by
 match o,x with
 | .row sz op ep xs,some (.cells c t fr)=>rw[h.1];exact pu he
 | .map es clock,some (.map entries clock')=>exact h.1
theorem Uf{ρ:Nat→Nat}{o:AObj}:ep0 (kU ρ o)=ep0 o:=by cases o<;>rfl
theorem bm.unren{ρ:Nat→Nat}{n:Nat}{pl pl2:Pl}{M:dr}{o:AObj}{p:Place}{x:Option Obj}(h:bm pl2 M p o x)(he:Ev.ep0 o=true)(hp:∀id p,id<n→pl2 id=some p→pl (ρ id)=some p)(ht:o.top≤n):bm pl M p (kU ρ o) x:=by
 match o,x with
 | .row sz op ep xs,some (.cells c t fr)=>
  obtain⟨h1,h2,h3,h4,h5,h6,h7,h8⟩:=h;simp only[AObj.top]at ht;have gt:∀{xs:List AV}{i:Nat}{z:AV},(xs.map (Ev.ren ρ))[i]?=some z→∃y,xs[i]?=some y∧z=Ev.ren ρ y:=by grind
  simp only[kU,fZ];refine⟨h1,h2,by simp_all,h4,h5,h6,by simp_all,⟨by simpa using h8.fit,fun y hy=>?_,fun i z j y k1 k2=>?_⟩⟩
  ·obtain⟨z,hz,rfl⟩:=j9.1 hy;obtain⟨q1,q2⟩:=h8.elem z hz;rw[fS];refine⟨by simp_all,fun u hu=>?_⟩;rw[fS]at hu;obtain⟨z,hz,rfl⟩:=j9.1 hu;rw[oK];exact q2 z hz
  ·obtain⟨z0,e1,rfl⟩:=gt k1;rw[fS]at k2;obtain⟨y0,e2,rfl⟩:=gt k2;exact(h8.cell i z0 j y0 e1 e2).unren hp (lX (dF.1 ht z0 (bg e1)) (bg e2))
 | .map es clock,some (.map entries clock')=>
  obtain⟨h1,h2,h3,h4⟩:=h;simp only[AObj.top]at ht;simp only[kU,qe];refine⟨h1,h2,by simp_all,fun i e hi=>?_⟩;rw[qW]at hi;cases hx:es[i]? with
  |none=>grind
  |some e0=>
   rw[hx]at hi;cases hi
   obtain⟨e',k1,k2,k3,k4⟩:=h4 i e0 hx;have:=pa.1 ht e0 (bg hx);exact⟨e',k1,k2.unren hp this.1,k3.unren hp this.2,k4⟩
theorem aH.frame{P:Program}{G:eA}(hG:iT G){f:FuncId}{args:List AV}{v:AV}(ρ:Nat→Nat){L L':List AObj}(hl:L'.length=L.length)
  (hL:∀o,o∈L→ep0 o=true∧o.top≤L.length)(hL':∀o,o∈L'→ep0 o=true∧o.top≤L.length)(hm:∀i o,L'[i]?=some o→(av L').get i=some o)(ht:aq args≤L.length)(hv:v.top≤L.length)
  (hi:∀i j,i<L.length→j<L.length→ρ i=ρ j→i=j)
  (h0:aH P G f args (av L) (fun v1 h1=>v1=v∧h1=av L')){h h':AHeap}(hg:∀i o,L[i]?=some o→h.get (ρ i)=some (kU ρ o))
  (hg':∀k o,h'.get k=some o→(∃i o',L'[i]?=some o'∧k=ρ i∧o=kU ρ o')∨((∀i,i<L.length→k≠ρ i)∧h.get k=some o))(hn:h'.n=h.n):
  aH P G f (l0 ρ args) h (fun v1 h1=>v1=Ev.ren ρ v∧h1=h'):=by
 intro pl M w vs hG1 hr hvs;obtain⟨n,en⟩:∃n,n=L.length:=⟨_,rfl⟩
 rw[←en]at hL hL' ht hi hg' hv;have hat:∀i,i<n→∃o,L[i]?=some o∧o∈L:=fun i h=>⟨L[i],lx (by omega),Dq _⟩
 have hat':∀i,i<n→∃o,L'[i]?=some o∧o∈L':=fun i h=>⟨L'[i]'(by omega),lx (by omega),Dq _⟩
 have hpl1:∀k q,jP ρ n pl k=some q→k<n∧pl (ρ k)=some q:=fun k q hk=>by grind[jP]
 have hnH:(av L).n=n:=en.symm;have hnH':(av L').n=n:=hl.trans en.symm;have hr1:cM (jP ρ n pl) M (av L) w:=by
  refine⟨fun k q hk=>?_,fun k q o hk hgo=>?_,fun k q hk=>?_,fun k k' q q' hk hk' e=>?_,hr.imm,fun k q hk=>?_⟩
  ·simp_all
  ·obtain⟨hk1,hk2⟩:=hpl1 k q hk;have:=nD hgo;exact(hr.obj (ρ k) q _ hk2 (hg k o this)).ren (hL o (bg this)).2
  ·exact hr.blk _ q (hpl1 k q hk).2
  ·obtain⟨a1,a2⟩:=hpl1 k q hk;obtain⟨b1,b2⟩:=hpl1 k' q' hk';exact hi k k' a1 b1 (hr.inj _ _ q q' a2 b2 e)
  ·exact hr.sep _ q (hpl1 k q hk).2
 have hvs1:VRels (jP ρ n pl) M args vs:=⟨by rw[←hvs.len,fZ,cQ],fun j y hj=>(hvs.at_ j (Ev.ren ρ y) (by grind[fZ])).ren rfl (dF.1 ht y (bg hj))⟩
 have hG1':pp G (jP ρ n pl) M:=hG1.none hG;have fin:∀cv w',iU (jP ρ n pl) M (av L) w v (av L') cv w'→iU pl M h w (Ev.ren ρ v) h' cv w':=by
  intro cv w' ⟨pl2,M2,k1,k2,k3,k4⟩;have kept:∀b,b<w.heap.size→(∀i q,i<n→pl (ρ i)=some q→q.blk≠b)→w'.heap[b]?=w.heap[b]?:=fun b hb hne=>k3.kept b hb fun k q hk _=>hne k q (hpl1 k q hk).1 (hpl1 k q hk).2
  have same:∀i,i<n→pl2 i=pl (ρ i):=by
   intro i hin;cases hp:pl (ρ i)with
   |none=>exact k3.new i (by omega) (by simp_all[jP])
   |some p=>
    obtain⟨p2,e1,e2,e3⟩:=k3.ext i p (tG hin hp);obtain⟨o,h1,h2⟩:=hat i hin;obtain⟨o',h1',h2'⟩:=hat' i hin;have q1:p.ep=0:=(hr.obj (ρ i) p _ hp (hg i o h1)).ep0 (by grind[Uf]);have q2:p2.ep=0:=(k2.obj i p2 o' e1 (hm i o' h1')).ep0 (hL' o' h2').1;simp_all
  have hun:∀id p,id<n→pl2 id=some p→pl (ρ id)=some p:=fun id p h1 h2=>by simp_all
  refine⟨pl,M2,k1.unren hun hv,⟨fun k q hk=>by rw[hn];exact hr.dom k q hk,fun k q o hk hgo=>?_,fun k q hk=>EM (hr.blk k q hk) k3.size,hr.inj,k2.imm,fun k q hk=>?_⟩,⟨ng.refl _,fun _ _ h=>h,k3.mem,k3.size,fun b hb hk=>kept b hb fun i q hin hp e=>?_,fun k q hk=>.inl ⟨q,hk,rfl⟩,fun k q hk hno=>?_,fun _ _ h _=>h,k3.memNew,k3.os,k3.tape,k3.out,k3.drawn⟩,rN hn.symm⟩
  ·rcases hg' k o hgo with⟨i,o',h1,rfl,rfl⟩|⟨hne,hgo⟩
   ·have hin:i<n:=by grind
    have hm':=bg h1;exact(k2.obj i q o' (by simp_all) (hm i o' h1)).unren (hL' o' hm').1 hun (hL' o' hm').2
   ·rw[kept _ (hr.blk k q hk) fun i q' hin hp e=>hne i hin (hr.inj _ _ q q' hk hp e.symm)];exact(hr.obj k q o hk hgo).mono (ng.refl _) k3.mem
  ·cases hM:M2 q.blk with
   |none=>rfl
   |some c2=>
    rcases k3.memNew _ c2 hM with k5|k5
    ·rw[hr.sep k q hk]at k5;grind
    ·have:=hr.blk k q hk;omega
  ·grind
  ·cases hq:h'.get k with
   |none=>rfl
   |some o=>grind
 rcases h0 (jP ρ n pl) M w vs hG1' hr1 hvs1 with⟨h1,h2⟩|⟨cv,w',v1,h1,q1,⟨q2,q3⟩,q4⟩
 ·exact .inl ⟨h1,Calls.mono h2 fun e w' ⟨cv,v1,h1,k1,⟨k2,k3⟩,k4⟩=>⟨cv,Ev.ren ρ v,h',k1,⟨rfl,rfl⟩,by simp_all⟩⟩
 ·exact .inr ⟨cv,w',Ev.ren ρ v,h',q1,⟨rfl,rfl⟩,by simp_all⟩
end Go.Ev
namespace Go.Ev
open Go
section
variable{P:Program}{G:eA}{call:cJ}{m:Nat}{c:Code}{d:D}{s s':St}{ops:Array Oper}
theorem DR(hm:P.follows .mixedOrders=true)(hG:iT G)(hc:ca P G call)(d:D)(e:(WP P G call m c).run d s (fun e _ s=>e=.normal∧s=s')=(AExit.normal=.normal∧s'=s')):ar P G (some m) c s (fun e s=>e=.normal∧s=s'):=Vu hm hG hc c d s _ _ (e▸⟨rfl,rfl⟩) fun _ _ _ _ h=>h
theorem x8(hG:iT G)(hc:ca P G call){id:Nat}{Ψ:St→Prop}(d:D){W:Prop}(p:W)(e:Xm P G call m ops ops.toList d s (fun _ s=>Ψ s)=W):ar P G (some m) (.region id ops false) s (fun e s=>e=.normal∧Ψ s):=ar.region (gw hG hc _ d s _ (e▸p) fun _ _ _ h=>⟨rfl,h⟩)
end
section
variable{P:Program}{G:eA}{ops:Array Oper}{o:Oper}{l:List Oper}{s:St}{b:Option Nat}
theorem rD{Y:Type}{I:Y→Prop}{r:Y→AV}{H:Y→AHeap}{Φ:St→Prop}(hg:eh s.tmps (ee ops o)=some true)
  (hO:∀(pl:Pl)(M:dr)(a:Act)(w:World),pp G pl M→cM pl M s.heap w→FrRel pl M s.tmps a→∃y pl' M' cv w',I y∧(execOp a.eval o).run P w=.ok (.value cv) w'∧VRel pl' M' (r y) cv∧cM pl' M' (H y) w'∧dZ s.heap pl M w (H y) pl' M' w'∧s.heap.n≤(H y).n)
  (h:∀y,I y→∃A',jZ s.tmps o.dst (r y)=some A'∧ce P G b ops l ⟨A',H y⟩ Φ):ce P G b ops (o::l) s Φ:=by
 intro i N h0' pl0 M0 w0 a w Q hb hl' hs hQ;have ho:ops[i]?=some o:=by simpa using hl' 0
 obtain⟨pl,M,g1,g2,g3,g4,g5⟩:=hs.ex;simp only[cT,BI,wpOps,ho];rw[fh g3 hg];simp only[if_true];left;obtain⟨y,pl',M',cv,w',i1,i2,i3,i4,i5,i6⟩:=hO pl M a w g1 g2 g3;obtain⟨A',e1,e2⟩:=h y i1;obtain⟨p1,p2⟩:=nr (g3.mono i5.ext i5.mem) i3 (by rw[hs.n];exact hs.small) e1;have nxt:=e2 (i+1) N h0' pl0 M0 w0 (a.put o.dst cv) w' Q hb (fun j=>by have:=hl' (j+1);grind)
  ⟨⟨pl',M',g1.mono i5.ext i5.mem,i4,p1,g4.trans i5 g5,bT g5 i6⟩,by rw[←hs.n];omega,hs.small⟩ hQ
 unfold Oper.wp;rw[i2];exact nxt
theorem u9{t tx e:TypeId}{i:TypeInfo}{sz bt:Nat}(hsz:i.size=sz)(hbt:i.bytes=bt){z z0:AV}{sO xO:Operand}{dst:Option Tmp}{ty:TypeId}{pos:String}{after:Array Edge}{guard:Option (Nat×Bool)}{xs:List AV}
  (ht:P.underlying t=some (.slice e))(hk:∃e',P.underlying tx=some (.slice e'))(hi:P.info? e=some i)(hz:jY P e=some z0)(hzl:Le z z0)
  (hs:(cA G sO).run s.tmps=some (.ps [] true))(hx:(cA G xO).run s.tmps=some (.ls xs))(hne:xs≠[])(hfit:dD sz xs=true)(hzf:dD sz [z]=true)(hsm:small xs.length bt=true)(hs0:0<sz)
  (pl:Pl)(M:dr)(a:Act)(w:World)(g1:pp G pl M)(g2:cM pl M s.heap w)(g3:FrRel pl M s.tmps a):
  ∃(k:Nat)(pl':Pl)(M':dr)(cv:Value)(w':World),True∧(execOp a.eval ⟨dst,.call ⟨.builtin .append,#[sO,xO],#[t,tx]⟩,ty,pos,after,guard⟩).run P w=.ok (.value cv) w'∧
   VRel pl' M' (.slice s.heap.n 0 0 xs.length (some (xs.length+k))) cv∧cM pl' M' (s.heap.push (.row sz false 0 (xs++List.replicate k z))) w'∧dZ s.heap pl M w (s.heap.push (.row sz false 0 (xs++List.replicate k z))) pl' M' w'∧s.heap.n≤(s.heap.push (.row sz false 0 (xs++List.replicate k z))).n:=by
 subst hsz;subst hbt;have hsr:=bX g1 g3 hs;have hxr:=bX g1 g3 hx;obtain⟨news,hsrc⟩:=yN (P:=P) g2 hxr (show kV s.heap (.ls xs)=some xs from rfl) hne hfit;obtain⟨i2,zv,hz1,hz2,hz3⟩:=mC hz;rw[hi]at hz1;cases hz1
 obtain⟨b1,b2⟩:=jB hsm;have hpos:0<xs.length:=pA.2 hne;generalize hq:a.eval sO=cs at hsr;generalize hq2:a.eval xO=cx at hxr hsrc;cases hsr with
 | ps hl htt hm hs2 hc=>
  rename_i ad cap sz c;have hcap:cap=0:=htt rfl;subst hcap;have hzr:=hzl _ _ _ (dR (pl:=pl) (M:=M) hz3);have hzt:=ma hzf z (by simp);have hzsz:zv.cells.size=i.size:=by rw[←hzr.cells.len];omega
  have hrun:=run_append_grow_src (P:=P) w t tx ty e i zv ht hi hz2 (some ad) 0 0 [] (by simp[Builtin.firstCells,loadCells,loadCellsFrom]) cx xs.length news (hsrc.src (.inl hk)) (by omega) (by omega) (growslice_fits (by omega) (by grind));have hge:=grownCap_ge w (0+xs.length) 0 e;obtain⟨C,hC⟩:∃C,C=grownCap w (0+xs.length) 0 e:=⟨_,rfl⟩
  rw[←hC]at hrun hge;have hin:=eP hzr hzt.2 (C-(0+xs.length)) hzt.1 hs0;have hzl:(Builtin.zeroCells zv.cells (C-(0+xs.length))).toList.toArray=(Array.range ((C-(0+xs.length))*i.size)).map (zv.cells[· %zv.cells.size]!):=by grind[Builtin.zeroCells]
  have hnl:(Builtin.zeroCells zv.cells (C-(0+xs.length))).toList.length=(List.replicate (C-(0+xs.length)) z).length *i.size:=by grind[Builtin.zeroCells]
  have hin2:=kc (news:=(Builtin.zeroCells zv.cells (C-(0+xs.length))).toList) hsrc.mem (by grind) hsrc.newsLen hnl #[];have hce:(news++(Builtin.zeroCells zv.cells (C-(0+xs.length))).toList).toArray++#[]=([]++news).toArray++Builtin.zeroCells zv.cells (C-(0+xs.length)):=by grind
  rw[hce]at hin2;have hcs:(([]++news).toArray++Builtin.zeroCells zv.cells (C-(0+xs.length))).size=(xs++List.replicate (C-(0+xs.length)) z).length *i.size:=by simp only[ww,EN,BM,hsrc.newsLen,size_zeroCells,hzsz,dI,qX,jL]
  obtain⟨cells,hcells⟩:∃cells,cells=([]++news).toArray++Builtin.zeroCells zv.cells (C-(0+xs.length)):=⟨_,rfl⟩
  rw[←hcells]at hrun hin2 hcs;have hxl:(xs++List.replicate (C-(0+xs.length)) z).length=C:=by grind
  let p:Place:=⟨w.heap.size,0,i.size,C,C*i.size⟩
  have hwd:(w.drew.alloc (.cells cells e)).heap=w.heap.push (.cells cells e):=rfl;obtain⟨r1,r2⟩:=cM.alloc (o:=.row i.size false 0 (xs++List.replicate (C-(0+xs.length)) z)) (p:=p) g2 hwd ⟨rfl,rfl,rfl,mA _⟩ rfl
   ⟨rfl,rfl,hxl.symm,by grind,rfl,hs0,fun _=>hcs,hin2.mono (fun id q hq=>⟨q,by rw[cR (by have:=g2.dom id q hq;omega)];omega,ao _,fun _=>rfl⟩) (fun _ _ h=>h)⟩
  refine⟨C-(0+xs.length),upd pl s.heap.n p,M,.slice (some ⟨w.heap.size,0,none⟩) (0+xs.length) C,w.drew.alloc (.cells cells e),trivial,?_,?_,r1,r2,mA _⟩
  ·simp only[execOp,resolve,invoke,builtin,Sem.run_bind,Sem.run_pure,Result.andThen_ok,List.map_toArray,eB,wq,hq,hq2];show(Sem.run P (Builtin.append_ #[t,tx] ty #[Value.slice (some ad) 0 0,cx]) w).andThen _=_
   rw[hrun];rfl
  ·rw[fw]at hge ⊢;refine .slice (dO _ _ _) (ao _) hge (fun k hk=>by grind) (fun _=>⟨.inr (by grind),by grind,by grind,(fun hk=>by grind),(fun k hk=>by grind)⟩)
end
end Go.Ev
namespace Go.Ev
open Go
section
variable{s id ep off len c l h m a b d sz bt i n k:Nat}{hp H:AHeap}{xs ys zs new:List AV}{lo hi mx cap:Option Nat}{op:Bool}{x z:AV}{vl vh vm:Option AV}
theorem ic(hg:qk s hp id ep=some xs)(h1:jU 0 vl=some l)(h2:jU len vh=some h)(q1:l≤h)(q2:h≤c)(q3:c≠l)(e1:off+l=a)(e2:h-l=b)(e3:c-l=d):
  ba H (dz s hp (some (.slice id ep off len (some c))) vl vh none)=some (.val (.slice id ep a b (some d)) H):=by
 have p1:Nat.ble l h=true:=sj q1;have p2:Nat.ble h c=true:=sj q2;have p3:Nat.beq c l=false:=by grind[aA]
 simp only[dz,gQ,hg,h1,h2,room,pH,p1,p2,p3,ye,e1,e2,e3,ba]
theorem Db(hg:qk s hp id ep=some xs)(h1:jU 0 vl=some l)(h2:fG x=some h)(h3:fG z=some m)(q1:l≤h)(q2:h≤m)(q3:m≤c)(q4:m≠l)(e1:off+l=a)(e2:h-l=b)(e3:m-l=d):
  ba H (dz s hp (some (.slice id ep off len (some c))) vl (some x) (some z))=some (.val (.slice id ep a b (some d)) H):=by
 have p1:Nat.ble l h=true:=sj q1;have p2:Nat.ble h m=true:=sj q2;have p3:Nat.beq m l=false:=by grind[aA]
 simp_all[sj,dz,gQ,room,pH,ba]
theorem J7(hg:qk s hp id ep=some xs)(h1:jU 0 vl=some l)(h2:jU len vh=some h)(q1:l=h)(q3:c=l):
  ba H (dz s hp (some (.slice id ep off len (some c))) vl vh none)=some (.val (.slice id ep 0 0 (some 0)) H):=by
 subst q1;subst q3;have p1:Nat.ble c c=true:=sj (ao _);have p3:Nat.beq c c=true:=qZ _;simp only[dz,gQ,hg,h1,h2,room,pH,p1,p3,ye,ba]
theorem J6(hg:qk s hp id ep=some xs)(h1:jU 0 vl=some l)(h2:jU len vh=some h)(q1:l≤h)(q2:h+off≤xs.length)(e1:off+l=a)(e2:h-l=b):
  ba H (dz s hp (some (.slice id ep off len none)) vl vh none)=some (.val (.slice id ep a b none) H):=by
 grind[Nat.ble_eq_true_of_le,dz,gQ,room,pH,ba]
theorem yM(hg:H.get id=some (.row sz op ep xs))(e:(xs.drop off).take len=zs):kV H (.slice id ep off len cap)=some zs:=by grind[Nat.beq_refl,kV,km]
theorem VU{xs ys:List AV}{n:Nat}(h:xs.length=n):((xs++ys).drop 0).take n=xs:=by simp_all
theorem wi{xs:List AV}{t:Bool}{n:Nat}(h:aq xs=0):Nat.ble (AV.ps xs t).top n=true:=by simp_all[AV.top]
theorem LI(hg:H.get id=some (.row sz op ep xs))(hx:kV H x=some new)(hf:dD sz new=true)(hne:new≠[])(hc:len+new.length≤c)(hl:off+len+new.length≤xs.length)(hs:small (len+new.length) bt=true)(e1:len+new.length=n)(e2:bC xs (off+len) new=ys):
  eH (cP sz bt H (some (.slice id ep off len (some c))) (some x))=some (.val (.slice id ep off n (some c)) (H.put id (.row sz op ep ys))):=by
 subst e1;cases new with
 |nil=>simp_all
 |cons y r=>simp_all[sj,cP,gV,gh,eH]
theorem SV(hx:kV H x=some []):eH (cP sz bt H (some (.slice id ep off len cap)) (some x))=some (.val (.slice id ep off len cap) H):=by grind[cP,gV,gh,eH]
theorem U4(hg:H.get id=some (.row sz op ep xs))(hx:kV H x=some new)(hf:dD sz new=true)(hne:new≠[])(hc:c<len+new.length)(hs:small (len+new.length) bt=true)(e1:(xs.drop off).take len++new=ys)(e2:ys.length=n):
  eH (cP sz bt H (some (.slice id ep off len (some c))) (some x))=some (.val (.slice H.n 0 0 n none) (H.push (.row sz true 0 ys))):=by
 cases new with
 |nil=>simp_all
 |cons y r=>
  have p1:Nat.beq ep ep=true:=qZ ep;have p2:Nat.beq sz sz=true:=qZ sz;have p3:Nat.ble (len+(y::r).length) c=false:=by grind[bK]
  simp_all[cP,gV,gh,io,eH]
theorem Tl(hg:H.get id=some (.row sz op ep xs))(hk:0<k)(hc:c<len+k)(hf:dD sz [z]=true)(hs:small (len+k) bt=true)(hs2:small k bt=true)(e1:(xs.drop off).take len++List.replicate k z=ys)(e2:ys.length=n):
  eH (Cn sz bt z H (some (.slice id ep off len (some c))) (some (.int .i64 (.ofNat k))))=some (.val (.slice H.n 0 0 n none) (H.push (.row sz true 0 ys))):=by
 have p1:Nat.beq ep ep=true:=qZ ep;have p2:Nat.beq sz sz=true:=qZ sz;grind[Nat.ble_eq_true_of_le,Nat.blt,Cn,KP,io,eH]
theorem Lp(hg:H.get id=some (.row sz op ep xs))(hx:kV H x=some zs)(hf:dD sz (zs.take len)=true)(e1:min zs.length len=k)(e2:bC xs off (zs.take len)=ys):
  eH (uI sz H (some (.slice id ep off len cap)) (some x))=some (.val (.int .i64 (.ofNat k)) (H.put id (.row sz op ep ys))):=by
 grind[Nat.beq_refl,uI,Lr,eH]
theorem Ja(hg:H.get id=some (.row sz op ep xs))(hf:dD sz [z]=true)(e2:bC xs off (List.replicate len z)=ys):
  eH (wZ sz z H (some (.slice id ep off len cap)))=some (.val gU (H.put id (.row sz op ep ys))):=by
 grind[Nat.beq_refl,wZ,eH]
theorem ra{sz:Nat}:∀{xs:List AV}{n:Nat},dD sz xs=true→dD sz (xs.take n)=true
 |[],n,h=>by simp_all
 |x::r,0,_=>rfl
 |x::r,n+1,h=>by
  simp only[List.take_succ_cons,dD,bz]at h ⊢;exact⟨h.1,ra h.2⟩
theorem rb{sz:Nat}:∀{xs:List AV}{n:Nat},dD sz xs=true→dD sz (xs.drop n)=true
 |[],n,h=>by simp_all
 |x::r,0,h=>h
 |x::r,n+1,h=>by
  simp only[List.drop_succ_cons,dD,bz]at h ⊢;exact rb h.2
end
theorem Bh{P:Program}{G:eA}{f:FuncId}{fn:Func}{tS tR e:TypeId}{n:Nat}(hf:P.funcs[f]?=some fn)(hname:(fn.name== "runtime.NumGoroutine")=false)(hb:fn.body.isNone=true)(hn:Extern.findNext fn=none)(he:Extern.find fn=some (Extern.SlicesOverlaps.overlaps #[tS,tS] #[tR]))
  (ht:P.underlying tS=some (.slice e))(hi:cS P e=some n){xs ys:List AV}{t:Bool}{id off len c sz:Nat}{op:Bool}{h:AHeap}(hne:xs≠[])(hgo:h.get id=some (.row sz op 0 ys)):
  aH P G f [.ps xs t,.slice id 0 off len (some c)] h (fun v h'=>v=.bool false∧h'=h):=by
 intro pl M w vs hG hr hv;right;refine⟨.bool false,w,.bool false,h,?_,⟨rfl,rfl⟩,pl,M,.bool false,hr,dZ.refl _ _ _ _,ao _⟩;have v0:=hv.at_ 0 _ rfl;have v1:=hv.at_ 1 _ rfl;have hvs:vs=#[vs.getD 0 undef,vs.getD 1 undef]:=by
  have hl:vs.size=2:=hv.len.symm;apply Array.ext
  ·omega
  ·intro i h1 h2
   match i,h2 with
   |0,_=>simp_all
   |1,_=>simp_all
 rw[run_callFunc_extern hf hname hb hn he,hvs];generalize vs.getD 0 undef=x0 at v0;generalize vs.getD 1 undef=x1 at v1;cases v0 with
 | ps hl htt hm hs hc=>
  rename_i a cap0 sz0 c0;obtain⟨m1,m2,m3,m4⟩:=hm hne;have hpos:0<xs.length:=pA.2 hne;cases v1 with
  | slice hp hep hl1 hk ha=>
   rename_i cap1 b p;have hcap:=hk c rfl;subst hcap;obtain⟨tA,frA,hA⟩:=hr.imm _ _ m2;have ho:=hr.obj id p _ hp hgo;obtain⟨cB,tB,hB,hpe⟩:∃cB tB,w.heap[p.blk]?=some (.cells cB tB (0,0))∧p.ep=0:=by
    cases hb2:w.heap[p.blk]? with
    |none=>rw[hb2]at ho;exact ho.elim
    |some ob=>
     rw[hb2]at ho;cases ob with
     |cells cB tB fr=>obtain⟨h1,_,_,_,h5,_⟩:=ho;grind
     |_=>exact ho.elim
   have hsep:=hr.sep id p hp;have hsz:=cE hi w;have hc0:c0.size≠0:=by
    have:0<xs.length*sz0:=Nat.mul_pos hpos m4;omega
   obtain⟨q1,-⟩:=ha hpe.symm
   suffices hh:(Extern.SlicesOverlaps.overlaps #[tS,tS] #[tR] #[.slice (some a) xs.length cap0,.slice (some b) len cap1]).run P w=.ok (.bool false) w by rw[hh];rfl
   generalize xs.length=la;change Sem.run P (α:=Value) (do
    let some t:=(#[tS,tS]:Array TypeId)[0]?|stuck "slices.overlaps: no parameter types"
    let .slice elem ←underlying t|stuck "slices.overlaps: slice type expected"
    let size ←sizeOf elem
    match(some a:Option Addr),(some b:Option Addr)with
    | some a,some b=>
     if la=0∨len=0∨size=0 then pure (Value.bool false)
     else if a.block !=b.block&&(←frozen a)&&(←frozen b)then unsupported .addressObserved
     else do
      if a.block !=b.block then do
       noView a;noView b
       if ←mayBeOne a b then return Value.bool ((←choose (.extern "sameAddr.stringBytes" 2))==1)
      pure (Value.bool (a.block==b.block&&a.off<b.off+len*size&&b.off<a.off+la*size))
    |_,_=>pure (Value.bool false)) w=_
   by_cases h0:la=0∨len=0∨n=0
   ·simp[run_underlying ht,hsz,h0]
   ·have hbk:b=⟨p.blk,off*p.sz,none⟩:=by grind
    subst hbk;have hnb:a.block≠p.blk:=fun e=>by grind
    have hnb1:(a.block !=p.blk)=true:=by grind
    have hnb2:(a.block==p.blk)=false:=by grind
    have f1:∀o,w.frozen? ⟨p.blk,o,none⟩=false:=fun o=>by grind[World.frozen?]
    have s1:w.shape? a.block=some (tA,c0.size):=by grind[World.shape?]
    have s2:w.shape? p.blk=some (tB,cB.size):=by grind[World.shape?]
    cases hsx:c0.size with
    |zero=>omega
    |succ kA=>
     rw[hsx]at s1;cases hfa:w.frozen? a<;>cases hfb:w.frozen? {block:=a.block,off:=kA+1}<;>
     simp[run_underlying ht,hsz,h0,hnb1,hnb2,frozen,noView,viewAt,mayBeOne,stringish,shape,Sem.run,s1,s2,f1,hfa,hfb]
def TU(rs:List Nat):AHeap→List AObj→Nat→AHeap
 |h,[],_=>h
 |h,o::r,i=>TU rs (h.put (fN rs i) (kU (fN rs) o)) r (i+1)
def Xe(rs:List Nat)(h:AHeap):List AObj→Nat→Prop
 |[],_=>True
 |o::r,i=>h.get (fN rs i)=some (kU (fN rs) o)∧Xe rs h r (i+1)
def QL(h:AHeap):List AObj→Nat→Prop
 |[],_=>True
 |o::r,i=>h.get i=some o∧QL h r (i+1)
def Dk(n:Nat):List AObj→Prop
 |[]=>True
 |o::r=>(ep0 o=true∧o.top≤n)∧Dk n r
theorem Pc(rs:List Nat):∀(l:List AObj)(h:AHeap)(i:Nat),(TU rs h l i).n=h.n
 |[],_,_=>rfl
 |_::r,h,i=>Pc rs r _ (i+1)
theorem LD{rs:List Nat}{h:AHeap}:∀{l:List AObj}{i j:Nat}{o:AObj},Xe rs h l i→l[j]?=some o→h.get (fN rs (i+j))=some (kU (fN rs) o)
 |x::r,i,0,o,a,e=>by simp at e;subst e;exact a.1
 |x::r,i,j+1,o,a,e=>by
  have:=LD (i:=i+1) (j:=j) a.2 (by simpa using e);grind
theorem Gn{h:AHeap}:∀{l:List AObj}{i j:Nat}{o:AObj},QL h l i→l[j]?=some o→h.get (i+j)=some o
 |x::r,i,0,o,a,e=>by simp at e;subst e;exact a.1
 |x::r,i,j+1,o,a,e=>by
  have:=Gn (i:=i+1) (j:=j) a.2 (by simpa using e);grind
theorem vk{n:Nat}:∀{l:List AObj},Dk n l→∀o,o∈l→ep0 o=true∧o.top≤n
 |x::r,a,o,e=>by
  rcases fE.1 e with rfl|e
  ·exact a.1
  ·exact vk a.2 o e
theorem FA{rs:List Nat}:∀{l:List AObj}{h:AHeap}{i k:Nat}{o:AObj},(∀j,j<l.length→fN rs (i+j)<1000000)→(TU rs h l i).get k=some o→
  (∃j o',l[j]?=some o'∧k=fN rs (i+j)∧o=kU (fN rs) o')∨((∀j,j<l.length→k≠fN rs (i+j))∧h.get k=some o)
 |[],h,i,k,o,_,e=>.inr ⟨fun j hj=>absurd hj (oX _),e⟩
 | x::r,h,i,k,o,hb,e=>by
  rcases FA (l:=r) (i:=i+1) (fun j hj=>by have:=hb (j+1) (by simp_all);grind) e with⟨j,o',h1,h2,h3⟩|⟨h1,h2⟩
  ·exact .inl ⟨j+1,o',by simp_all,by grind,h3⟩
  ·rcases AHeap.get_put (by have:=hb 0 (Nat.zero_lt_succ _);omega) h2 with⟨h3,h4⟩|⟨h3,h4⟩
   ·exact .inl ⟨0,x,rfl,h3,h4⟩
   grind
theorem Gc{q:Nat→Bool}:∀{rs:List Nat}{i:Nat},rs.all q=true→i<rs.length→q (fN rs i)=true
 |x::r,0,h,_=>by simp only[List.all_cons,bz]at h;exact h.1
 |x::r,i+1,h,hi=>by
  simp only[List.all_cons,bz]at h;exact Gc (rs:=r) (i:=i) h.2 (by simp_all)
theorem po{P:Program}{G:eA}(hG:iT G){f:FuncId}{args args':List AV}{v v':AV}{L L' os os':List AObj}(rs:List Nat)
  (h0:aH P G f args (av L) (fun v1 h1=>v1=v∧h1=av L'))(ea:l0 (fN rs) args=args')(ev:Ev.ren (fN rs) v=v')
  (c:(zx rs&&(Nat.beq rs.length L.length&&(Nat.beq L'.length L.length&&rs.all fun x=>Nat.blt x 1000000)))=true)
  (hL:Dk L.length L)(hL':Dk L.length L')(ht:aq args≤L.length)(hv:v.top≤L.length)
  (a1:Xe rs (av os) L 0)(a2:QL (av L') L' 0)(a3:av os'=TU rs (av os) L' 0):aH P G f args' (av os) (fun v1 h1=>v1=v'∧h1=av os'):=by
 simp only[bz,aA,decide_eq_true_eq]at c;obtain⟨c1,c2,c3,c4⟩:=c;subst ea;subst ev;rw[a3];refine aH.frame hG (fN rs) c3 (vk hL) (vk hL') (fun i o hi=>by have:=Gn a2 hi;simp_all) ht hv (fun i j hi hj=>rY c1 i j (by omega) (by omega)) h0
  (fun i o hi=>by have:=LD a1 hi;simp_all) (fun k o hk=>?_) (Pc rs L' _ 0)
 rcases FA (fun j hj=>by have:=Gc c4 (show 0+j<rs.length by omega);simp_all) hk with⟨j,o',h1,h2,h3⟩|⟨h1,h2⟩
 all_goals grind
theorem vf{ρ:Nat→Nat}{sz ep:Nat}{b:Bool}{xs:List AV}(h:aq xs=0):kU ρ (.row sz b ep xs)=.row sz b ep xs:=by grind[kU,eN]
theorem fx{P:Program}{G:eA}(hG:iT G){f:FuncId}{args args':List AV}{v v':AV}{sz:Nat}{b b':Bool}{xs xs':List AV}{os os':List AObj}(id:Nat)(hx:aq xs=0)(hx':aq xs'=0)
  (h0:aH P G f args (av [.row sz b 0 xs]) (fun v1 h1=>v1=v∧h1=av [.row sz b' 0 xs']))(ea:l0 (fN [id]) args=args')(ev:Ev.ren (fN [id]) v=v')(c:Nat.blt id 1000000=true)
  (ht:Nat.ble (aq args) 1=true)(hv:Nat.ble v.top 1=true)(a1:(av os).get id=some (.row sz b 0 xs))(a3:av os'=(av os).put id (.row sz b' 0 xs')):aH P G f args' (av os) (fun v1 h1=>v1=v'∧h1=av os'):=
 po hG [id] h0 ea ev (by simp only[zx,jx,List.all_cons,List.all_nil,c];rfl) ⟨⟨rfl,by grind[AObj.top]⟩,trivial⟩ ⟨⟨rfl,by grind[AObj.top]⟩,trivial⟩ (vY ht) (vY hv)
  ⟨by rw[vf hx];exact a1,trivial⟩ ⟨rfl,trivial⟩ (by rw[a3];show _=AHeap.put _ _ (kU _ _);rw[vf hx'];rfl)
end Go.Ev
namespace Go.Ev
open Go
def fu(u:TUnit)(ks:List TUnit):TUnit:=⟨u.act,u.item,u.n,u.kind,u.label,u.head,u.words,ks⟩
def mV(w:List PWord)(u:TUnit):TUnit:=⟨u.act,u.item,u.n,u.kind,u.label,u.head,w,u.kids⟩
def z8(w:List PWord)(u:TUnit):TUnit:=⟨u.act,u.item,u.n,u.kind,u.label,w,u.words,u.kids⟩
def pz(s:aT)(u:TUnit):TUnit:=⟨u.act,u.item,u.n,u.kind,s,u.head,u.words,u.kids⟩
def wS(i:Nat)(x:TUnit)(l:List TUnit):List TUnit:=l.take i++(x::l.drop i)
def gG(i:Nat)(u:TUnit):TUnit:=fu u (u.kids.eraseIdx i)
def dC(i:Nat)(x:TUnit)(u:TUnit):TUnit:=fu u (wS i x u.kids)
mutual
def dK(p:PId)(f:TUnit→TUnit):TUnit→TUnit
 |⟨a,i,n,k,l,h,w,ks⟩=>bif fL p ⟨a,i,n,k,l,h,w,ks⟩then f ⟨a,i,n,k,l,h,w,ks⟩else⟨a,i,n,k,l,h,w,ef p f ks⟩
def ef(p:PId)(f:TUnit→TUnit):List TUnit→List TUnit
 |[]=>[]
 |k::r=>bif bB p k then dK p f k::r else k::ef p f r
end
section
variable{p:PId}{f:TUnit→TUnit}{u w:TUnit}{l r:List TUnit}{i:Nat}
theorem E0(p:PId)(f:TUnit→TUnit)(u:TUnit):dK p f u=bif fL p u then f u else fu u (ef p f u.kids):=by cases u;rw[dK];rfl
theorem sa:ef p f []=[]:=by rw[ef]
theorem jM(k:TUnit)(r:List TUnit):ef p f (k::r)=bif bB p k then dK p f k::r else k::ef p f r:=by rw[ef]
theorem qR(h:fL p u=true):dK p f u=f u:=by rw[E0,h];rfl
theorem kM(h:fL p u=false):dK p f u=fu u (ef p f u.kids):=by rw[E0,h];rfl
def jj(p:PId)(f:TUnit→TUnit)(l:List TUnit)(i:Nat)(r:List TUnit):Prop:=ef p f l=l.take i++ef p f r
theorem jj.start:jj p f l 0 l:=rfl
theorem jj.skip(h:jj p f l i (w::r))(hd:l.drop i=w::r)(hw:bB p w=false):jj p f l (i+1) r:=by
 unfold jj at *;have hi:i<l.length:=by grind[List.drop_eq_nil_of_le]
 have e:l[i]=w:=by
  have:=congrArg (·[0]?) hd;grind
 grind[jM]
theorem jj.hit(h:jj p f l i (w::r))(hd:l.drop i=w::r)(hw:bB p w=true):ef p f l=l.set i (dK p f w):=by
 unfold jj at h;have hi:i<l.length:=by grind[List.drop_eq_nil_of_le]
 rw[h,jM,hw,List.set_eq_take_append_cons_drop,if_pos hi];have:l.drop (i+1)=r:=by rw[←BF,hd];rfl
 simp_all
theorem jj.done(h:jj p f l i [])(hd:l.drop i=[]):ef p f l=l:=by simp_all[jj,sa,wz]
theorem HT:∀(u:TUnit),bB p u=false→dK p f u=u:=TUnit.ind fun u ih h=>by
 have hw:=AZ h;rw[gd]at hw;cases hi:fL p u with
 |true=>grind
 | false=>
  rw[hi]at hw;simp only[cond_false]at hw;have key:∀(r:List TUnit),(∀k,k∈r→k∈u.kids)→cn p r=[]→ef p f r=r:=by
   intro r;induction r with
   |nil=>grind[sa]
   |cons k r ihr=>
    intro hm hr;cases hk:bB p k with
    |true=>grind[oJ,lq]
    |false=>simp_all[i9,jM]
  have hk:cn p u.kids=[]:=by grind
  rw[kM hi,key u.kids (fun _ h=>h) hk];cases u;rfl
end
end Go.Ev
namespace Go.Ev
open Go
noncomputable def bb(n:Nat):AV:=.int .i64 (.ofNat n)
theorem W7(n:Nat):(bb n).top=0:=rfl
section
variable{l part:List aT}{i:Nat}{acc:List Nat}
def nc(l part:List aT)(i:Nat)(acc:List Nat):Prop:=acc.length≤i∧i≤l.length+part.length∧∃f,uK l part=acc++vu part f l i∧l.length<i+f
theorem nc.start(hp:0<part.length):nc l part 0 []:=by
 refine⟨ao _,bN _,l.length+1,?_,by omega⟩;unfold uK;grind
theorem KE{f:Nat}(hi:i+part.length≤l.length):vu part (f+1) l i=bif cG eX ((l.take (i+part.length)).drop i) part then i::vu part f l (i+part.length)else vu part f l (i+1):=by
 have e:(l.take (i+part.length)).drop i=(l.drop i).take part.length:=by grind
 rw[vu,sj hi,e];rfl
theorem nc.skip(h:nc l part i acc)(hi:i+part.length≤l.length)(hp:0<part.length)(hm:cG eX ((l.take (i+part.length)).drop i) part=false):nc l part (i+1) acc:=by
 obtain⟨h1,h2,f,h3,h4⟩:=h;cases f with
 |zero=>omega
 |succ f=>rw[KE hi,hm]at h3;exact⟨by omega,by omega,f,h3,by omega⟩
theorem nc.hit(h:nc l part i acc)(hi:i+part.length≤l.length)(hp:0<part.length)(hm:cG eX ((l.take (i+part.length)).drop i) part=true):nc l part (i+part.length) (acc++[i]):=by
 obtain⟨h1,h2,f,h3,h4⟩:=h;cases f with
 |zero=>omega
 |succ f=>
  rw[KE hi,hm]at h3;exact⟨by grind,by omega,f,by simp_all,by omega⟩
theorem nc.done(h:nc l part i acc)(hi:l.length<i+part.length):uK l part=acc:=by
 obtain⟨h1,h2,f,h3,h4⟩:=h;cases f with
 |zero=>grind[vu]
 |succ f=>grind[vu,bK]
theorem nc.len(h:nc l part i acc):acc.length≤l.length+part.length:=bT h.1 h.2.1
end
def qP(g:Nat):List Nat→Nat→Nat→Prop
 |[],_,_=>True
 |p::r,lo,n=>lo≤p∧p+g≤n∧qP g r (p+g) n
theorem sC(part:List aT)(hp:0<part.length):∀(f:Nat)(l:List aT)(i:Nat),qP part.length (vu part f l i) i l.length
 |0,l,i=>by rw[vu];trivial
 | f+1,l,i=>by
  rw[vu];have key:∀(m:List Nat)(a b n:Nat),a≤b→qP part.length m b n→qP part.length m a n:=by
   intro m;cases m with
   |nil=>intro _ _ _ _ _;trivial
   |cons p r=>intro a b n h ⟨h1,h2,h3⟩;exact⟨bT h h1,h2,h3⟩
  cases hb:Nat.ble (i+part.length) l.length with
  |false=>trivial
  |true=>
   rw[bK]at hb;have hb:=of_decide_eq_true hb;simp only[cond_true];cases cG eX ((l.drop i).take part.length) part with
   |true=>exact⟨ao _,hb,sC part hp f l _⟩
   |false=>exact key _ _ _ _ (mA i) (sC part hp f l (i+1))
theorem Cd(l part:List aT):qP part.length (uK l part) 0 l.length:=by
 unfold uK;cases part with
 |nil=>trivial
 |cons x r=>exact sC (x::r) (yc _) _ l 0
def oG(g:Nat)(l:List Nat)(n:Nat):Prop:=∀i,i<l.length→gD l i+g≤n∧∀j,j<i→gD l j+g≤gD l i
theorem A8{g n:Nat}:∀{l:List Nat}{lo:Nat},qP g l lo n→oG g l n
 |[],_,_=>fun i hi=>absurd hi (oX _)
 | p::r,lo,⟨h1,h2,h3⟩=>by
  have low:∀(m:List Nat)(a:Nat),qP g m a n→∀i,i<m.length→a≤gD m i:=by
   intro m;induction m with
   |nil=>simp_all
   |cons q m ih=>
    intro a ⟨k1,k2,k3⟩ i hi;cases i with
    |zero=>exact k1
    |succ i=>have:=ih _ k3 i (by simp_all);grind[gD]
  intro i hi;cases i with
  |zero=>exact⟨h2,fun j hj=>absurd hj (oX _)⟩
  |succ i=>
   have hi':i<r.length:=by simp_all
   obtain⟨k1,k2⟩:=A8 h3 i hi';refine⟨k1,fun j hj=>?_⟩;cases j with
   |zero=>exact low r _ h3 i hi'
   |succ j=>exact k2 j (by omega)
def gZ(at_ g:Nat)(m l:List PWord):List PWord:=l.take at_++m++l.drop (at_+g)
def tH(a b:Int)(g:Nat)(ps:List Nat)(fresh:List aT):Nat→List PWord→List PWord
 |0,l=>l
 |i+1,l=>tH a b g ps fresh i (gZ (gD ps i) g (cC a b fresh (i*fresh.length)) l)
theorem MF{at_ g:Nat}{m l:List PWord}(h:at_+g≤l.length):(gZ at_ g m l).length+g=l.length+m.length:=by grind[gZ]
structure PutI(a b:Int)(g:Nat)(ps:List Nat)(fresh:List aT)(w:List PWord)(i:Nat)(l:List PWord):Prop where
 le:i≤ps.length
 all:tH a b g ps fresh ps.length w=tH a b g ps fresh i l
 room:∀j,j<i→gD ps j+g≤l.length
 small:l.length≤w.length+(ps.length-i)*fresh.length
theorem PutI.start{a b:Int}{g:Nat}{ps:List Nat}{fresh:List aT}{w:List PWord}(h:oG g ps w.length):PutI a b g ps fresh w ps.length w:=⟨ao _,rfl,fun j hj=>(h j hj).1,by omega⟩
theorem PutI.step{a b:Int}{g:Nat}{ps:List Nat}{fresh:List aT}{w l:List PWord}{i:Nat}(hg:oG g ps w.length)(h:PutI a b g ps fresh w (i+1) l):PutI a b g ps fresh w i (gZ (gD ps i) g (cC a b fresh (i*fresh.length)) l):=by
 have hr:=h.room i (Nat.lt_succ_self i);have hl:=MF (m:=cC a b fresh (i*fresh.length)) hr;rw[f8]at hl;have hle:=h.le;refine⟨by omega,h.all,fun j hj=>?_,?_⟩
 ·have:=(hg i (by omega)).2 j hj;grind
 ·have hs:=h.small;have e:(ps.length-i)*fresh.length=(ps.length-(i+1))*fresh.length+fresh.length:=by rw[show ps.length-i=(ps.length-(i+1))+1 by omega,qK]
  omega
theorem PutI.done{a b:Int}{g:Nat}{ps:List Nat}{fresh:List aT}{w l:List PWord}(h:PutI a b g ps fresh w 0 l):tH a b g ps fresh ps.length w=l:=h.all
theorem PutI.len{a b:Int}{g:Nat}{ps:List Nat}{fresh:List aT}{w l:List PWord}{i:Nat}(h:PutI a b g ps fresh w i l)(h1:w.length≤2^18)(h2:ps.length≤2^9)(h3:fresh.length≤2^9):l.length≤2^19:=by
 have:=h.small;have:(ps.length-i)*fresh.length≤2^9*2^9:=Nat.mul_le_mul (by omega) h3;omega
section
variable{sz b id n n' k l h m:Nat}{H:AHeap}{xs ys zs:List AV}{t:Bool}{x z:AV}{vl:Option AV}
theorem IU(hh:px sz xs=true)(h1:jU 0 vl=some l)(h2:fG x=some h)(h3:fG z=some h)(q1:l≤h)(q2:h≤xs.length)(e:(xs.take h).drop l=ys):ba H (dz sz H (some (.ps xs t)) vl (some x) (some z))=some (.val (.ps ys true) H):=by simp_all[sj,dz,gQ,uD,ba]
theorem PK(hh:px sz xs=true)(h1:fG x=some l)(q1:l≤xs.length)(e:xs.drop l=ys):ba H (dz sz H (some (.ps xs false)) (some x) none none)=some (.val (.ps ys false) H):=by
 have p2:Nat.ble l xs.length=true:=sj q1;have p3:Nat.ble xs.length xs.length=true:=sj (ao _);simp only[dz,gQ,hh,jU,h1,uD,p2,p3,ye,List.take_length,e,Bool.false_and,ba]
theorem Y4(hf:dD sz xs=true)(hf2:dD sz ys=true)(hne:ys≠[])(hs:small (xs.length+ys.length) b=true)(e:xs++ys=zs)(e2:zs.length=n):eH (cP sz b H (some (.ps xs true)) (some (.ls ys)))=some (.val (.slice H.n 0 0 n none) (H.push (.row sz true 0 zs))):=by
 cases ys with
 |nil=>simp_all
 |cons y r=>simp_all[cP,gV,kV,km,gh,io,eH]
theorem SK(e:ys=[]):eH (cP sz b H (some (.ps xs true)) (some (.ls ys)))=some (.val (.ps xs true) H):=by subst e;rfl
def ta:List AV→Nat
 |[]=>0
 |_::_=>1
theorem U3(hg:H.get id=some (.row sz true 0 xs))(hp:H.put id (.row sz true 0 xs)=H)(hf:dD sz ys=true)(hl:xs.length=n)(hs:small (n+ys.length) b=true)(e:xs++ys=zs)(e2:zs.length=n'):
  eH (cP sz b H (some (.slice id 0 0 n none)) (some (.ps ys t)))=some (.val (.slice id (ta ys) 0 n' none) (H.put id (.row sz true (ta ys) zs))):=by
 cases ys with
 |nil=>
  rw[ec]at e;subst e;simp only[ta,hp,←e2,hl];rfl
 |cons y r=>
  have p1:Nat.beq 0 0=true:=rfl;have p2:Nat.beq sz sz=true:=qZ sz;have p4:xs.take n=xs:=wz (by omega);have p5:n+(y::r).length=n':=by grind
  have p3:Nat.ble n' xs.length=false:=by grind[bK]
  rw[p5]at hs;simp only[cP,gV,kV,km,gh,hf,hg,p1,p2,hs,ye,p3,p4,e,p5,ta,eH,fw]
theorem SJ(hf:dD sz xs=true)(hf2:dD sz ys=true)(hne:ys≠[])(hs:small (xs.length+ys.length) b=true)(e:xs++ys=zs)(e2:zs.length=n):eH (cP sz b H (some (.ps xs true)) (some (.ps ys t)))=some (.val (.slice H.n 0 0 n none) (H.push (.row sz true 0 zs))):=by
 cases ys with
 |nil=>simp_all
 |cons y r=>simp_all[cP,gV,kV,km,gh,io,eH]
end
end Go.Ev
namespace Go.Ev
open Go
def n4(l:List Nat)(n:Int):List Nat:=bif ah n 0 then l else bif aC (Int.ofNat l.length) n then[]else(l.take n.toNat).drop (n.toNat-1)
theorem UY{l:List Nat}{a b i:Nat}(h:i<((l.take b).drop a).length):gD ((l.take b).drop a) i=gD l (a+i):=by grind[gD]
theorem Ng{g n a b:Nat}{l:List Nat}(h:oG g l n):oG g ((l.take b).drop a) n:=by
 intro i hi;have hl:((l.take b).drop a).length≤l.length-a:=by grind
 obtain⟨h1,h2⟩:=h (a+i) (by omega);grind[UY]
theorem Gs{g n:Nat}{l:List Nat}{k:Int}(h:oG g l n):oG g (n4 l k) n:=by
 unfold n4;cases ah k 0 with
 |true=>grind
 |false=>
  cases aC (Int.ofNat l.length) k with
  |true=>exact fun i hi=>absurd hi (oX _)
  |false=>exact Ng h
theorem FL(l:List Nat)(k:Int):(n4 l k).length≤l.length:=by
 unfold n4;grind
theorem DJ{g n:Nat}(hg:0<g):∀{l:List Nat}{lo:Nat},qP g l lo n→lo≤n→l.length+lo≤n
 |[],lo,_,h=>by simp_all
 |p::r,lo,⟨h1,h2,h3⟩,_=>by have:=DJ hg h3 h2;grind
theorem KD(l part:List aT):(uK l part).length≤l.length:=by
 cases part with
 |nil=>exact bN _
 |cons x r=>have:=DJ (yc _) (Cd l (x::r)) (bN _);omega
theorem FI(l part:List aT):oG part.length (uK l part) l.length:=A8 (Cd l part)
def xA(c i:Nat)(l:List Nat):List Nat:=(l.take i).map (· +c)++l.drop i
theorem Sa(c i:Nat)(l:List Nat):(xA c i l).length=l.length:=by grind[xA]
theorem U8{c i:Nat}{l:List Nat}(h:i<l.length):gD (xA c i l) i=gD l i:=by
 unfold xA gD List.getD;grind
theorem OX{c i:Nat}{l:List Nat}(h:i<l.length):(xA c i l).set i (gD l i+c)=xA c (i+1) l:=by
 unfold xA;have h1:((l.take i).map (· +c)).length=i:=by grind
 rw[List.set_append_right _ _ (by omega),h1,Nat.sub_self,Oy h,List.set_cons_zero,Oa h,pt];grind[gD]
theorem OZ{c n:Nat}{l m:List Nat}(h:l.length=n):(xA c n (l++m)).take n=l.map (· +c):=by grind[xA]
theorem I4{c i:Nat}{l:List Nat}(h:i<l.length):gD (l.map (· +c)) i=gD l i+c:=by grind[gD]
theorem QO{c n:Nat}{l:List Nat}(h:oG c l n):oG 0 (l.map (· +c)) n:=by
 intro i hi;rw[cQ]at hi;obtain⟨h1,h2⟩:=h i hi;grind[I4]
def vi(l:List PWord):List PWord:=bif aC 256 (Int.ofNat l.length)then[]else l
def zK(l:List PWord):Int:=bif aC 256 (Int.ofNat l.length)then 6 else 0
def xp(a b:Int)(g:Nat)(ps:List Nat)(fresh:List aT)(w:List PWord):List PWord×Int:=(vi (tH a b g ps fresh ps.length w),zK (tH a b g ps fresh ps.length w))
def Fm(a b:Int)(w:List PWord)(old new:List aT)(n:Int):List PWord×Int:=bif ah (Int.ofNat old.length) 0 then([],1)else bif ah (Int.ofNat (n4 (uK (b7 w) old) n).length) 0 then([],4)else xp a b old.length (n4 (uK (b7 w) old) n) new w
def DN(a b:Int)(w:List PWord)(part new:List aT)(n:Int):List PWord×Int:=
 bif ah (Int.ofNat new.length) 0||(ah (Int.ofNat part.length) 0&&ax (ah n 0))then([],1)
 else bif ah (Int.ofNat part.length) 0 then xp a b 0 [0] new w
 else bif ah (Int.ofNat (n4 (uK (b7 w) part) n).length) 0 then([],4)else xp a b 0 ((n4 (uK (b7 w) part) n).map (· +part.length)) new w
end Go.Ev
namespace Go.Ev
open Go
def kR(x k:TUnit):Bool:=ah k.kind x.kind&&eX k.label x.label
def yB(p x:TUnit):Int:=bif jk p.kind x.kind then(bif p.kids.any (kR x)then 10 else 0)else 9
def Rl(u:TUnit)(p:PId)(x:TUnit):Bool:=aC 8 (Int.ofNat ((pR p u).length+1+nJ x))
abbrev pS:=TUnit×Int
def Nb(u:TUnit)(te:Int)(full cf:Bool)(u2:TUnit):pS:=bif ah te 0 then(bif full then(u,6)else bif cf then(u,5)else(u2,0))else(u,te)
def ES(u:TUnit)(e:Int)(u2:TUnit):pS:=bif ah e 0 then(u2,0)else(u,e)
def TK(u:TUnit)(te:Int)(u2:TUnit):pS:=bif ah te 10 then(u,10)else(u2,0)
def P8(u:TUnit)(te:Int)(full:Bool)(u2:TUnit):pS:=bif ah te 0 then(bif full then(u,6)else(u2,0))else(u,te)
def HK(e1 e2:Int)(sp:PSpot)(e3:Int):PSpot×Int:=bif ah e1 0 then(bif ah e2 0 then(bif ah e3 0 then(sp,0)else(dL,e3))else(dL,e2))else(dL,e1)
noncomputable def eE(r:pS):AV:=.tuple [eU r.1,.int .i64 r.2]
end Go.Ev
namespace Go.Ev
open Go
theorem su{p:PId}{u:TUnit}(h:bB p u=true):dA p u∈bu u∧bq (dA p u)=p:=by grind[Ot,Su,CH]
theorem rv(l m:List TUnit):ip (l++m)=ip l++ip m:=by
 induction l with
 |nil=>rw[rk];rfl
 |cons k r ih=>grind[gz]
theorem qp(u:TUnit)(l:List TUnit):dj (fu u l)=bq u::ip l:=by rw[nF];rfl
theorem l9(u:TUnit):nU u=(dj u).length:=(ue u).symm
theorem wC(u:TUnit)(l:List TUnit):bu (fu u l)=fu u l::du l:=by rw[da];rfl
theorem sy{q:PId}:∀(u:TUnit),bB q u=true→∃v C,v∈bu u∧bq v=q∧(dj u).Perm (C++dj v)∧∀f,(dj (dK q f u)).Perm (C++dj (f v))∧
  ∀x,x∈bu (dK q f u)→x∈bu (f v)∨∃y,y∈bu u∧bq x=bq y∧x.kids.length=y.kids.length∧x.head=y.head∧x.words=y.words:=TUnit.ind fun u ih h=>by
 cases hi:fL q u with
 |true=>
  refine⟨u,[],dh u,(gu q u).1 hi,List.Perm.refl _,fun f=>?_⟩;grind[qR]
 | false=>
  have key:∀(r:List TUnit),(∀k,k∈r→k∈u.kids)→cn q r≠[]→∃v C,v∈du r∧bq v=q∧(ip r).Perm (C++dj v)∧∀f,(ip (ef q f r)).Perm (C++dj (f v))∧(ef q f r).length=r.length∧
    ∀x,x∈du (ef q f r)→x∈bu (f v)∨∃y,y∈du r∧bq x=bq y∧x.kids.length=y.kids.length∧x.head=y.head∧x.words=y.words:=by
   intro r;induction r with
   |nil=>grind[kN]
   | cons k r ihr=>
    intro hm hw;cases hk:bB q k with
    | true=>
     obtain⟨v,C,h1,h2,h3,h4⟩:=ih k (hm k (e9 ..)) hk;refine⟨v,C++ip r,by grind[bO],h2,?_,fun f=>?_⟩
     ·grind[gz]
     ·have e:ef q f (k::r)=dK q f k::r:=by rw[jM,hk];rfl
      rw[e];refine⟨?_,rfl,fun x hx=>?_⟩
      ·grind[gz]
      ·rw[bO]at hx;rcases je.1 hx with hx|hx
       ·grind[bO]
       ·exact .inr ⟨x,by grind[bO],rfl,rfl,rfl,rfl⟩
    |false=>
     rw[i9 hk]at hw;obtain⟨v,C,h1,h2,h3,h4⟩:=ihr (fun x hx=>hm x (fk _ hx)) hw;refine⟨v,dj k++C,by grind[bO],h2,by grind[gz],fun f=>?_⟩;have e:ef q f (k::r)=k::ef q f r:=by rw[jM,hk];rfl
     rw[e];refine⟨by grind[gz],by simp_all,fun x hx=>?_⟩;rw[bO]at hx;rcases je.1 hx with hx|hx
     ·exact .inr ⟨x,by grind[bO],rfl,rfl,rfl,rfl⟩
     grind[bO]
  have hw:cn q u.kids≠[]:=by
   intro e;have:=lq h;rw[gd,hi,e]at this;simp_all
  obtain⟨v,C,h1,h2,h3,h4⟩:=key u.kids (fun _ h=>h) hw;refine⟨v,bq u::C,by grind[da],h2,by grind[nF],fun f=>?_⟩;rw[kM hi];refine⟨by grind[qp],fun x hx=>?_⟩;rw[wC]at hx;rcases fE.1 hx with rfl|hx
  ·exact .inr ⟨u,dh u,rfl,(h4 f).2.1,rfl,rfl⟩
  grind[da]
theorem vo{p:PId}:∀(u:TUnit),iK p u=true→∃q i,q∈bu u∧rF p u=bq q∧pM p u=Int.ofNat i∧i<q.kids.length∧bq (gD q.kids i)=p:=TUnit.ind fun u ih h=>by
 have hh:bB p u=true:=by
  cases e:bB p u with
  |true=>rfl
  |false=>grind[QD]
 cases hi:fL p u with
 |true=>
  unfold iK at h;rw[qS hi]at h;cases h
 | false=>
  have key:∀(r:List TUnit),cn p r≠[]→∃j k,j<r.length∧gD r j=k∧bB p k=true∧cn p r=aG p k∧∀n,dE (bB p) r n=Int.ofNat (n+j):=by
   intro r;induction r with
   |nil=>grind[kN]
   | cons k r ihr=>
    intro hw;cases hk:bB p k with
    |true=>
     refine⟨0,k,yc _,rfl,hk,oJ hk,fun n=>?_⟩;unfold dE;simp_all
    | false=>
     rw[i9 hk]at hw;obtain⟨j,k2,h1,h2,h3,h4,h5⟩:=ihr hw;refine⟨j+1,k2,by simp_all,h2,h3,by grind[i9],fun n=>?_⟩;have e:dE (bB p) (k::r) n=dE (bB p) r (n+1):=by
      show(bif bB p k then _ else _)=_
      simp_all
     grind
  have hw:cn p u.kids≠[]:=by
   intro e;have:=lq hh;rw[gd,hi,e]at this;simp_all
  obtain⟨j,k,h1,h2,h3,h4,h5⟩:=key u.kids hw;obtain⟨y,t,e⟩:=vN h3;have hway:aG p u=u::aG p k:=by rw[gd,hi,h4,e];rfl
  have hkm:k∈u.kids:=h2▸gx h1;rw[Ih h,Ii h];cases hk:iK p k with
  | true=>
   obtain⟨q,i,q1,q2,q3,q4,q5⟩:=ih k hkm hk;rw[Ih hk]at q2;rw[Ii hk]at q3;have e2:H5 p u=H5 p k:=by
    unfold H5;rw[hway];have:2≤(aG p k).length:=by
     unfold iK at hk;cases hl:aC (Int.ofNat (aG p k).length) 2 with
     |true=>grind
     |false=>have:=aD hl;grind
    show gD (u::aG p k) ((aG p k).length+1-2)=_
    rw[show(aG p k).length+1-2=((aG p k).length -2)+1 by omega];rfl
   grind[bH]
  | false=>
   have hl:(aG p k).length=1:=by
    unfold iK at hk;cases hl:aC (Int.ofNat (aG p k).length) 2 with
    |false=>grind
    |true=>have:=al hl;grind
   have hik:fL p k=true:=by
    cases hik:fL p k with
    |true=>rfl
    |false=>
     rw[gd,hik]at hl e;grind
   have e2:H5 p u=u:=by
    unfold H5;rw[hway];show gD (u::aG p k) ((aG p k).length+1-2)=_
    rw[hl];rfl
   rw[e2,h5 0,fw];exact⟨u,j,dh u,rfl,rfl,h1,by grind[gu]⟩
theorem UJ{p:PId}{u:TUnit}(h:bB p u=true)(hi:fL p u=false):iK p u=true:=by
 have hw:aG p u≠[]:=lq h;have e:aG p u=match cn p u.kids with|[]=>[]|y::t=>u::y::t:=by rw[gd,hi];rfl
 unfold iK;rw[e]at hw ⊢;cases ew:cn p u.kids with
 |nil=>simp_all
 |cons y t=>
  show ax (aC (Int.ofNat (u::y::t).length) 2)=true
  rw[kw (by grind)];rfl
theorem UQ{v:TUnit}{i:Nat}(h:i<v.kids.length):(dj v).Perm (dj (gG i v)++dj (gD v.kids i)):=by
 unfold gG;rw[nF v,qp,Ow,rv];have e:v.kids=v.kids.take i++(gD v.kids i::v.kids.drop (i+1)):=by grind[gD,List.drop_eq_getElem_cons,List.take_append_drop]
 grind[rv,gz]
theorem T9{v x:TUnit}{i:Nat}:(dj (dC i x v)).Perm (dj v++dj x):=by
 unfold dC wS;rw[nF v,qp,rv,gz,tz];grind[List.take_append_drop,rv]
end Go.Ev
namespace Go.Ev
open Go
section
variable{P:Program}{G:eA}{call:cJ}{m:Nat}{c:Code}{d:D}{s s':St}{ops:Array Oper}{h h':AHeap}{o:AObj}{f:FuncId}{args:List AV}{v u:AV}{pl pl':Pl}{M M':dr}{w w':World}
theorem cM.psh(g2:cM pl M h w):cM pl M (h.push o) w:=
 ⟨fun id p hp=>Nat.lt_succ_of_lt (g2.dom id p hp),(fun id p o' hp hg=>by
  rcases dY hg with⟨rfl,_⟩|⟨_,h2⟩
  ·exact absurd (g2.dom _ p hp) (wj _)
  ·exact g2.obj id p o' hp h2),g2.blk,g2.inj,g2.imm,g2.sep⟩
theorem dZ.psh(g2:cM pl M h w)(g4:dZ h pl M w h' pl' M' w')(g2':cM pl' M' h' w'):dZ h pl M w (h'.push o) pl' M' w':=
 ⟨g4.ext,g4.new,g4.mem,g4.size,g4.kept,g4.blks,(fun id p hp hg=>by
  have:=g4.live id p hp hg;cases hh:(h'.push o).get id with
  |none=>rfl
  |some o'=>
   rcases dY hh with⟨rfl,_⟩|⟨_,h2⟩
   ·obtain⟨p',e1,_⟩:=g4.ext _ p hp;exact absurd (g2'.dom _ p' e1) (wj _)
   simp_all),g4.stay,g4.memNew,g4.os,g4.tape,g4.out,g4.drawn⟩
theorem aH.psh(h0:aH P G f args h (fun v1 h1=>v1=v∧h1=h'))(hl:Le u v):aH P G f args h (fun v1 h1=>v1=u∧h1=h'.push o):=by
 intro pl M w vs hg hr hv;have key:∀{cv w'},iU pl M h w v h' cv w'→iU pl M h w u (h'.push o) cv w':=fun⟨pl',M',k1,k2,k3,k4⟩=>⟨pl',M',hl _ _ _ k1,cM.psh k2,dZ.psh hr k3 k2,Nat.le_succ_of_le k4⟩
 rcases h0 pl M w vs hg hr hv with⟨h1,h2⟩|⟨cv,w',v',h'',h1,⟨rfl,rfl⟩,h3⟩
 ·exact .inl ⟨h1,Calls.mono h2 fun e w' ⟨cv,v',h'',k1,⟨k2,k2'⟩,k3⟩=>⟨cv,u,h'.push o,k1,⟨rfl,rfl⟩,by simp_all⟩⟩
 ·exact .inr ⟨cv,w',u,_,h1,⟨rfl,rfl⟩,key h3⟩
theorem Jp{Ψ Ψ':AV→AHeap→Prop}(o:AObj)(h0:aH P G f args h Ψ)(hΨ:∀v h',Ψ v h'→∃u,Le u v∧Ψ' u (h'.push o)):aH P G f args h Ψ':=by
 intro pl M w vs hg hr hv;have key:∀{v u h' cv w'},Le u v→iU pl M h w v h' cv w'→iU pl M h w u (h'.push o) cv w':=fun hl ⟨pl',M',k1,k2,k3,k4⟩=>⟨pl',M',hl _ _ _ k1,cM.psh k2,dZ.psh hr k3 k2,Nat.le_succ_of_le k4⟩
 rcases h0 pl M w vs hg hr hv with⟨h1,h2⟩|⟨cv,w',v',h'',h1,h2,h3⟩
 ·refine .inl ⟨h1,Calls.mono h2 fun e w' ⟨cv,v',h'',k1,k2,k3⟩=>?_⟩;grind
 ·obtain⟨u,q1,q2⟩:=hΨ _ _ h2;exact .inr ⟨cv,w',u,_,h1,q2,key q1 h3⟩
theorem Pv(pl:Pl)(M:dr)(p:Place)(x:Option Obj):bm pl M p .dead x:=by cases x<;>trivial
theorem aH.dead{i:Nat}{Ψ Ψ':AV→AHeap→Prop}(h0:aH P G f args h Ψ)(hi:h.n≤i)(hm:i<1000000)(hΨ:∀v h',Ψ v h'→Ψ' v (h'.put i .dead)):aH P G f args h Ψ':=by
 intro pl M w vs hg hr hv;have key:∀{v h' cv w'},iU pl M h w v h' cv w'→iU pl M h w v (h'.put i .dead) cv w':=fun⟨pl',M',k1,k2,k3,k4⟩=>⟨pl',M',k1,⟨k2.dom,(fun id p o hp hg=>by
  rcases AHeap.get_put hm hg with⟨_,rfl⟩|⟨_,h2⟩
  ·grind[Pv]
  ·exact k2.obj id p o hp h2),k2.blk,k2.inj,k2.imm,k2.sep⟩,⟨k3.ext,k3.new,k3.mem,k3.size,k3.kept,k3.blks,(fun id p hp hg=>by
   have hl:=hr.dom id p hp;have hn:=k3.live id p hp hg;cases hh:AHeap.get (AHeap.put _ i .dead) id with
   |none=>rfl
   |some o'=>grind[AHeap.get_put]),k3.stay,k3.memNew,k3.os,k3.tape,k3.out,k3.drawn⟩,k4⟩
 rcases h0 pl M w vs hg hr hv with⟨h1,h2⟩|⟨cv,w',v',h'',h1,h2,h3⟩
 ·exact .inl ⟨h1,Calls.mono h2 fun e w' ⟨cv,v',h'',k1,k2,k3⟩=>⟨cv,v',h''.put i .dead,k1,hΨ _ _ k2,key k3⟩⟩
 ·exact .inr ⟨cv,w',v',_,h1,hΨ _ _ h2,key h3⟩
end
section
variable{P:Program}{G:eA}{ops:Array Oper}{o:Oper}{l:List Oper}{s:St}{b:Option Nat}
theorem xe{t tx e:TypeId}{i:TypeInfo}{sz bt:Nat}(hsz:i.size=sz)(hbt:i.bytes=bt){z z0:AV}{sO xO:Operand}{dst:Option Tmp}{ty:TypeId}{pos:String}{after:Array Edge}{guard:Option (Nat×Bool)}{xs:List AV}
  (ht:P.underlying t=some (.slice e))(hk:∃e',P.underlying tx=some (.slice e'))(hi:P.info? e=some i)(hz:jY P e=some z0)(hzl:Le z z0)
  (hs:(cA G sO).run s.tmps=some (.ps [] true))(hx:(cA G xO).run s.tmps=some (.ls xs))(hne:xs≠[])(hfit:dD sz xs=true)(hzf:dD sz [z]=true)(hsm:small xs.length bt=true)(hs0:0<sz)
  (pl:Pl)(M:dr)(a:Act)(w:World)(g1:pp G pl M)(g2:cM pl M s.heap w)(g3:FrRel pl M s.tmps a):
  ∃(k:Nat)(pl':Pl)(M':dr)(cv:Value)(w':World),k=0∧(execOp a.eval ⟨dst,.call ⟨.builtin .append,#[sO,xO],#[t,tx]⟩,ty,pos,after,guard⟩).run P w=.ok (.value cv) w'∧
   VRel pl' M' (.slice s.heap.n 0 0 xs.length none) cv∧cM pl' M' (s.heap.push (.row sz true 0 xs)) w'∧dZ s.heap pl M w (s.heap.push (.row sz true 0 xs)) pl' M' w'∧s.heap.n≤(s.heap.push (.row sz true 0 xs)).n:=by
 subst hsz;subst hbt;have hsr:=bX g1 g3 hs;have hxr:=bX g1 g3 hx;obtain⟨news,hsrc⟩:=yN (P:=P) g2 hxr (show kV s.heap (.ls xs)=some xs from rfl) hne hfit;obtain⟨i2,zv,hz1,hz2,hz3⟩:=mC hz;rw[hi]at hz1;cases hz1
 obtain⟨b1,b2⟩:=jB hsm;have hpos:0<xs.length:=pA.2 hne;generalize hq:a.eval sO=cs at hsr;generalize hq2:a.eval xO=cx at hxr hsrc;cases hsr with
 | ps hl htt hm hs2 hc=>
  rename_i ad cap sz c;have hcap:cap=0:=htt rfl;subst hcap;have hzr:=hzl _ _ _ (dR (pl:=pl) (M:=M) hz3);have hzt:=ma hzf z (by simp);have hzsz:zv.cells.size=i.size:=by rw[←hzr.cells.len];omega
  have hrun:=run_append_grow_src (P:=P) w t tx ty e i zv ht hi hz2 (some ad) 0 0 [] (by simp[Builtin.firstCells,loadCells,loadCellsFrom]) cx xs.length news (hsrc.src (.inl hk)) (by omega) (by omega) (growslice_fits (by omega) (by grind));have hge:=grownCap_ge w (0+xs.length) 0 e;obtain⟨C,hC⟩:∃C,C=grownCap w (0+xs.length) 0 e:=⟨_,rfl⟩
  rw[←hC]at hrun hge;have hin:=eP hzr hzt.2 (C-(0+xs.length)) hzt.1 hs0;have hzl:(Builtin.zeroCells zv.cells (C-(0+xs.length))).toList.toArray=(Array.range ((C-(0+xs.length))*i.size)).map (zv.cells[· %zv.cells.size]!):=by grind[Builtin.zeroCells]
  have hnl:(Builtin.zeroCells zv.cells (C-(0+xs.length))).toList.length=(List.replicate (C-(0+xs.length)) z).length *i.size:=by grind[Builtin.zeroCells]
  have hin2:=kc (news:=(Builtin.zeroCells zv.cells (C-(0+xs.length))).toList) hsrc.mem (by grind) hsrc.newsLen hnl #[];have hce:(news++(Builtin.zeroCells zv.cells (C-(0+xs.length))).toList).toArray++#[]=([]++news).toArray++Builtin.zeroCells zv.cells (C-(0+xs.length)):=by grind
  rw[hce]at hin2;have hcs:(([]++news).toArray++Builtin.zeroCells zv.cells (C-(0+xs.length))).size=(xs++List.replicate (C-(0+xs.length)) z).length *i.size:=by simp only[ww,EN,BM,hsrc.newsLen,size_zeroCells,hzsz,dI,qX,jL]
  obtain⟨cells,hcells⟩:∃cells,cells=([]++news).toArray++Builtin.zeroCells zv.cells (C-(0+xs.length)):=⟨_,rfl⟩
  rw[←hcells]at hrun hin2 hcs;have hxC:xs.length≤C:=by omega
  have hszc:cells.size=C*i.size:=by grind
  have hin3:InMem pl M cells 0 i.size xs:=⟨by rw[fw,hszc];exact ei _ hxC,fun x hx=>hin2.elem x (EG _ hx),fun i x j y h1 h2=>hin2.cell i x j y (by grind) h2⟩
  let p:Place:=⟨w.heap.size,0,i.size,xs.length,C*i.size⟩
  have hwd:(w.drew.alloc (.cells cells e)).heap=w.heap.push (.cells cells e):=rfl;obtain⟨r1,r2⟩:=cM.alloc (o:=.row i.size true 0 xs) (p:=p) g2 hwd ⟨rfl,rfl,rfl,mA _⟩ rfl
   ⟨rfl,rfl,rfl,hszc.symm,rfl,hs0,fun h=>(by grind),hin3.mono (fun id q hq=>⟨q,by rw[cR (by have:=g2.dom id q hq;omega)];omega,ao _,fun _=>rfl⟩) (fun _ _ h=>h)⟩
  refine⟨0,upd pl s.heap.n p,M,.slice (some ⟨w.heap.size,0,none⟩) (0+xs.length) C,w.drew.alloc (.cells cells e),rfl,?_,?_,r1,r2,mA _⟩
  ·simp only[execOp,resolve,invoke,builtin,Sem.run_bind,Sem.run_pure,Result.andThen_ok,List.map_toArray,eB,wq,hq,hq2];show(Sem.run P (Builtin.append_ #[t,tx] ty #[Value.slice (some ad) 0 0,cx]) w).andThen _=_
   rw[hrun];rfl
  ·rw[fw]at hge ⊢;refine .slice (dO _ _ _) (ao _) hge (fun k hk=>by grind) (fun _=>⟨.inr (by grind),by grind,by grind,(fun _=>by grind),(fun k hk=>by grind)⟩)
end
end Go.Ev
namespace Go.Ev
open Go
theorem jJ{s u:List UInt8}{H:AHeap}(h:s.length+u.length≤2^62):ba H (U7 (.str s) (.str u))=some (.val (.str (s++u)) H):=by grind[Nat.ble_eq_true_of_le,U7,ba]
def NB(s:aT):aT:=bif ah (.ofNat (gD s 0).toNat) 124 then[92]else bif ah (.ofNat (gD s 0).toNat) 92 then[92]else[]
def Bu(s:aT)(w:PWord):aT:=s++[32]++NB w.text++w.text
def mX(s:aT)(l:List PWord):aT:=l.foldl Bu s
theorem oD(s:aT)(w:PWord)(r:List PWord):mX s (w::r)=mX (Bu s w) r:=rfl
theorem Er{x:aT}{w:PWord}(h1:ah (.ofNat (gD w.text 0).toNat) 124=true):Bu x w=x++[32]++[92]++w.text:=by grind[Bu,NB]
theorem Ep{x:aT}{w:PWord}(h1:ah (.ofNat (gD w.text 0).toNat) 124=false)(h2:ah (.ofNat (gD w.text 0).toNat) 92=true):Bu x w=x++[32]++[92]++w.text:=by grind[Bu,NB]
theorem Eo{x:aT}{w:PWord}(h1:ah (.ofNat (gD w.text 0).toNat) 124=false)(h2:ah (.ofNat (gD w.text 0).toNat) 92=false):Bu x w=x++[32]++w.text:=by grind[Bu,NB]
theorem WU(d:Nat):aC (.ofNat d) 0=false:=rfl
def tu(u:TUnit):TUnit:=⟨0,0,0,u.kind,u.label,u.head,u.words,[]⟩
def DE(u:TUnit)(d:Nat):Bool:=ax (aC (.ofNat d) 0)&&(ax (aC 8 (.ofNat d))&&kO (cN (tu u)))
def gX(u:TUnit)(d:Nat):aT:=
 bif ax (DE u d)then[]else
  let a:=Lib.repeatL [32,32] d++dX u.kind
  let b:=bif ax (ah u.kind 0)then a++([32]++u.label)else a
  let c:=bif aC 0 (.ofNat u.head.length)then mX (b++[58]) u.head else b
  bif aC 0 (.ofNat u.words.length)then mX (c++[32,124]) u.words else c
mutual
def eY:Nat→TUnit→List aT
 |d,⟨a,i,n,k,l,h,w,ks⟩=>gX ⟨a,i,n,k,l,h,w,ks⟩ d::dJ (d+1) ks
def dJ:Nat→List TUnit→List aT
 |_,[]=>[]
 |d,k::r=>eY d k++dJ d r
end
theorem Co(d:Nat)(u:TUnit):eY d u=gX u d::dJ (d+1) u.kids:=by cases u;rw[eY];rfl
theorem wL(d:Nat):dJ d []=[]:=by rw[dJ]
theorem mz(d:Nat)(k:TUnit)(r:List TUnit):dJ d (k::r)=eY d k++dJ d r:=by rw[dJ]
def xr(u:TUnit):aT×Int:=
 bif ax (kO (cN u))then([],1)else
  bif aC 16384 (.ofNat (Lib.join (eY 0 u) [10]++[10]).length)then([],6)else(Lib.join (eY 0 u) [10]++[10],0)
theorem RK(s:aT):(NB s).length≤1:=by grind[NB]
theorem Sb(s:aT)(w:PWord):(Bu s w).length≤s.length+(w.text.length+2):=by grind[RK,Bu]
theorem vJ{l:List PWord}(h:∀w,w∈l→w.text.length≤24)(s:aT):(mX s l).length≤s.length+26*l.length:=by
 induction l generalizing s with
 |nil=>exact ao _
 |cons w r ih=>grind[Sb,oD]
theorem zH(k:Int):(dX k).length≤16:=by
 unfold dX;split<;>decide
theorem gr{a b:Int}(h:ax (aC a b)=true):b≤a:=aD (by cases q:aC a b<;>rw[q]at h<;>first|rfl|grind)
theorem IF{s:aT}(h:ky s=true):s.length≤7:=by
 unfold ky at h;simp only[bz]at h;have h1:=gr h.2.1;have h2:=gr h.2.2.2.1;grind
theorem LS{s:aT}(h:rO s=true):1≤s.length∧s.length≤24:=by
 unfold rO at h;simp only[bz]at h;have h1:=gr h.1;have h2:=gr h.2.1;grind
theorem HR{l:List PWord}(h:oI l=true):l.length≤256∧∀w,w∈l→1≤w.text.length∧w.text.length≤24:=by
 unfold oI qb at h;simp only[bz,mK]at h;have h1:=gr h.1;simp only[aP]at h1;exact⟨by omega,fun w hw=>LS (h.2.2 _ (j9.2 ⟨w,hw,rfl⟩))⟩
theorem N7{u:TUnit}(h:mZ u=true):u.label.length≤7∧(u.head.length≤256∧∀w,w∈u.head→1≤w.text.length∧w.text.length≤24)∧(u.words.length≤256∧∀w,w∈u.words→1≤w.text.length∧w.text.length≤24):=by
 unfold mZ at h;simp only[bz]at h;have h:=h.1;cases hk:ah u.kind 0 with
 |true=>
  rw[hk]at h;simp only[cond_true,bz]at h;have h1:u.label=[]:=Rj h.1;have h2:=gr h.2;grind
 |false=>grind[IF,HR]
theorem Pq{q:TUnit→Bool}{u:TUnit}(h:wV q u=true):q u=true:=by grind[yw]
theorem KO{u:TUnit}{d:Nat}(h:DE u d=true):d≤8∧u.label.length≤7∧(u.head.length≤256∧∀w,w∈u.head→1≤w.text.length∧w.text.length≤24)∧(u.words.length≤256∧∀w,w∈u.words→1≤w.text.length∧w.text.length≤24):=by
 unfold DE kO at h;simp only[bz]at h;have h1:=gr h.2.1;simp only[aP]at h1;have h2:=N7 (Pq h.2.2.1);rw[md]at h2;obtain⟨e1,⟨e2,e3⟩,e4,e5⟩:=h2;refine⟨by omega,e1,⟨by grind[tu,TUnit.head],fun w hw=>?_⟩,⟨by grind[tu,TUnit.words],fun w hw=>?_⟩⟩
 ·exact e3 (gS w) (j9.2 ⟨w,hw,rfl⟩)
 ·exact e5 (gS w) (j9.2 ⟨w,hw,rfl⟩)
theorem Ef{b:Bool}{x y:aT}{n:Nat}(h1:x.length≤n)(h2:y.length≤n):(bif b then x else y).length≤n:=by grind
theorem QJ(u:TUnit)(d:Nat):(gX u d).length≤2^14:=by
 unfold gX;cases h:DE u d with
 |false=>simp_all
 |true=>
  obtain⟨h1,h2,⟨h3,h4⟩,h5,h6⟩:=KO h;have k:=zH u.kind;have r:=Lib.repeatL_length [32,32] d;simp only[cT,gL]at r;have ha:(Lib.repeatL [32,32] d++dX u.kind).length≤32:=by grind
  have hh:∀w,w∈u.head→w.text.length≤24:=fun w hw=>(h4 w hw).2
  have hw:∀w,w∈u.words→w.text.length≤24:=fun w hw=>(h6 w hw).2
  simp only[ax,cond_false];have hb:∀x:aT,x.length≤32→(bif ax (ah u.kind 0)then x++([32]++u.label)else x).length≤40:=fun x hx=>Ef (by grind) (by omega)
  have hc:∀x:aT,x.length≤40→(bif aC 0 (.ofNat u.head.length)then mX (x++[58]) u.head else x).length≤6700:=fun x hx=>Ef (by grind[vJ]) (by omega)
  have hd:∀x:aT,x.length≤6700→(bif aC 0 (.ofNat u.words.length)then mX (x++[32,124]) u.words else x).length≤2^14:=fun x hx=>Ef (by have:=vJ hw (x++[32,124]);grind) (by omega)
  grind
mutual
theorem kT(d:Nat):∀u:TUnit,(eY d u).length=nU u
 |⟨a,i,n,k,l,h,w,ks⟩=>by rw[eY,cT,wN (d+1) ks,nU];omega
theorem wN(d:Nat):∀l:List TUnit,(dJ d l).length=eV l
 |[]=>by rw[dJ,eV];rfl
 |k::r=>by rw[dJ,eV,dI,kT d k,wN d r]
end
mutual
theorem zE(d:Nat):∀(u:TUnit)(s:aT),s∈eY d u→s.length≤2^14
 |⟨a,i,n,k,l,h,w,ks⟩,s,hs=>by
  rw[eY]at hs;rcases fE.1 hs with rfl|hs
  ·exact QJ _ _
  ·exact wM (d+1) ks s hs
theorem wM(d:Nat):∀(l:List TUnit)(s:aT),s∈dJ d l→s.length≤2^14
 |[],s,hs=>by rw[dJ]at hs;cases hs
 |k::r,s,hs=>by
  rw[dJ]at hs;rcases je.1 hs with hs|hs
  ·exact zE d k s hs
  ·exact wM d r s hs
end
theorem uy{sep:aT}{B:Nat}:∀{l:List aT},(∀s,s∈l→s.length≤B)→(Lib.joinTail sep l).length≤l.length*(sep.length+B)
 |[],_=>bN _
 |x::r,h=>by
  have h1:=h x e9;have h2:=uy (sep:=sep) (l:=r) fun s hs=>h s (fk _ hs)
  grind[Lib.joinTail,Nat.succ_mul]
theorem Qk{sep:aT}{B:Nat}{l:List aT}(h:∀s,s∈l→s.length≤B):(Lib.join l sep).length≤l.length*(sep.length+B):=by
 cases l with
 |nil=>exact bN _
 |cons x r=>
  have h1:=h x e9;have h2:=uy (sep:=sep) (l:=r) fun s hs=>h s (fk _ hs)
  grind[Lib.join_cons,Nat.succ_mul]
theorem wo:∀(l:List TUnit),(∀k,k∈l→nU (cN k)=nU k∧∀x,x∈bu (cN k)→∃y,y∈bu k∧x=cN y)→eV (l.map cN)=eV l∧∀x,x∈du (l.map cN)→∃y,y∈du l∧x=cN y
 |[],_=>⟨rfl,fun x hx=>by grind[fT]⟩
 |k::r,h=>by
  obtain⟨a1,a2⟩:=h k e9;obtain⟨b1,b2⟩:=wo r fun k hk=>h k (fk _ hk)
  grind[eV,bO]
theorem MX:∀u:TUnit,nU (cN u)=nU u∧∀x,x∈bu (cN u)→∃y,y∈bu u∧x=cN y:=by
 refine TUnit.ind fun u ih=>?_
 obtain⟨h1,h2⟩:=wo u.kids ih;refine⟨?_,fun x hx=>?_⟩
 ·rw[jq (cN u),jq u,md];exact congrArg (1+ ·) h1
 ·rw[da,md]at hx;rcases fE.1 hx with rfl|hx
  ·grind[da,List.mem_cons_self,md]
  ·obtain⟨y,h3,h4⟩:=h2 x hx;grind[da]
end Go.Ev
namespace Go.Ev
open Go
structure OkB(u:TUnit):Prop where
 nd:(dj u).Nodup
 n:nU u≤1024
 w:∀x,x∈bu u→x.head.length≤300∧x.words.length≤300
theorem OkB.uni{u v x:TUnit}(h:OkB u)(hv:v∈bu u)(hx:x∈bu u)(e:bq v=bq x):v=x:=Cf h.nd hv hx e
theorem s5{u x:TUnit}(hx:x∈bu u):bB (bq x) u=true:=Lz u ⟨x,hx,rfl⟩
theorem mg:∀{l:List TUnit}{x:TUnit},x∈du l→∃k,k∈l∧x∈bu k
 |[],x,h=>by grind[fT]
 |k::r,x,h=>by
  rw[bO]at h;rcases je.1 h with h|h
  ·simp_all
  ·obtain⟨k',h1,h2⟩:=mg h;grind
theorem CZ{u:TUnit}:∀(p:List PStep)(l:List TUnit),(∀x,x∈l→x∈bu u)→∀x,x∈gn p l→x∈bu u
 |[],l,h,x,hx=>h x hx
 |s::r,l,h,x,hx=>by
  refine CZ r _ (fun y hy=>?_) x hx;grind[jX,bH,dh]
theorem Nh{u:TUnit}{p:List PStep}{x:TUnit}(h:x∈eZ u p):x∈bu u:=by
 unfold eZ at h;grind[dh,CZ]
theorem qB{u:TUnit}{p:List PStep}(h:(aF u p).2=0):bB (aF u p).1 u=true:=by
 unfold aF at h ⊢;split at h
 ·omega
 ·rename_i x e;exact s5 (Nh (by rw[e];simp_all))
 omega
def ED(u:TUnit)(sp:PSpot):Prop:=∃n:Nat,sp.at_=Int.ofNat n∧n≤2^20∧∀v,v∈bu u→fL sp.id v=true→n≤v.kids.length
theorem Pr{u:TUnit}(hu:OkB u){p:PId}(h:iK p u=true){n:Nat}(hn:n≤1):ED u ⟨rF p u,pM p u+Int.ofNat n⟩:=by
 obtain⟨q,i,h1,h2,h3,h4,h5⟩:=vo u h;have hk:=bf q;have:=dP h1;have:=hu.n;refine⟨i+n,by simp_all,by omega,fun v hv hi=>?_⟩;have hi:fL (rF p u) v=true:=hi;rw[gu,h2]at hi;rw[hu.uni hv h1 hi];omega
theorem GQ{u:TUnit}(hu:OkB u){p:PId}(hp:bB p u=true){w:Int}(he:(dc w u p).2=0):ED u (dc w u p).1:=by
 unfold dc at he ⊢;cases h0:ah w 0 with
 |true=>exact⟨0,rfl,bN _,fun v _ _=>bN _⟩
 | false=>
  rw[h0]at he;simp only[cond_false]at he ⊢;cases h1:ah w 1 with
  |true=>
   obtain⟨a,b⟩:=su hp;have hk:=bf (dA p u);have:=dP a;have:=hu.n;refine⟨_,rfl,by omega,fun v hv hi=>?_⟩;rw[gu]at hi;rw[hu.uni hv a (hi.trans b.symm)];omega
  |false=>
   rw[h1]at he;simp only[cond_false]at he ⊢;have key:∀n:Nat,n≤1→(nL u p (Int.ofNat n)).2=0→ED u (nL u p (Int.ofNat n)).1:=fun n hn he=>by grind[nL,Pr]
   cases h2:ah w 2 with
   |true=>grind
   |false=>rw[h2]at he;exact key 0 (bN _) he
theorem OkB.with{u:TUnit}(hu:OkB u){q:PId}{f:TUnit→TUnit}
  (hf:∀v C,v∈bu u→bq v=q→(dj u).Perm (C++dj v)→(C++dj (f v)).Nodup∧(C++dj (f v)).length≤1024∧∀x,x∈bu (f v)→x.head.length≤300∧x.words.length≤300):OkB (dK q f u):=by
 cases hq:bB q u with
 |false=>grind[HT]
 |true=>
  obtain⟨v,C,h1,h2,h3,h4⟩:=sy u hq;obtain⟨h5,h6⟩:=h4 f;obtain⟨a,b,c⟩:=hf v C h1 h2 h3;refine⟨h5.nodup_iff.2 a,by rw[l9,h5.length_eq];omega,fun x hx=>?_⟩;grind[cases OkB]
theorem OkB.keep{u:TUnit}(hu:OkB u){q:PId}{f:TUnit→TUnit}(h1:∀v,bq (f v)=bq v∧(f v).kids=v.kids)(h2:∀v,v∈bu u→(f v).head.length≤300∧(f v).words.length≤300):OkB (dK q f u):=by
 refine hu.with fun v C hv hq hp=>?_
 have e:dj (f v)=dj v:=by grind[nF]
 rw[e];refine⟨hp.nodup_iff.1 hu.nd,by rw[←hp.length_eq,←l9];exact hu.n,fun x hx=>?_⟩;rw[da]at hx;rcases fE.1 hx with rfl|hx
 ·simp_all
 ·rw[(h1 v).2]at hx;obtain⟨k,k1,k2⟩:=mg hx;grind[jX,bH,cases OkB]
theorem Tx{v x y:TUnit}{i:Nat}(h:y∈bu (dC i x v)):y=dC i x v∨y∈bu x∨y∈bu v:=by
 rw[da]at h;rcases fE.1 h with rfl|h
 ·simp_all
 ·obtain⟨k,k1,k2⟩:=mg h;have k1:k∈v.kids.take i++(x::v.kids.drop i):=k1;rcases je.1 k1 with q|q
  ·grind[bH]
  ·grind[bH]
theorem OkB.ins{u x:TUnit}(hu:OkB u){q:PId}{i:Nat}(hx:(dj x).Nodup)(hd:∀p,p∈dj x→p∉dj u)(hn:nU u+nU x≤1024)(hw:∀y,y∈bu x→y.head.length≤300∧y.words.length≤300):OkB (dK q (dC i x) u):=by
 refine hu.with fun v C hv hq hp=>?_
 have h1:(C++dj (dC i x v)).Perm (dj u++dj x):=((List.Perm.append_left C T9).trans (by grind))
 refine⟨h1.nodup_iff.2 (List.nodup_append.2 ⟨hu.nd,hx,fun a ha b hb e=>hd b hb (e▸ha)⟩),by rw[h1.length_eq,dI,←l9,←l9];omega,fun y hy=>?_⟩;rcases Tx hy with rfl|h|h
 ·exact hu.w v hv
 all_goals grind[jX,cases OkB]
theorem Ki{v y:TUnit}{i:Nat}(h:y∈bu (gG i v)):y=gG i v∨y∈bu v:=by
 rw[da]at h;rcases fE.1 h with rfl|h
 ·simp_all
 ·obtain⟨k,k1,k2⟩:=mg h;exact .inr (bH (List.mem_of_mem_eraseIdx (show k∈v.kids.eraseIdx i from k1)) k2)
theorem OkB.del{u v:TUnit}(hu:OkB u){i:Nat}(hv:v∈bu u)(hi:i<v.kids.length):OkB (dK (bq v) (gG i) u)∧(dj u).Perm (dj (dK (bq v) (gG i) u)++dj (gD v.kids i)):=by
 obtain⟨v',C,h1,h2,h3,h4⟩:=sy u (s5 hv);obtain rfl:=hu.uni h1 hv h2;obtain⟨h5,h6⟩:=h4 (gG i);have h7:(dj u).Perm (dj (dK (bq v') (gG i) u)++dj (gD v'.kids i)):=h3.trans ((List.Perm.append_left C (UQ hi)).trans (by grind));have hnd:=h7.nodup_iff.1 hu.nd;refine⟨⟨(List.nodup_append.1 hnd).1,?_,fun x hx=>?_⟩,h7⟩
 ·have:=h7.length_eq;grind[l9,cases OkB]
 ·rcases h6 x hx with h|⟨y,y1,y2,y3,y4,y5⟩
  ·rcases Ki h with rfl|h
   ·exact hu.w v' hv
   grind[jX,cases OkB]
  grind[cases OkB]
theorem Oh{q:PId}{f:TUnit→TUnit}:∀u:TUnit,bB q u=true→∃v,v∈bu u∧bq v=q∧f v∈bu (dK q f u):=by
 refine TUnit.ind fun u ih h=>?_
 cases hi:fL q u with
 |true=>grind[dh,gu,qR]
 | false=>
  rw [kM hi];have key:∀r:List TUnit,(∀k,k∈r→k∈u.kids)→(∃k,k∈r∧bB q k=true)→∃v,v∈du r∧bq v=q∧f v∈du (ef q f r):=by
   intro r;induction r with
   |nil=>grind
   | cons k r ihr=>
    intro hs ⟨y,hy,hyq⟩;rw[jM,bO];cases hk:bB q k with
    |true=>grind[bO]
    |false=>
     rcases fE.1 hy with rfl|hy
     ·grind
     ·obtain⟨v,a,b,c⟩:=ihr (fun k hk=>hs k (fk _ hk)) ⟨y,hy,hyq⟩;grind[bO]
  have hx:=su h;have hne:dA q u≠u:=fun e=>by grind[gu]
  have hm:dA q u∈du u.kids:=by grind[da]
  obtain⟨k,k1,k2⟩:=mg hm;obtain⟨v,a,b,c⟩:=key u.kids (fun _ h=>h) ⟨k,k1,Lz k ⟨_,k2,hx.2⟩⟩;grind[da,wC]
theorem QG{u q:TUnit}(hu:OkB u){i:Nat}(hq:q∈bu u)(hi:i<q.kids.length){p t:PId}{w:Int}{anc bs:Bool}(ht:bB t u=true){ok:Bool}
  (he:(n7 p t (bq q) (Int.ofNat i) ok anc bs (dc w u t).1 (dc w u t).2).2=0):
  ED (dK (bq q) (gG i) u) (n7 p t (bq q) (Int.ofNat i) ok anc bs (dc w u t).1 (dc w u t).2).1:=by
 obtain⟨hr,_⟩:=hu.del hq hi;obtain⟨v',C,h1,h2,h3,h4⟩:=sy u (s5 hq);obtain rfl:=hu.uni h1 hq h2;obtain⟨_,h6⟩:=h4 (gG i);have hlen:(gG i v').kids.length=v'.kids.length-1:=List.length_eraseIdx_of_lt hi;have own:∀v,v∈bu (dK (bq v') (gG i) u)→bq v=bq v'→v.kids.length=v'.kids.length-1:=fun v hv e=>by
  obtain⟨z,z1,z2,z3⟩:=Oh (q:=bq v') (f:=gG i) u (s5 hq);obtain rfl:=hu.uni z1 hq z2;rw[hr.uni hv z3 (e.trans rfl)];omega
 have oth:∀v,v∈bu (dK (bq v') (gG i) u)→bq v≠bq v'→∃y,y∈bu u∧bq v=bq y∧v.kids.length=y.kids.length:=fun v hv hne=>by
  rcases h6 v hv with h|⟨y,y1,y2,y3,_⟩
  ·rcases Ki h with rfl|h
   ·exact absurd rfl hne
   ·exact⟨v,jX hq h,rfl,rfl⟩
  grind
 have hk:=bf v';have hb:=dP hq;have hn:=hu.n;unfold n7 at he ⊢;cases c1:(ax ok||((ax (bj t p)&&anc)||(bj t p&&ax bs)))with
 |true=>grind
 | false=>
  rw[c1]at he;simp only[cond_false]at he ⊢;cases c2:bj t p with
  |true=>
   refine⟨i,rfl,by omega,fun v hv hid=>?_⟩;grind[gu]
  | false=>
   rw[c2]at he;simp only[cond_false]at he ⊢;have e0:(dc w u t).2=0:=by grind
   obtain⟨n,n1,n2,n3⟩:=GQ hu ht e0;rw[e0,n1];cases c4:bj (dc w u t).1.id (bq v')with
   |false=>
    have hne:(dc w u t).1.id≠bq v':=fun e=>by grind[m8]
    rw[show(ah 0 0&&(false&&aC (Int.ofNat i) (Int.ofNat n)))=false from rfl];refine⟨n,n1,n2,fun v hv hid=>?_⟩;grind[gu]
   | true=>
    have heq:=yz c4;have hn':=n3 v' hq ((gu _ v').2 heq.symm);cases c5:aC (Int.ofNat i) (Int.ofNat n)with
    |true=>
     have c5:=al c5;simp only[aP]at c5;rw[show(ah 0 0&&(true&&true))=true from rfl];refine⟨n-1,by grind,by omega,fun v hv hid=>?_⟩;grind[gu]
    |false=>
     have c5:=aD c5;simp only[aP]at c5;rw[show(ah 0 0&&(true&&false))=false from rfl];refine⟨n,n1,n2,fun v hv hid=>?_⟩;grind[gu]
def yL(a i:Int)(n k:Nat):List PId:=(List.range' (n+1) k).map fun j=>⟨a,i,Int.ofNat j⟩
mutual
theorem vw(a i:Int):∀(u:TUnit)(n w:Nat),dj (c9 a i u n w)=yL a i n (nU u)
 |⟨a',i',n',k,l,h,ws,ks⟩,n,w=>by
  rw[nF,c9,nU];show _::ip (fW a i ks (n+1) _)=_
  rw[yI a i ks (n+1)];unfold yL;rw[Nat.add_comm 1 (eV ks),BI,eB];rfl
theorem yI(a i:Int):∀(l:List TUnit)(n w:Nat),ip (fW a i l n w)=yL a i n (eV l)
 |[],n,w=>by rw[fW,eV,rk];rfl
 |k::r,n,w=>by
  rw[fW,eV,gz,vw a i k n w,yI a i r (n+nU k)];unfold yL;rw[←pt,show n+nU k+1=n+1+nU k by omega,←List.range'_append_1]
end
theorem PZ(a i:Int)(n k:Nat):(yL a i n k).Nodup:=by
 unfold yL;exact List.Pairwise.map _ (fun x y hne e=>hne (Int.ofNat.inj (congrArg PId.n e))) List.nodup_range'
mutual
theorem J2(a i:Int)(B:Nat):∀(u:TUnit)(n w:Nat),(∀x,x∈bu u→x.head.length≤B∧x.words.length≤B)→∀x,x∈bu (c9 a i u n w)→x.head.length≤B∧x.words.length≤B
 |⟨a',i',n',k,l,h,ws,ks⟩,n,w,hB,x,hx=>by
  rw[c9,bu]at hx;rcases fE.1 hx with rfl|hx
  ·have:=hB _ (by rw[bu];exact e9);exact⟨by show(cC _ _ _ _).length≤B;rw[f8,b7,cQ];exact this.1,by show(cC _ _ _ _).length≤B;rw[f8,b7,cQ];exact this.2⟩
  ·exact FK a i B ks _ _ (fun y hy=>hB y (by rw[bu];exact fk _ hy)) x hx
theorem FK(a i:Int)(B:Nat):∀(l:List TUnit)(n w:Nat),(∀x,x∈du l→x.head.length≤B∧x.words.length≤B)→∀x,x∈du (fW a i l n w)→x.head.length≤B∧x.words.length≤B
 |[],n,w,hB,x,hx=>by rw[fW,du]at hx;cases hx
 |k::r,n,w,hB,x,hx=>by
  rw[fW,du]at hx;rcases je.1 hx with hx|hx
  ·exact J2 a i B k _ _ (fun y hy=>hB y (by rw[du];exact EG _ hy)) x hx
  ·exact FK a i B r _ _ (fun y hy=>hB y (by rw[du];exact Js _ hy)) x hx
end
theorem O9(a i:Int)(u:TUnit)(n w:Nat):nU (c9 a i u n w)=nU u:=by grind[l9,vw,yL]
end Go.Ev
namespace Go.Ev
open Go
structure PVer where
 from_:Int
 to:Int
 par:PId
 at_:Int
 unit:TUnit
 deriving Inhabited
def pi(eq:TUnit→TUnit→Bool)(a b:PVer):Bool:=bj a.par b.par&&(ah a.at_ b.at_&&eq a.unit b.unit)
noncomputable def ny(id:PId)(sp:PSpan)(u:TUnit):PVer:=⟨sp.from_,sp.to,rF id u,pM id u,fu (dA id u) []⟩
def ql(eq:TUnit→TUnit→Bool)(a b:PVer):Bool:=ah a.to b.from_&&pi eq a b
def FQ(v:PVer)(t:Int):PVer:=⟨v.from_,t,v.par,v.at_,v.unit⟩
noncomputable def dV(eq:TUnit→TUnit→Bool)(id:PId)(out:List PVer)(sp:PSpan)(u:TUnit):List PVer:=
 bif bB id u then
  (bif aC 0 (.ofNat out.length)&&ql eq (gD out (out.length-1)) (ny id sp u)then out.set (out.length-1) (FQ (gD out (out.length-1)) sp.to)else out++[ny id sp u])
 else out
noncomputable def ym(eq:TUnit→TUnit→Bool)(id:PId)(b:Int→TUnit):List Int→List PVer→List PVer
 |a::c::r,out=>ym eq id b (c::r) (dV eq id out ⟨a,c⟩ (b a))
 |_,out=>out
variable{eq:TUnit→TUnit→Bool}{id:PId}{b:Int→TUnit}
structure VerI(eq:TUnit→TUnit→Bool)(out:List PVer)(hi:Int):Prop where
 ok:∀i,i<out.length→0≤(gD out i).from_∧(gD out i).from_<(gD out i).to∧(gD out i).to≤hi∧(gD out i).unit.kids =[]
 up:∀i,i+1<out.length→(gD out i).to≤(gD out (i+1)).from_∧ql eq (gD out i) (gD out (i+1))=false
theorem Lk{l:List PVer}{v:PVer}:gD (l++[v]) l.length=v:=by simp[gD]
theorem VerI.step{out:List PVer}{a c:Int}{u:TUnit}(h:VerI eq out a)(h0:0≤a)(hc:a<c):VerI eq (dV eq id out ⟨a,c⟩ u) c:=by
 unfold dV;cases hu:bB id u with
 |false=>rw[cond_false];exact⟨fun i hi=>by grind[cases VerI],h.up⟩
 | true=>
  rw[cond_true];cases hm:(aC 0 (.ofNat out.length)&&ql eq (gD out (out.length-1)) (ny id ⟨a,c⟩ u))with
  | true=>
   rw[bz]at hm;have hl:=al hm.1;simp only[aP]at hl;have hx:out.length-1<out.length:=by omega
   rw[cond_true];obtain⟨l1,l2,l3,l4⟩:=h.ok _ hx;refine⟨fun i hi=>?_,fun i hi=>?_⟩
   ·rw[jI]at hi;rw[vP hx];split
    ·exact⟨l1,by show(gD out _).from_<c;omega,Int.le_refl _,l4⟩
    grind[cases VerI]
   ·rw[jI]at hi;obtain⟨q1,q2⟩:=h.up i hi;rw[vP hx,vP hx,if_neg (show ¬i=out.length-1 by omega)];split
    ·rename_i e;rw[←e];exact⟨q1,q2⟩
    simp_all
  | false=>
   rw[cond_false];have e1:∀i,i<out.length→gD (out++[ny id ⟨a,c⟩ u]) i=gD out i:=fun i hi=>Lj hi
   refine⟨fun i hi=>?_,fun i hi=>?_⟩
   ·rw[dI,List.length_singleton]at hi;rcases fy i out.length with q|q
    ·grind[cases VerI]
    ·rw[show i=out.length by omega,Lk];exact⟨h0,hc,Int.le_refl _,rfl⟩
   ·rw[dI,List.length_singleton]at hi;rw[e1 i (by omega)];rcases fy (i+1) out.length with q|q
    ·grind[cases VerI]
    ·have e:i+1=out.length:=by omega
     rw[e,Lk];refine⟨(h.ok i (by omega)).2.2.1,?_⟩;rw[kj (by grind),yd,←e,Nat.add_sub_cancel]at hm;omega
theorem OA:∀(r:List Int)(a:Int)(out:List PVer),(a::r).Pairwise (· < ·)→0≤a→VerI eq out a→VerI eq (ym eq id b (a::r) out) (pE a r)
 |[],a,out,_,_,h=>h
 |c::r,a,out,hp,h0,h=>by
  obtain⟨h1,h2⟩:=jd.1 hp;have hc:=h1 c (e9 ..);exact OA r c _ h2 (by omega) (h.step h0 hc)
end Go.Ev
namespace Go.Ev
open Go
def Rt(u v:TUnit):Prop:=fu v []=fu u []
variable{q:PId}{f:TUnit→TUnit}{u:TUnit}
theorem KV(h:∀v,fu (f v) []=fu v [])(u:TUnit):Rt u (dK q f u):=by
 unfold Rt;cases hi:fL q u with
 |true=>grind[qR]
 |false=>rw[kM hi];rfl
theorem KK(h:iK q u=true):Rt u (dK q f u):=by
 cases hi:fL q u with
 |true=>unfold iK at h;rw[qS hi]at h;cases h
 |false=>unfold Rt;rw[kM hi];rfl
end Go.Ev
