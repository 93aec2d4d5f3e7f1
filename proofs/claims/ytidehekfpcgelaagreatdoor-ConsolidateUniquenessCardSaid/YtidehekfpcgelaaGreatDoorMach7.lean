/- An abstract machine for runs of the program, proved sound against the model: part 7. No conditions. -/
import Derived.Test.YtidehekfpcgelaaGreatDoorMach6
import Derived.Laws.Externs
import Derived.Lib.Join
import Derived.Lib.Repeat
namespace Go.Ev
open Go
def qO(l:List aE)(n:Int):Bool:=kX l&&az (ao (.ofNat l.length) n)
def BL(n:Int):Bool:=az (ao n 0)&&az (ao 256 n)
theorem JE{u:TUnit}(p:List PStep)(h:nU u≤2^11):(eb u p).length≤2^22:=by
 have key:∀(rs:List PStep)(l:List TUnit),ef (gH rs l)≤ef l:=by
  intro rs;induction rs with
  |nil=>intro l;exact an _
  |cons s r ih=>grind[I1,GC]
 unfold eb;cases lX p with
 |false=>simp_all
 | true=>
  simp only[cond_true];cases p with
  |nil=>simp_all
  | cons s r=>
   simp only[];refine bL (yd _) (bL (key r _) ?_);cases nI s with
   |true=>grind[bi,mr]
   |false=>
    simp only[cond_false];have h1:=GB s u fun x hx=>eJ hx
    have h2:nU u*nU u≤2^11*2^11:=Nat.mul_le_mul h h;exact bL h1 h2
theorem Ho{u:TUnit}{p:List PStep}(h:eb u p=[]):aC u p=(b8,7):=by grind[aC]
theorem Hn{u x:TUnit}{p:List PStep}(h:eb u p=[x]):aC u p=(ah x,0):=by grind[aC]
theorem Hm{u x y:TUnit}{r:List TUnit}{p:List PStep}(h:eb u p=x::y::r):aC u p=(b8,8):=by grind[aC]
def xA(own:PId)(i:Int)(ok:Bool)(n:Int):PSpot×Int:=bif ok then(⟨own,i+n⟩,0)else(dP,9)
def Ct(e:Int)(sp:PSpot)(e2:Int):PSpot×Int:=bif ak e 0 then(bif ak e2 0 then(sp,0)else(dP,e2))else(dP,e)
def oq(p q own:PId)(at_:Int)(ok c bs:Bool)(sp:PSpot)(e:Int):PSpot×Int:=
 bif az ok||((az (aT q p)&&c)||(aT q p&&az bs))then(dP,9)
 else bif aT q p then(⟨own,at_⟩,0)
 else bif ak e 0&&(aT sp.id own&&ao at_ sp.at_)then(⟨sp.id,sp.at_-1⟩,e)else(sp,e)
end Go.Ev
namespace Go.Ev
open Go
section
variable{a i:Int}{l r x:List aE}{s:aE}{m:List PWord}{j n k:Nat}
theorem tW(h1:l.drop j=x)(h2:x=s::r)(h3:s::r=l):1=[(⟨s,a,i,.ofNat (n+j)⟩:PWord)].length∧0<[(⟨s,a,i,.ofNat (n+j)⟩:PWord)].length∧[(⟨s,a,i,.ofNat (n+j)⟩:PWord)]++bg a i r (n+[(⟨s,a,i,.ofNat (n+j)⟩:PWord)].length)=bg a i l n∧[(⟨s,a,i,.ofNat (n+j)⟩:PWord)].length+r.length=l.length:=by
 have e:=congrArg List.length (h1.trans h2);have e2:=congrArg List.length h3;simp only[wo,cM]at e e2;have:j=0:=by omega
 subst this;refine⟨rfl,Nat.one_pos,?_,by grind⟩;rw[←h3,bg];rfl
theorem wQ(h1:l.drop j=x)(h2:x=s::r)(h:k=m.length∧0<m.length∧m++bg a i (s::r) (n+m.length)=bg a i l n∧m.length+(s::r).length=l.length):
  k+1=(m++[(⟨s,a,i,.ofNat (n+j)⟩:PWord)]).length∧0<(m++[(⟨s,a,i,.ofNat (n+j)⟩:PWord)]).length∧(m++[(⟨s,a,i,.ofNat (n+j)⟩:PWord)])++bg a i r (n+(m++[(⟨s,a,i,.ofNat (n+j)⟩:PWord)]).length)=bg a i l n∧(m++[(⟨s,a,i,.ofNat (n+j)⟩:PWord)]).length+r.length=l.length:=by
 have e:=congrArg List.length (h1.trans h2);obtain⟨q1,q2,q3,q4⟩:=h;simp only[wo,cM]at e q4;have:j=m.length:=by omega
 subst this;simp only[eZ,cM,gT];refine⟨by omega,by omega,?_,by omega⟩;rw[←q3,bg,ia];rfl
end
theorem fO(l:List PWord):(aL l).length=l.length:=cK ..
structure StampI(a i:Int)(ks:List TUnit)(n0 w0:Nat)(k n w:Nat)(m:List TUnit):Prop where
 len:m.length=k
 le:k≤ks.length
 all:m++cE a i (ks.drop k) n w=cE a i ks n0 w0
 num:n+ef (ks.drop k)=n0+ef ks
 wd:w+(fj (ks.drop k)).length=w0+(fj ks).length
theorem StampI.start(a i:Int)(ks:List TUnit)(n0 w0:Nat):StampI a i ks n0 w0 0 n0 w0 []:=⟨rfl,bP _,rfl,rfl,rfl⟩
theorem StampI.step{a i:Int}{ks:List TUnit}{n0 w0 k n w:Nat}{m:List TUnit}(h:StampI a i ks n0 w0 k n w m)(hk:k<ks.length):
  StampI a i ks n0 w0 (k+1) (n+nU (gD ks k)) (w+(dM (gD ks k)).length) (m++[cQ a i (gD ks k) n w]):=by
 have e:=sQ hk;obtain⟨h1,h2,h3,h4,h5⟩:=h;rw[e,DS]at h3;rw[e,bi]at h4;rw[e,dU,eZ]at h5;exact⟨by simp_all,hk,by simp_all,by omega,by omega⟩
theorem StampI.done{a i:Int}{ks:List TUnit}{n0 w0 k n w:Nat}{m:List TUnit}(h:StampI a i ks n0 w0 k n w m)(hk:¬k<ks.length):m=cE a i ks n0 w0∧n=n0+ef ks∧w=w0+(fj ks).length:=by grind[qE,mr,lg,cases StampI]
theorem Yc{α:Type}[Inhabited α]{m r:List α}{k:Nat}(h:m.length=k):gD (m++r) k=gD r 0:=by grind[gD]
theorem VC{α:Type}[Inhabited α]{l:List α}{k:Nat}:gD (l.drop k) 0=gD l k:=by simp_all[gD]
theorem UY{α:Type}{m r:List α}{k:Nat}{x y:α}(h:m.length=k):(m++x::r).set k y=(m++[y])++r:=by simp_all
def gp(a i:Int)(ks:List TUnit)(n0 w0 k n w:Nat)(L:List TUnit):Prop:=∃m,L=m++ks.drop k∧StampI a i ks n0 w0 k n w m
section
variable{a i:Int}{ks L:List TUnit}{n0 w0 k n w:Nat}
theorem gp.start(a i:Int)(ks:List TUnit)(n0 w0:Nat):gp a i ks n0 w0 0 n0 w0 ks:=⟨[],rfl,StampI.start ..⟩
theorem gp.len(h:gp a i ks n0 w0 k n w L):L.length=ks.length:=by
 obtain⟨m,rfl,hI⟩:=h;grind[cases StampI]
theorem gp.at_(h:gp a i ks n0 w0 k n w L):gD L k=gD ks k:=by
 obtain⟨m,rfl,hI⟩:=h;rw[Yc hI.len,VC]
theorem gp.step(h:gp a i ks n0 w0 k n w L)(hk:k<ks.length):gp a i ks n0 w0 (k+1) (n+nU (gD L k)) (w+(dM (gD L k)).length) (L.set k (cQ a i (gD L k) n w)):=by
 rw[h.at_];obtain⟨m,rfl,hI⟩:=h;exact⟨m++[cQ a i (gD ks k) n w],by rw[sQ hk,UY hI.len],hI.step hk⟩
theorem gp.num(h:gp a i ks n0 w0 k n w L):n+ef (ks.drop k)=n0+ef ks∧w+(fj (ks.drop k)).length=w0+(fj ks).length:=by
 obtain⟨m,rfl,hI⟩:=h;grind[cases StampI]
theorem gp.done(h:gp a i ks n0 w0 k n w L)(hk:¬k<ks.length):L=cE a i ks n0 w0∧n=n0+ef ks∧w=w0+(fj ks).length:=by
 obtain⟨m,rfl,hI⟩:=h;rw[Fp (by omega),dO];exact hI.done hk
theorem gp.room(h:gp a i ks n0 w0 k n w L)(hk:k<ks.length):n+nU (gD L k)≤n0+ef ks∧w+(dM (gD L k)).length≤w0+(fj ks).length:=by
 have h1:=h.num;rw[h.at_];grind[sQ,bi,dU]
end
end Go.Ev
namespace Go.Ev
open Go
section
variable{α:Type}
structure TotB(lt:α→α→Bool):Prop where
 trans:∀x y z,lt y x=false→lt z y=false→lt z x=false
 asym:∀x y,lt x y=true→lt y x=false
variable{lt:α→α→Bool}
theorem TotB.down(T:TotB lt){x y z:α}(h1:lt z y=false)(h2:lt z x=true):lt y x=true:=by
 cases h:lt y x with
 |true=>rfl
 |false=>grind[cases TotB]
theorem TotB.up(T:TotB lt){x y z:α}(h1:lt x y=true)(h2:lt z y=false):lt x z=true:=by
 cases h:lt x z with
 |true=>rfl
 |false=>grind[cases TotB]
end
section
variable{α:Type}[Inhabited α]{lt:α→α→Bool}{l x y z w:List α}{a b m n i j k s e p d:Nat}
theorem wU(h:l.length≤i):gD l i=default:=by grind[gD]
theorem Yb{v:α}(h:i<l.length):gD (l.set i v) k=if k=i then v else gD l k:=by
 unfold gD;grind
theorem rE(hi:i<l.length)(hj:j<l.length):((l.set i (gD l j)).set j (gD l i)).Perm l:=by grind[gD,List.set_set_perm]
theorem yq(hi:i<l.length)(hj:j<l.length)(q:Nat):gD ((l.set i (gD l j)).set j (gD l i)) q=if q=j then gD l i else if q=i then gD l j else gD l q:=by grind[Yb]
def dA(lt:α→α→Bool)(l:List α)(a b:Nat):Prop:=∀i j,a≤i→i<j→j<b→lt (gD l j) (gD l i)=false
structure SSeg(lt:α→α→Bool)(l x:List α)(a b:Nat):Prop where
 perm:x.Perm l
 out:∀i,i<a∨b≤i→gD x i=gD l i
 src:∀i,a≤i→i<b→∃j,a≤j∧j<b∧gD x i=gD l j
 srt:dA lt x a b
theorem SSeg.len(h:SSeg lt l x a b):x.length=l.length:=h.perm.length_eq
theorem mT(h:dA lt l a b):SSeg lt l l a b:=⟨.refl _,fun _ _=>rfl,fun i h1 h2=>⟨i,h1,h2,rfl⟩,h⟩
theorem SSeg.cast{p q:Nat}(h:SSeg lt l x p q)(hp:p=a)(hq:q=b):SSeg lt l x a b:=by simp_all
theorem dA.nil(h:b≤a+1):dA lt l a b:=fun i j _ _ _=>by omega
theorem dA.sub(h:dA lt l a b)(h1:a≤i)(h2:j≤b):dA lt l i j:=fun p q e1 e2 e3=>h p q (by omega) e2 (by omega)
theorem dA.le(T:TotB lt)(h:dA lt l a b)(h1:a≤i)(h2:i≤j)(h3:j<b):lt (gD l j) (gD l i)=false:=by
 rcases gX i j with q|q
 ·exact h i j h1 q h3
 grind[cases TotB]
structure InsI(lt:α→α→Bool)(l x:List α)(a i j:Nat):Prop where
 perm:x.Perm l
 out:∀q,q<a∨i+1≤q→gD x q=gD l q
 src:∀q,a≤q→q<i+1→∃p,a≤p∧p<i+1∧gD x q=gD l p
 mid:∀p q,a≤p→p<q→q≤i→q≠j→lt (gD x q) (gD x p)=false
theorem InsI.start(h:SSeg lt l x a (min i b))(h1:i<b):InsI lt l x a i i:=by
 rw[show min i b=i by omega]at h;refine⟨h.perm,fun q hq=>h.out q (by omega),fun q h1 h2=>?_,fun p q h1 h2 h3 h4=>h.srt p q h1 h2 (by omega)⟩;grind[cases SSeg]
theorem InsI.step(T:TotB lt)(h:InsI lt l x a i j)(hi:i<l.length)(h1:a<j)(h2:j≤i)(hk:k+1=j)(hl:lt (gD x j) (gD x k)=true):InsI lt l ((x.set j (gD x k)).set k (gD x j)) a i k:=by
 have hx:x.length=l.length:=h.perm.length_eq;have hj:j<x.length:=by omega
 have hkx:k<x.length:=by omega
 have g:=yq hj hkx;refine⟨(rE hj hkx).trans h.perm,fun q hq=>?_,fun q q1 q2=>?_,fun p q h3 h4 h5 h6=>?_⟩
 ·rw[g,if_neg (by omega),if_neg (by omega)];exact h.out q hq
 ·rw[g];split
  ·grind[cases InsI]
  ·split
   ·grind[cases InsI]
   ·exact h.src q q1 q2
 ·rw[g,g];rw[if_neg (show ¬q=k by omega)];by_cases c1:q=j
  ·rw[if_pos c1];by_cases c2:p=k
   ·rw[if_pos c2];exact T.asym _ _ hl
   ·grind[cases InsI]
  ·rw[if_neg c1];by_cases c2:p=k
   ·grind[cases InsI]
   ·rw[if_neg c2];by_cases c3:p=j
    ·grind[cases InsI]
    ·rw[if_neg c3];exact h.mid p q h3 h4 h5 c1
theorem InsI.stop(T:TotB lt)(h:InsI lt l x a i j)(ha:a≤j)(h2:j≤i)(hb:i<b)(hs:s=i+1)(hl:j=a∨∃k,k+1=j∧lt (gD x j) (gD x k)=false):SSeg lt l x a (min s b):=by
 rw[show min s b=i+1 by omega];refine⟨h.perm,h.out,h.src,fun p q h3 h4 h5=>?_⟩;grind[cases TotB,cases InsI]
theorem OV(hab:a≤b):SSeg lt l l a (min (a+1) b):=mT (dA.nil (by omega))
theorem Rn(h:SSeg lt l x a (min i b))(hi:b≤i):SSeg lt l x a b:=by simp_all
def sw(a b m i:Nat):Nat:=if a≤i∧i<a+m then i-a+b else if b≤i∧i<b+m then i-b+a else i
structure SwP(l x:List α)(a b m:Nat):Prop where
 perm:x.Perm l
 at_:∀i,i<l.length→gD x i=gD l (sw a b m i)
theorem SwP.len(h:SwP l x a b m):x.length=l.length:=h.perm.length_eq
theorem SwP.start:SwP l l a b 0:=⟨.refl _,fun i _=>by simp_all[sw,if_neg]⟩
theorem SwP.step(h:SwP l x a b k)(hk:k<m)(ha:a+m≤b)(hb:b+m≤l.length)(hi:i=a+k)(hj:j=b+k)(hs:s=k+1):SwP l ((x.set i (gD x j)).set j (gD x i)) a b s:=by
 subst hi hj hs;have hx:x.length=l.length:=h.perm.length_eq;have h1:a+k<x.length:=by omega
 have h2:b+k<x.length:=by omega
 refine⟨(rE h1 h2).trans h.perm,fun q hq=>?_⟩;rw[yq h1 h2];by_cases c1:q=b+k
 ·rw[if_pos c1,h.at_ _ (by omega)];congr 1;unfold sw;grind
 ·rw[if_neg c1];by_cases c2:q=a+k
  ·rw[if_pos c2,h.at_ _ (by omega)];congr 1;unfold sw;grind
  ·rw[if_neg c2,h.at_ _ (by omega)];congr 1;unfold sw;grind
theorem SwP.done(h:SwP l x a b k)(hk:k=m):SwP l x a b m:=hk▸h
def ro(a m b i:Nat):Nat:=if a≤i∧i<a+(b-m)then i-a+m else if a+(b-m)≤i∧i<b then i-(b-m)else i
structure RoP(l x:List α)(a m b:Nat):Prop where
 perm:x.Perm l
 at_:∀q,q<l.length→gD x q=gD l (ro a m b q)
theorem RoP.len(h:RoP l x a m b):x.length=l.length:=h.perm.length_eq
theorem RoP.cast{p q r:Nat}(h:RoP l x p q r)(hp:p=a)(hq:q=m)(hr:r=b):RoP l x a m b:=by simp_all
structure RoI(l x:List α)(a m b i j:Nat):Prop where
 perm:x.Perm l
 i0:0<i
 j0:0<j
 im:i≤m
 jn:m+j≤l.length
 at_:∀q,q<l.length→gD x (ro (m-i) m (m+j) q)=gD l (ro a m b q)
theorem RoI.len(h:RoI l x a m b i j):x.length=l.length:=h.perm.length_eq
theorem RoI.start(ha:a<m)(hm:m<b)(hb:b≤l.length)(hi:i=m-a)(hj:j=b-m):RoI l l a m b i j:=by
 subst hi hj;refine⟨.refl _,by omega,by omega,by omega,by omega,fun q _=>?_⟩;grind
theorem WE(ham:a≤m)(hmb:m≤b)(hb:b≤n)(hi:i<n):ro a m b i<n:=by grind[ro]
theorem RoI.left{p q r:Nat}(h:RoI l x a m b i j)(hs:SwP x y p q r)(hp:p=m-i)(hq:q=m)(hr:r=j)(hij:j<i)(hk:k=i-j):RoI l y a m b k j:=by
 subst hk;subst hp;have hq:=hq.symm;subst hq;have hr:=hr.symm;subst hr;have hi:=h.im;have hj:=h.jn;have h0:=h.j0;refine⟨hs.perm.trans h.perm,by omega,h0,by omega,hj,fun q hq=>?_⟩;rw[hs.at_ _ (by rw[h.len];simp_all[WE]),←h.at_ q hq];congr 1;unfold sw ro;grind
theorem RoI.right{p q r:Nat}(h:RoI l x a m b i j)(hs:SwP x y p q r)(hp:p=m-i)(hq:q=m+j-i)(hr:r=i)(hij:i<j)(hk:k=j-i):RoI l y a m b i k:=by
 subst hk;subst hp;have hq:=hq.symm;subst hq;have hr:=hr.symm;subst hr;have hi:=h.im;have hj:=h.jn;have h0:=h.i0;refine⟨hs.perm.trans h.perm,h0,by omega,hi,by omega,fun q hq=>?_⟩;rw[hs.at_ _ (by rw[h.len];exact WE (by omega) (by omega) (by omega) hq),←h.at_ q hq];congr 1;unfold sw ro;by_cases c1:m-i≤q∧q<m-i+(m+(j-i)-m)
 ·grind
 ·rw[if_neg c1];by_cases c2:m-i+(m+(j-i)-m)≤q∧q<m+(j-i)
  ·grind
  ·rw[if_neg c2];grind
theorem RoI.stop{p q r:Nat}(h:RoI l x a m b i j)(hs:SwP x y p q r)(hp:p=m-i)(hq:q=m)(hr:r=i)(hij:i=j):RoP l y a m b:=by
 subst hij;subst hp;have hq:=hq.symm;subst hq;have hr:=hr.symm;subst hr;have hi:=h.im;have hj:=h.jn;refine⟨hs.perm.trans h.perm,fun q hq=>?_⟩;rw[hs.at_ _ (by rw[h.len];omega),←h.at_ q hq];congr 1;unfold sw ro;grind
theorem RoP.none(h:m≤a∨b≤m)(ham:a≤m)(hmb:m≤b):RoP l l a m b:=⟨.refl _,fun q _=>by
 congr 1;unfold ro;grind⟩
structure FstI(lt:α→α→Bool)(l:List α)(a m b i j:Nat):Prop where
 mi:m≤i
 ij:i≤j
 jb:j≤b
 lo:∀q,m≤q→q<i→lt (gD l q) (gD l a)=true
 hi:∀q,j≤q→q<b→lt (gD l q) (gD l a)=false
theorem FstI.start(h:m≤b):FstI lt l a m b m b:=⟨by omega,by omega,by omega,fun q _ _=>by omega,fun q _ _=>by omega⟩
theorem FstI.more(T:TotB lt)(h:FstI lt l a m b i j)(hs:dA lt l m b)(hl:lt (gD l k) (gD l a)=true)(h1:i≤k)(h2:k<j)(hk:e=k+1):FstI lt l a m b e j:=by
 subst hk;have:=h.mi;have:=h.jb;refine⟨by omega,by omega,h.jb,fun q q1 q2=>?_,h.hi⟩;exact T.down (hs.le T q1 (by omega) (by omega)) hl
theorem FstI.less(T:TotB lt)(h:FstI lt l a m b i j)(hs:dA lt l m b)(hl:lt (gD l k) (gD l a)=false)(h1:i≤k)(h2:k<j):FstI lt l a m b i k:=by
 have:=h.mi;have:=h.jb;refine⟨h.mi,by omega,by omega,h.lo,fun q q1 q2=>?_⟩;exact T.trans _ _ _ hl (hs.le T (by omega) q1 q2)
structure UpI(l x:List α)(a k:Nat):Prop where
 perm:x.Perm l
 at_:∀q,q<l.length→gD x q=gD l (if a≤q∧q<k then q+1 else if q=k then a else q)
theorem UpI.len(h:UpI l x a k):x.length=l.length:=h.perm.length_eq
theorem UpI.start:UpI l l a a:=⟨.refl _,fun q _=>by grind⟩
theorem UpI.step(h:UpI l x a k)(hk:a≤k)(hn:k+1<l.length)(he:e=k+1):UpI l ((x.set k (gD x e)).set e (gD x k)) a e:=by
 subst he;have hx:=h.len;have h1:k<x.length:=by omega
 have h2:k+1<x.length:=by omega
 refine⟨(rE h1 h2).trans h.perm,fun q hq=>?_⟩;rw[yq h1 h2];by_cases c1:q=k+1
 ·rw[if_pos c1,h.at_ _ (by omega),if_neg (by omega),if_pos rfl,if_neg (by omega),if_pos c1]
 ·rw[if_neg c1];by_cases c2:q=k
  ·rw[if_pos c2,h.at_ _ (by omega),if_neg (by omega),if_neg (by omega),if_pos (by omega),c2]
  ·rw[if_neg c2,h.at_ _ hq];grind
theorem UpI.stop(T:TotB lt)(h:UpI l x a k)(hf:FstI lt l a m b i j)(hs:dA lt l m b)(hma:m=a+1)(hij:j≤i)(hk:k+1=i)(hb:b≤l.length):SSeg lt l x a b:=by
 have q1:=hf.mi;have q2:=hf.ij;have q3:=hf.jb;refine⟨h.perm,fun q hq=>?_,fun q h1 h2=>?_,fun p q h1 h2 h3=>?_⟩
 ·rcases gX q l.length with c|c
  ·rw[h.at_ q c,if_neg (by omega),if_neg (by omega)]
  ·rw[wU (by rw[h.len];omega),wU c]
 ·rw[h.at_ q (by omega)];grind
 ·rw[h.at_ p (by omega),h.at_ q (by omega)];by_cases c1:p<k
  ·rw[if_pos (show a≤p∧p<k by omega)];by_cases c2:q<k
   ·rw[if_pos (show a≤q∧q<k by omega)];exact hs _ _ (by omega) (by omega) (by omega)
   ·rw[if_neg (show ¬(a≤q∧q<k) by omega)];by_cases c3:q=k
    ·grind[cases TotB,cases FstI]
    ·grind[cases TotB,cases FstI]
  ·rw[if_neg (show ¬(a≤p∧p<k) by omega),if_neg (show ¬(a≤q∧q<k) by omega),if_neg (show ¬q=k by omega)];by_cases c3:p=k
   ·rw[if_pos c3];exact hf.hi _ (by omega) (by omega)
   ·rw[if_neg c3];exact hs _ _ (by omega) (by omega) (by omega)
structure LstI(lt:α→α→Bool)(l:List α)(a m i j:Nat):Prop where
 ai:a≤i
 ij:i≤j
 jm:j≤m
 lo:∀q,a≤q→q<i→lt (gD l m) (gD l q)=false
 hi:∀q,j≤q→q<m→lt (gD l m) (gD l q)=true
theorem LstI.start(h:a≤m):LstI lt l a m a m:=⟨by omega,by omega,by omega,fun q _ _=>by omega,fun q _ _=>by omega⟩
theorem LstI.more(T:TotB lt)(h:LstI lt l a m i j)(hs:dA lt l a m)(hl:lt (gD l m) (gD l k)=false)(h1:i≤k)(h2:k<j)(hk:e=k+1):LstI lt l a m e j:=by
 subst hk;have:=h.ai;have:=h.jm;refine⟨by omega,by omega,h.jm,fun q q1 q2=>?_,h.hi⟩;exact T.trans _ _ _ (hs.le T q1 (by omega) (by omega)) hl
theorem LstI.less(T:TotB lt)(h:LstI lt l a m i j)(hs:dA lt l a m)(hl:lt (gD l m) (gD l k)=true)(h1:i≤k)(h2:k<j):LstI lt l a m i k:=by
 have:=h.ai;have:=h.jm;refine⟨h.ai,by omega,by omega,h.lo,fun q q1 q2=>?_⟩;exact T.up hl (hs.le T (by omega) q1 q2)
structure DnI(l x:List α)(m k:Nat):Prop where
 perm:x.Perm l
 at_:∀q,q<l.length→gD x q=gD l (if k<q∧q≤m then q-1 else if q=k then m else q)
theorem DnI.len(h:DnI l x m k):x.length=l.length:=h.perm.length_eq
theorem DnI.start:DnI l l m m:=⟨.refl _,fun q _=>by grind⟩
theorem DnI.step(h:DnI l x m k)(hk:k≤m)(hn:m<l.length)(he:e+1=k):DnI l ((x.set k (gD x e)).set e (gD x k)) m e:=by
 subst he;have hx:=h.len;have h1:e+1<x.length:=by omega
 have h2:e<x.length:=by omega
 refine⟨(rE h1 h2).trans h.perm,fun q hq=>?_⟩;rw[yq h1 h2];by_cases c1:q=e
 ·rw[if_pos c1,h.at_ _ (by omega),if_neg (by omega),if_pos rfl,if_neg (by omega),if_pos c1]
 ·rw[if_neg c1];by_cases c2:q=e+1
  ·rw[if_pos c2,h.at_ _ (by omega),if_neg (by omega),if_neg (by omega),if_pos (by omega)];simp_all
  ·rw[if_neg c2,h.at_ _ hq];grind
theorem DnI.stop(T:TotB lt)(h:DnI l x m k)(hf:LstI lt l a m i j)(hs:dA lt l a m)(hmb:b=m+1)(hij:j≤i)(hk:k=i)(hb:b≤l.length):SSeg lt l x a b:=by
 have q1:=hf.ai;have q2:=hf.ij;have q3:=hf.jm;refine⟨h.perm,fun q hq=>?_,fun q h1 h2=>?_,fun p q h1 h2 h3=>?_⟩
 ·rcases gX q l.length with c|c
  ·rw[h.at_ q c,if_neg (by omega),if_neg (by omega)]
  ·rw[wU (by rw[h.len];omega),wU c]
 ·rw[h.at_ q (by omega)];grind
 ·rw[h.at_ p (by omega),h.at_ q (by omega)];by_cases c1:q≤k
  ·rw[if_neg (show ¬(k<q∧q≤m) by omega),if_neg (show ¬(k<p∧p≤m) by omega),if_neg (show ¬p=k by omega)];by_cases c3:q=k
   ·rw[if_pos c3];exact hf.lo _ h1 (by omega)
   ·rw[if_neg c3];exact hs _ _ h1 h2 (by omega)
  ·rw[if_pos (show k<q∧q≤m by omega)];by_cases c2:k<p
   ·rw[if_pos (show k<p∧p≤m by omega)];exact hs _ _ (by omega) (by omega) (by omega)
   ·rw[if_neg (show ¬(k<p∧p≤m) by omega)];by_cases c3:p=k
    ·grind[cases TotB,cases LstI]
    ·rw[if_neg c3];exact hs _ _ h1 (by omega) (by omega)
structure CutI(lt:α→α→Bool)(l:List α)(lo hi p i j:Nat):Prop where
 li:lo≤i
 ij:i≤j
 jh:j≤hi
 low:∀c,lo≤c→c<i→lt (gD l (p-c)) (gD l c)=false
 high:∀c,j≤c→c<hi→lt (gD l (p-c)) (gD l c)=true
variable{lo hi:Nat}
theorem CutI.start(h:lo≤hi):CutI lt l lo hi p lo hi:=⟨by omega,by omega,by omega,fun q _ _=>by omega,fun q _ _=>by omega⟩
theorem CutI.more(T:TotB lt)(h:CutI lt l lo hi p i j)(hA:dA lt l a m)(hB:dA lt l m b)(hl:lt (gD l s) (gD l k)=false)(b1:a≤lo)(b2:hi≤m)(b3:m+hi≤p+1)(b4:p<b+lo)(h1:i≤k)(h2:k<j)(hk:e=k+1)(hs:s=p-k):CutI lt l lo hi p e j:=by
 subst hk hs;have:=h.li;have:=h.jh;refine⟨by omega,by omega,h.jh,fun c c1 c2=>?_,h.high⟩;exact T.trans _ _ _ (hA.le T (i:=c) (j:=k) (by omega) (by omega) (by omega)) (T.trans _ _ _ hl (hB.le T (i:=p-k) (j:=p-c) (by omega) (by omega) (by omega)))
theorem CutI.less(T:TotB lt)(h:CutI lt l lo hi p i j)(hA:dA lt l a m)(hB:dA lt l m b)(hl:lt (gD l s) (gD l k)=true)(b1:a≤lo)(b2:hi≤m)(b3:m+hi≤p+1)(b4:p<b+lo)(h1:i≤k)(h2:k<j)(hs:s=p-k):CutI lt l lo hi p i k:=by
 subst hs;have:=h.li;have:=h.jh;refine⟨h.li,by omega,by omega,h.low,fun c c1 c2=>?_⟩;exact T.down (hB.le T (i:=p-c) (j:=p-k) (by omega) (by omega) (by omega)) (T.up hl (hA.le T (i:=k) (j:=c) (by omega) (by omega) (by omega)))
theorem OA(T:TotB lt)(h:CutI lt l lo hi p s s)(hA:dA lt l a m)(hB:dA lt l m b)(hr:RoP l y s m e)(hab:b≤l.length)
  (d1:d+m=p+1)(e1:e+s=p+1)(f1:a≤s)(f2:s≤m)(f3:m≤e)(f4:e≤b)(f5:lo<s∨s=a∨e=b)(f6:s<hi∨s=m∨e=m):
  ∀i j,a≤i→i<d→d≤j→j<b→lt (gD y j) (gD y i)=false:=by
 intro i j h1 h2 h3 h4;rw[hr.at_ i (by omega),hr.at_ j (by omega)];unfold ro;by_cases c1:i<s
 ·rw[if_neg (show ¬(s≤i∧i<s+(e-m)) by omega),if_neg (show ¬(s+(e-m)≤i∧i<e) by omega)];rw[if_neg (show ¬(s≤j∧j<s+(e-m)) by omega)];by_cases c2:j<e
  ·rw[if_pos (show s+(e-m)≤j∧j<e by omega)];exact hA.le T h1 (by omega) (by omega)
  ·rw[if_neg (show ¬(s+(e-m)≤j∧j<e) by omega)];have hc:=h.low (s-1) (by omega) (by omega);rw[show p-(s-1)=e by omega]at hc;exact T.trans _ _ _ (hA.le T (i:=i) (j:=s-1) h1 (by omega) (by omega)) (T.trans _ _ _ hc (hB.le T (i:=e) (j:=j) (by omega) (by omega) h4))
 ·rw[if_pos (show s≤i∧i<s+(e-m) by omega),if_neg (show ¬(s≤j∧j<s+(e-m)) by omega)];by_cases c2:j<e
  ·rw[if_pos (show s+(e-m)≤j∧j<e by omega)];have hc:=h.high s (by omega) (by omega);rw[show p-s=e-1 by omega]at hc;refine T.asym _ _ (T.up (T.down (hB.le T (i:=i-s+m) (j:=e-1) (by omega) (by omega) (by omega)) hc) (hA.le T (i:=s) (j:=j-(e-m)) (by omega) (by omega) (by omega)))
  ·rw[if_neg (show ¬(s+(e-m)≤j∧j<e) by omega)];exact hB.le T (by omega) (by omega) h4
theorem RoP.left(hr:RoP l y s m e)(hA:dA lt l a m)(f2:s≤m)(f3:m≤e)(f4:e≤l.length):dA lt y a s:=fun i j h1 h2 h3=>by
 rw[hr.at_ i (by omega),hr.at_ j (by omega)];unfold ro;rw[if_neg (by omega),if_neg (by omega),if_neg (by omega),if_neg (by omega)];exact hA i j h1 h2 (by omega)
theorem RoP.mid1(hr:RoP l y s m e)(hB:dA lt l m b)(f3:m≤e)(f4:e≤b)(f2:s≤m)(hb:b≤l.length)(hd:d=s+(e-m)):dA lt y s d:=fun i j h1 h2 h3=>by
 rw[hr.at_ i (by omega),hr.at_ j (by omega)];unfold ro;rw[if_pos (by omega),if_pos (by omega)];exact hB _ _ (by omega) (by omega) (by omega)
theorem RoP.mid2(hr:RoP l y s m e)(hA:dA lt l a m)(f1:a≤s)(f2:s≤m)(f3:m≤e)(f4:e≤l.length)(hd:d=s+(e-m)):dA lt y d e:=fun i j h1 h2 h3=>by
 rw[hr.at_ i (by omega),hr.at_ j (by omega)];unfold ro;rw[if_neg (by omega),if_pos (by omega),if_neg (by omega),if_pos (by omega)];exact hA _ _ (by omega) (by omega) (by omega)
theorem RoP.right(hr:RoP l y s m e)(hB:dA lt l m b)(f2:s≤m)(f3:m≤e)(hb:b≤l.length):dA lt y e b:=fun i j h1 h2 h3=>by
 rw[hr.at_ i (by omega),hr.at_ j (by omega)];unfold ro;rw[if_neg (by omega),if_neg (by omega),if_neg (by omega),if_neg (by omega)];exact hB i j (by omega) h2 h3
theorem RoP.lower(hr:RoP l y s m e)(hA:dA lt l a m)(hB:dA lt l m b)(hd:d+m=s+e)(h:s≤a∨d≤s)(f1:a≤s)(f2:s≤m)(f3:m≤e)(f4:e≤b)(hb:b≤l.length):dA lt y a d:=by
 rcases h with h|h
 ·have:=hr.mid1 hB f3 f4 f2 hb (d:=d) (by omega);grind
 ·have:=hr.left hA f2 f3 (by omega);grind
theorem RoP.upper(hr:RoP l y s m e)(hA:dA lt l a m)(hB:dA lt l m b)(hd:d+m=s+e)(h:b≤e∨e≤d)(f1:a≤s)(f2:s≤m)(f3:m≤e)(f4:e≤b)(hb:b≤l.length):dA lt y d b:=by
 rcases h with h|h
 ·have:=hr.mid2 hA f1 f2 f3 (by omega) (d:=d) (by omega);grind
 ·have:=hr.right hB f2 f3 hb;grind
theorem Yv(hr:RoP l y s m e)(hz:SSeg lt y z a d)(hw:SSeg lt z w d b)(had:a≤d)(hdb:d≤b)(hb:b≤l.length)(f1:a≤s)(f2:s≤m)(f3:m≤e)(f4:e≤b)
  (hx:∀i j,a≤i→i<d→d≤j→j<b→lt (gD y j) (gD y i)=false):SSeg lt l w a b:=by
 have hro:∀q,a≤q→q<b→a≤ro s m e q∧ro s m e q<b:=fun q h1 h2=>by grind[ro]
 have hy:∀q,q<a∨b≤q→gD y q=gD l q:=fun q hq=>by
  rcases gX q l.length with c|c
  ·rw[hr.at_ q c];congr 1;unfold ro;grind
  ·rw[wU (by rw[hr.len];omega),wU c]
 refine⟨hw.perm.trans (hz.perm.trans hr.perm),fun q hq=>?_,fun q h1 h2=>?_,fun i j h1 h2 h3=>?_⟩
 ·grind[cases SSeg]
 ·rcases gX q d with c|c
  ·obtain⟨j,j1,j2,j3⟩:=hz.src q h1 c;have:=hro j j1 (by omega);exact⟨_,this.1,this.2,by rw[hw.out q (.inl c),j3,hr.at_ j (by omega)]⟩
  ·obtain⟨j,j1,j2,j3⟩:=hw.src q c h2;have:=hro j (by omega) j2;exact⟨_,this.1,this.2,by rw[j3,hz.out j (.inr j1),hr.at_ j (by omega)]⟩
 ·rcases gX j d with c|c
  ·rw[hw.out i (.inl (by omega)),hw.out j (.inl c)];exact hz.srt i j h1 h2 c
  ·rcases gX i d with c2|c2
   ·obtain⟨i',i1,i2,i3⟩:=hz.src i h1 c2;obtain⟨j',j1,j2,j3⟩:=hw.src j c h3;rw[hw.out i (.inl c2),i3,j3,hz.out j' (.inr j1)];simp_all
   ·exact hw.srt i j c2 h2 h3
theorem v9(T:TotB lt)(h:CutI lt l lo hi p i s)(hA:dA lt l a m)(hB:dA lt l m b)(hr:RoP l y i m e)(hz:SSeg lt y z a d)(hw:SSeg lt z w d b)(his:s≤i)(hd:d+m=p+1)(he:e+i=p+1)(had:a≤d)(hdb:d≤b)(hb:b≤l.length)(f1:a≤i)(f2:i≤m)(f3:m≤e)(f4:e≤b)(f5:lo<i∨i=a∨e=b)(f6:i<hi∨i=m∨e=m):SSeg lt l w a b:=by
 have:i=s:=Nat.le_antisymm h.ij his;grind[Yv,OA]
theorem SSeg.keep(h:SSeg lt l x a b)(hs:dA lt l i j)(hd:j≤a∨b≤i):dA lt x i j:=fun p q h1 h2 h3=>by rw[h.out p (by omega),h.out q (by omega)];exact hs p q h1 h2 h3
def PX(lt:α→α→Bool)(x:List α)(s n:Nat):Prop:=∀c,dA lt x (c*s) (min ((c+1)*s) n)
theorem sK{t c d:Nat}(h:a=d*t):(c+1)*t≤a∨c=d∨a+t≤c*t:=by
 subst h;rcases Nat.lt_trichotomy c d with q|q|q
 ·exact .inl (eH _ q)
 ·omega
 ·refine .inr (.inr ?_);have:=eH t q;grind
structure BlkA(lt:α→α→Bool)(l x:List α)(s a:Nat):Prop where
 perm:x.Perm l
 dv:∃c,a=c*s
 ok:∀c,dA lt x (c*s) (min ((c+1)*s) a)
theorem BlkA.len(h:BlkA lt l x s a):x.length=l.length:=h.perm.length_eq
theorem BlkA.start:BlkA lt l l s 0:=⟨.refl _,⟨0,by omega⟩,fun c=>dA.nil (by omega)⟩
theorem BlkA.step(h:BlkA lt l x s a)(hy:SSeg lt x y a b)(hb:b=a+s):BlkA lt l y s b:=by
 obtain⟨d,hd⟩:=h.dv;subst hb;refine⟨hy.perm.trans h.perm,⟨d+1,by grind⟩,fun c=>?_⟩;rcases sK (c:=c) hd with q|q|q
 ·have:=h.ok c;rw[show min ((c+1)*s) a=(c+1)*s by omega]at this;rw[show min ((c+1)*s) (a+s)=(c+1)*s by omega];exact hy.keep this (.inl q)
 all_goals grind[dA.nil,cases SSeg]
theorem BlkA.last(h:BlkA lt l x s a)(hy:SSeg lt x y a n)(hn:n<a+s)(ha:a≤n):y.Perm l∧PX lt y s n:=by
 obtain⟨d,hd⟩:=h.dv;refine⟨hy.perm.trans h.perm,fun c=>?_⟩;rcases sK (c:=c) hd with q|q|q
 ·have:=h.ok c;rw[show min ((c+1)*s) a=(c+1)*s by omega]at this;rw[show min ((c+1)*s) n=(c+1)*s by omega];exact hy.keep this (.inl q)
 all_goals grind[dA.nil,cases SSeg]
structure BlkB(lt:α→α→Bool)(l x:List α)(s a n:Nat):Prop where
 perm:x.Perm l
 dv:∃c,a=c*(2*s)
 ok:∀c,dA lt x (c*(2*s)) (min ((c+1)*(2*s)) a)
 rest:∀c,a≤c*s→dA lt x (c*s) (min ((c+1)*s) n)
theorem BlkB.len(h:BlkB lt l x s a n):x.length=l.length:=h.perm.length_eq
theorem BlkB.start(h:x.Perm l∧PX lt x s n):BlkB lt l x s 0 n:=⟨h.1,⟨0,by omega⟩,fun c=>dA.nil (by omega),fun c _=>h.2 c⟩
theorem BlkB.pre1(h:BlkB lt l x s a n)(hm:m=a+s)(hn:m≤n):dA lt x a m:=by
 obtain⟨d,hd⟩:=h.dv;have e:a=(d*2)*s:=by grind
 have:=h.rest (d*2) (by omega);grind
theorem BlkB.pre2(h:BlkB lt l x s a n)(hm:m=a+s)(hb:b≤m+s)(hn:b≤n):dA lt x m b:=by
 obtain⟨d,hd⟩:=h.dv;have e:a=(d*2)*s:=by grind
 have e2:m=(d*2+1)*s:=by grind
 have:=h.rest (d*2+1) (by omega);rw[←e2,qu,←e2]at this;exact this.sub (an _) (by omega)
theorem BlkB.step(h:BlkB lt l x s a n)(hy:SSeg lt x y a b)(hb:b=a+2*s):BlkB lt l y s b n:=by
 obtain⟨d,hd⟩:=h.dv;subst hb;refine⟨hy.perm.trans h.perm,⟨d+1,by grind⟩,fun c=>?_,fun c hc=>hy.keep (h.rest c (by omega)) (.inr hc)⟩;rcases sK (c:=c) hd with q|q|q
 ·have:=h.ok c;rw[show min ((c+1)*(2*s)) a=(c+1)*(2*s) by omega]at this;rw[show min ((c+1)*(2*s)) (a+2*s)=(c+1)*(2*s) by omega];exact hy.keep this (.inl q)
 all_goals grind[dA.nil,cases SSeg]
theorem BlkB.last(h:BlkB lt l x s a n)(hy:SSeg lt x y a n)(hn:n<a+2*s)(ht:d=2*s)(ha:a≤n):y.Perm l∧PX lt y d n:=by
 subst ht;obtain⟨d,hd⟩:=h.dv;refine⟨hy.perm.trans h.perm,fun c=>?_⟩;rcases sK (c:=c) hd with q|q|q
 ·have:=h.ok c;rw[show min ((c+1)*(2*s)) a=(c+1)*(2*s) by omega]at this;rw[show min ((c+1)*(2*s)) n=(c+1)*(2*s) by omega];exact hy.keep this (.inl q)
 all_goals grind[dA.nil,cases SSeg]
theorem BlkB.one(h:BlkB lt l x s a n)(hn:n≤a+s):SSeg lt x x a n:=by
 obtain⟨d,hd⟩:=h.dv;have e:a=(d*2)*s:=by grind
 have:=h.rest (d*2) (by omega);simp_all[qu,mT]
theorem PX.all(h:PX lt x s n)(hn:n≤s):dA lt x 0 n:=by
 have:=h 0;simp_all
theorem dA.pair:∀{x:List α},dA lt x 0 x.length→x.Pairwise fun u v=>lt v u=false
 |[],_=>.nil
 | u::r,h=>kJ.2 ⟨fun v hv=>by
   obtain⟨i,hi,rfl⟩:=sd hv;have:=h 0 (i+1) (by omega) (by omega) (by simp_all);have e:gD (u::r) (i+1)=r[i]:=by grind[gD]
   rw[e]at this;exact this,dA.pair fun i j _ h2 h3=>h (i+1) (j+1) (by omega) (by omega) (by simp_all)⟩
end
section
variable{α:Type}{lt:α→α→Bool}
theorem CC:∀{x y:List α},x.Pairwise (fun u v=>lt v u=false)→y.Pairwise (fun u v=>lt v u=false)→x.Perm y→(∀u v,u∈x→v∈x→lt u v=false→lt v u=false→u=v)→x=y
 |[],y,_,_,hp,_=>hp.nil_eq
 |u::r,[],_,_,hp,_=>by simp_all
 |u::r,v::t,hx,hy,hp,H=>by
  obtain⟨x1,x2⟩:=kJ.1 hx;obtain⟨y1,y2⟩:=kJ.1 hy;have hv:v∈u::r:=hp.mem_iff.2 (eG ..);have hu:u∈v::t:=hp.mem_iff.1 (eG ..);have e:u=v:=by grind
  subst e;rw[CC x2 y2 ((List.perm_cons u).1 hp) fun a b ha hb=>H a b (eQ _ ha) (eQ _ hb)]
def EA(lt:α→α→Bool)(a:α):List α→List α
 |[]=>[a]
 |b::r=>match lt b a with|true=>b::EA lt a r|false=>a::b::r
def PT(lt:α→α→Bool)(l:List α):List α:=l.foldl (fun o a=>EA lt a o) []
theorem wK(a:α):∀(l:List α),(EA lt a l).Perm (a::l)
 |[]=>.refl _
 |b::r=>by
  unfold EA;cases lt b a with
  |true=>exact((wK a r).cons b).trans (.swap a b r)
  |false=>simp_all
theorem C7(T:TotB lt)(a:α):∀{l:List α},l.Pairwise (fun u v=>lt v u=false)→(EA lt a l).Pairwise (fun u v=>lt v u=false)
 |[],_=>List.pairwise_singleton ..
 | b::r,h=>by
  obtain⟨h1,h2⟩:=kJ.1 h;unfold EA;cases q:lt b a with
  |true=>
   refine kJ.2 ⟨fun v hv=>?_,C7 T a h2⟩;grind[wK,cases TotB]
  |false=>
   refine kJ.2 ⟨fun v hv=>?_,h⟩;grind[cases TotB]
theorem uW(T:TotB lt):∀(l o:List α),o.Pairwise (fun u v=>lt v u=false)→((l.foldl (fun o a=>EA lt a o) o).Perm (o++l)∧(l.foldl (fun o a=>EA lt a o) o).Pairwise fun u v=>lt v u=false)
 |[],o,h=>⟨by simp_all,h⟩
 |a::r,o,h=>by
  obtain⟨h1,h2⟩:=uW T r (EA lt a o) (C7 T a h);refine⟨h1.trans ?_,h2⟩;exact((wK a o).append_right r).trans (List.perm_middle.symm)
theorem zz(T:TotB lt)(l:List α):(PT lt l).Perm l:=(uW T l [] .nil).1
theorem PS(T:TotB lt){l x:List α}(hp:x.Perm l)(hs:x.Pairwise fun u v=>lt v u=false)(H:∀u v,u∈l→v∈l→lt u v=false→lt v u=false→u=v):x=PT lt l:=CC hs (uW T l [] .nil).2 (hp.trans (zz T l).symm) fun u v hu hv=>H u v (hp.mem_iff.1 hu) (hp.mem_iff.1 hv)
end
end Go.Ev
namespace Go.Ev
open Go
theorem VRel.unren{ρ:Nat→Nat}{n:Nat}{pl pl2:Pl}{M:dB}{v:AV}{x:Value}(h:VRel pl2 M v x)(hp:∀id p,id<n→pl2 id=some p→pl (ρ id)=some p)(ht:v.top≤n):VRel pl M (Ev.ren ρ v) x:=by
 have gt:∀{xs:List AV}{i:Nat}{z:AV},(xs.map (Ev.ren ρ))[i]?=some z→∃y,xs[i]?=some y∧z=Ev.ren ρ y:=by grind
 have tp:∀{xs:List AV}{i j:Nat}{z y:AV},aq xs≤n→xs[i]?=some z→z.cells[j]?=some y→y.top≤n:=by
  intro xs i j x y h1 h2 h3;exact ld (dG.1 h1 x (bC h2)) (bC h3)
 have sc:∀{xs:List AV}{sz:Nat},(∀x,x∈xs→x.cells.length=sz∧Sc x)→∀x,x∈xs.map (Ev.ren ρ)→x.cells.length=sz∧Sc x:=by
  intro xs sz h x hx;obtain⟨y,hy,rfl⟩:=fE.1 hx;obtain⟨h1,h2⟩:=h y hy;rw[gx];refine⟨by simp_all,fun u hu=>?_⟩;rw[gx]at hu;obtain⟨z,hz,rfl⟩:=fE.1 hu;rw[oe];exact h2 z hz
 have cel:∀{xs:List AV}{c:Array Value}{o sz:Nat},aq xs≤n→(∀i x j y,xs[i]?=some x→x.cells[j]?=some y→y.top≤n→VRel pl M (Ev.ren ρ y) (c.getD (o+i*sz+j) undef))→
   ∀i x j y,(xs.map (Ev.ren ρ))[i]?=some x→x.cells[j]?=some y→VRel pl M y (c.getD (o+i*sz+j) undef):=by
  intro xs c o sz ht h i x j y h1 h2;obtain⟨x0,e1,rfl⟩:=gt h1;rw[gx]at h2;grind
 induction h with
 |bool b=>exact .bool b
 |int k n=>exact .int k n
 |str s=>exact .str s
 |nilp=>exact .nilp
 |ptr h1 h2 h3=>simp only[AV.top]at ht;exact .ptr (hp _ _ (by omega) h1) h2 h3
 |pptr hm hs hi hc ih=>
  simp only[AV.top]at ht;simp only[Ev.ren,fz];exact .pptr ⟨hm.1,hm.2.1,by simp_all,hm.2.2.2⟩ (sc hs) (by simp_all) (cel ht fun i x j y h1 h2 h3=>ih i x j y h1 h2 h3)
 |nils=>exact .nils
 |slice h1 h2 h3 h4 h5=>simp only[AV.top]at ht;exact .slice (hp _ _ (by omega) h1) h2 h3 h4 h5
 |sl0n _ ih=>exact .sl0n (ih (bP _))
 |sl0s _ ih=>exact .sl0s (ih ht)
 |ps hl ht' hm hs hc ih=>
  simp only[AV.top]at ht;simp only[Ev.ren,fz];have:=VRel.ps (pl:=pl) (xs:=_) (by simpa using hl) (by simpa using ht') (by simp_all) (sc hs) (cel ht fun i x j y h1 h2 h3=>ih i x j y h1 h2 h3);simp_all
 |lsn=>exact .lsn
 |lsp h ht0 ih=>
  have:=ih (by grind[AV.top]);simp only[Ev.ren,fV ρ _ ht0]at this;exact .lsp this ht0
 |nilm=>exact .nilm
 |map h1 h2=>simp only[AV.top]at ht;exact .map (hp _ _ (by omega) h1) h2
 |func h1 h2 _ _ ih1 ih2=>
  simp only[AV.top,rV]at ht;simp only[Ev.ren,fz];refine .func (by simp_all) (by simp_all) (fun j y hj=>?_) (fun j y hj=>?_)
  ·obtain⟨z,e,rfl⟩:=gt hj;exact ih1 j z e (dG.1 ht.1 z (bC e))
  ·obtain⟨z,e,rfl⟩:=gt hj;exact ih2 j z e (dG.1 ht.2 z (bC e))
 |nilf=>exact .nilf
 |iface _ ih=>simp only[AV.top]at ht;exact .iface (ih ht)
 |nili=>exact .nili
 |agg h1 h2 _ ih=>
  simp only[AV.top]at ht;simp only[Ev.ren,fz];refine .agg (by simp_all) (fun y hy=>?_) (fun j y hj=>?_)
  ·grind[oe]
  ·obtain⟨z,e,rfl⟩:=gt hj;exact ih j z e (dG.1 ht z (bC e))
 |tuple h1 _ ih=>
  simp only[AV.top]at ht;simp only[Ev.ren,fz];refine .tuple (by simp_all) (fun j y hj=>?_);obtain⟨z,e,rfl⟩:=gt hj;exact ih j z e (dG.1 ht z (bC e))
def ep0:AObj→Bool
 | .row _ _ e _=>Nat.beq e 0
 | .map _ _=>true
 |_=>false
theorem bp.ep0{pl:Pl}{M:dB}{p:Place}{o:AObj}{x:Option Obj}(h:bp pl M p o x)(he:Ev.ep0 o=true):p.ep=0:=by
 match o,x with
 | .row sz op ep xs,some (.cells c t fr)=>rw[h.1];exact qZ he
 | .map es clock,some (.map entries clock')=>exact h.1
theorem V3{ρ:Nat→Nat}{o:AObj}:ep0 (ka ρ o)=ep0 o:=by cases o<;>rfl
theorem bp.unren{ρ:Nat→Nat}{n:Nat}{pl pl2:Pl}{M:dB}{o:AObj}{p:Place}{x:Option Obj}(h:bp pl2 M p o x)(he:Ev.ep0 o=true)(hp:∀id p,id<n→pl2 id=some p→pl (ρ id)=some p)(ht:o.top≤n):bp pl M p (ka ρ o) x:=by
 match o,x with
 | .row sz op ep xs,some (.cells c t fr)=>
  obtain⟨h1,h2,h3,h4,h5,h6,h7,h8⟩:=h;simp only[AObj.top]at ht;have gt:∀{xs:List AV}{i:Nat}{z:AV},(xs.map (Ev.ren ρ))[i]?=some z→∃y,xs[i]?=some y∧z=Ev.ren ρ y:=by grind
  simp only[ka,fz];refine⟨h1,h2,by simp_all,h4,h5,h6,by simp_all,⟨by simpa using h8.fit,fun y hy=>?_,fun i z j y k1 k2=>?_⟩⟩
  ·obtain⟨z,hz,rfl⟩:=fE.1 hy;obtain⟨q1,q2⟩:=h8.elem z hz;rw[gx];refine⟨by simp_all,fun u hu=>?_⟩;rw[gx]at hu;obtain⟨z,hz,rfl⟩:=fE.1 hu;rw[oe];exact q2 z hz
  ·obtain⟨z0,e1,rfl⟩:=gt k1;rw[gx]at k2;obtain⟨y0,e2,rfl⟩:=gt k2;exact(h8.cell i z0 j y0 e1 e2).unren hp (ld (dG.1 ht z0 (bC e1)) (bC e2))
 | .map es clock,some (.map entries clock')=>
  obtain⟨h1,h2,h3,h4⟩:=h;simp only[AObj.top]at ht;simp only[ka,qT];refine⟨h1,h2,by simp_all,fun i e hi=>?_⟩;rw[qt]at hi;cases hx:es[i]? with
  |none=>grind
  |some e0=>
   rw[hx]at hi;cases hi
   obtain⟨e',k1,k2,k3,k4⟩:=h4 i e0 hx;have:=pH.1 ht e0 (bC hx);exact⟨e',k1,k2.unren hp this.1,k3.unren hp this.2,k4⟩
theorem aI.frame{P:Program}{G:eN}(hG:jW G){f:FuncId}{args:List AV}{v:AV}(ρ:Nat→Nat){L L':List AObj}(hl:L'.length=L.length)
  (hL:∀o,o∈L→ep0 o=true∧o.top≤L.length)(hL':∀o,o∈L'→ep0 o=true∧o.top≤L.length)(hm:∀i o,L'[i]?=some o→(aa L').get i=some o)(ht:aq args≤L.length)(hv:v.top≤L.length)
  (hi:∀i j,i<L.length→j<L.length→ρ i=ρ j→i=j)
  (h0:aI P G f args (aa L) (fun v1 h1=>v1=v∧h1=aa L')){h h':AHeap}(hg:∀i o,L[i]?=some o→h.get (ρ i)=some (ka ρ o))
  (hg':∀k o,h'.get k=some o→(∃i o',L'[i]?=some o'∧k=ρ i∧o=ka ρ o')∨((∀i,i<L.length→k≠ρ i)∧h.get k=some o))(hn:h'.n=h.n):
  aI P G f (ma ρ args) h (fun v1 h1=>v1=Ev.ren ρ v∧h1=h'):=by
 intro pl M w vs hG1 hr hvs;obtain⟨n,en⟩:∃n,n=L.length:=⟨_,rfl⟩
 rw[←en]at hL hL' ht hi hg' hv;have hat:∀i,i<n→∃o,L[i]?=some o∧o∈L:=fun i h=>⟨L[i],lD (by omega),DC _⟩
 have hat':∀i,i<n→∃o,L'[i]?=some o∧o∈L':=fun i h=>⟨L'[i]'(by omega),lD (by omega),DC _⟩
 have hpl1:∀k q,jT ρ n pl k=some q→k<n∧pl (ρ k)=some q:=fun k q hk=>by grind[jT]
 have hnH:(aa L).n=n:=en.symm;have hnH':(aa L').n=n:=hl.trans en.symm;have hr1:cL (jT ρ n pl) M (aa L) w:=by
  refine⟨fun k q hk=>?_,fun k q o hk hgo=>?_,fun k q hk=>?_,fun k k' q q' hk hk' e=>?_,hr.imm,fun k q hk=>?_⟩
  ·simp_all
  ·obtain⟨hk1,hk2⟩:=hpl1 k q hk;have:=nT hgo;exact(hr.obj (ρ k) q _ hk2 (hg k o this)).ren (hL o (bC this)).2
  ·exact hr.blk _ q (hpl1 k q hk).2
  ·obtain⟨a1,a2⟩:=hpl1 k q hk;obtain⟨b1,b2⟩:=hpl1 k' q' hk';exact hi k k' a1 b1 (hr.inj _ _ q q' a2 b2 e)
  ·exact hr.sep _ q (hpl1 k q hk).2
 have hvs1:VRels (jT ρ n pl) M args vs:=⟨by rw[←hvs.len,fz,cK],fun j y hj=>(hvs.at_ j (Ev.ren ρ y) (by grind[fz])).ren rfl (dG.1 ht y (bC hj))⟩
 have hG1':pT G (jT ρ n pl) M:=hG1.none hG;have fin:∀cv w',ie (jT ρ n pl) M (aa L) w v (aa L') cv w'→ie pl M h w (Ev.ren ρ v) h' cv w':=by
  intro cv w' ⟨pl2,M2,k1,k2,k3,k4⟩;have kept:∀b,b<w.heap.size→(∀i q,i<n→pl (ρ i)=some q→q.blk≠b)→w'.heap[b]?=w.heap[b]?:=fun b hb hne=>k3.kept b hb fun k q hk _=>hne k q (hpl1 k q hk).1 (hpl1 k q hk).2
  have same:∀i,i<n→pl2 i=pl (ρ i):=by
   intro i hin;cases hp:pl (ρ i)with
   |none=>exact k3.new i (by omega) (by simp_all[jT])
   |some p=>
    obtain⟨p2,e1,e2,e3⟩:=k3.ext i p (uz hin hp);obtain⟨o,h1,h2⟩:=hat i hin;obtain⟨o',h1',h2'⟩:=hat' i hin;have q1:p.ep=0:=(hr.obj (ρ i) p _ hp (hg i o h1)).ep0 (by grind[V3]);have q2:p2.ep=0:=(k2.obj i p2 o' e1 (hm i o' h1')).ep0 (hL' o' h2').1;simp_all
  have hun:∀id p,id<n→pl2 id=some p→pl (ρ id)=some p:=fun id p h1 h2=>by simp_all
  refine⟨pl,M2,k1.unren hun hv,⟨fun k q hk=>by rw[hn];exact hr.dom k q hk,fun k q o hk hgo=>?_,fun k q hk=>FA (hr.blk k q hk) k3.size,hr.inj,k2.imm,fun k q hk=>?_⟩,⟨nN.refl _,fun _ _ h=>h,k3.mem,k3.size,fun b hb hk=>kept b hb fun i q hin hp e=>?_,fun k q hk=>.inl ⟨q,hk,rfl⟩,fun k q hk hno=>?_,fun _ _ h _=>h,k3.memNew,k3.os,k3.tape,k3.out,k3.drawn⟩,wA hn.symm⟩
  ·rcases hg' k o hgo with⟨i,o',h1,rfl,rfl⟩|⟨hne,hgo⟩
   ·have hin:i<n:=by grind
    have hm':=bC h1;exact(k2.obj i q o' (by simp_all) (hm i o' h1)).unren (hL' o' hm').1 hun (hL' o' hm').2
   ·rw[kept _ (hr.blk k q hk) fun i q' hin hp e=>hne i hin (hr.inj _ _ q q' hk hp e.symm)];exact(hr.obj k q o hk hgo).mono (nN.refl _) k3.mem
  ·cases hM:M2 q.blk with
   |none=>rfl
   |some c2=>
    rcases k3.memNew _ c2 hM with k5|k5
    ·rw[hr.sep k q hk]at k5;grind
    ·have:=hr.blk k q hk;omega
  ·grind
  ·cases hq:h'.get k with
   |none=>rfl
   |some o=>grind
 rcases h0 (jT ρ n pl) M w vs hG1' hr1 hvs1 with⟨h1,h2⟩|⟨cv,w',v1,h1,q1,⟨q2,q3⟩,q4⟩
 ·exact .inl ⟨h1,Calls.mono h2 fun e w' ⟨cv,v1,h1,k1,⟨k2,k3⟩,k4⟩=>⟨cv,Ev.ren ρ v,h',k1,⟨rfl,rfl⟩,by simp_all⟩⟩
 ·exact .inr ⟨cv,w',Ev.ren ρ v,h',q1,⟨rfl,rfl⟩,by simp_all⟩
end Go.Ev
namespace Go.Ev
open Go
section
variable{P:Program}{G:eN}{call:cq}{m:Nat}{c:Code}{d:D}{s s':St}{ops:Array Oper}
theorem EE(hm:P.follows .mixedOrders=true)(hG:jW G)(hc:ch P G call)(d:D)(e:(WP P G call m c).run d s (fun e _ s=>e=.normal∧s=s')=(AExit.normal=.normal∧s'=s')):ap P G (some m) c s (fun e s=>e=.normal∧s=s'):=XW hm hG hc c d s _ _ (e▸⟨rfl,rfl⟩) fun _ _ _ _ h=>h
theorem ya(hG:jW G)(hc:ch P G call){id:Nat}{Ψ:St→Prop}(d:D){W:Prop}(p:W)(e:ZW P G call m ops ops.toList d s (fun _ s=>Ψ s)=W):ap P G (some m) (.region id ops false) s (fun e s=>e=.normal∧Ψ s):=ap.region (gn hG hc _ d s _ (e▸p) fun _ _ _ h=>⟨rfl,h⟩)
end
section
variable{P:Program}{G:eN}{ops:Array Oper}{o:Oper}{l:List Oper}{s:St}{b:Option Nat}
theorem sk{Y:Type}{I:Y→Prop}{r:Y→AV}{H:Y→AHeap}{Φ:St→Prop}(hg:eF s.tmps (eC ops o)=some true)
  (hO:∀(pl:Pl)(M:dB)(a:Act)(w:World),pT G pl M→cL pl M s.heap w→FrRel pl M s.tmps a→∃y pl' M' cv w',I y∧(execOp a.eval o).run P w=.ok (.value cv) w'∧VRel pl' M' (r y) cv∧cL pl' M' (H y) w'∧dX s.heap pl M w (H y) pl' M' w'∧s.heap.n≤(H y).n)
  (h:∀y,I y→∃A',jK s.tmps o.dst (r y)=some A'∧ce P G b ops l ⟨A',H y⟩ Φ):ce P G b ops (o::l) s Φ:=by
 intro i N h0' pl0 M0 w0 a w Q hb hl' hs hQ;have ho:ops[i]?=some o:=by simpa using hl' 0
 obtain⟨pl,M,g1,g2,g3,g4,g5⟩:=hs.ex;simp only[cM,yE,wpOps,ho];rw[fL g3 hg];simp only[if_true];left;obtain⟨y,pl',M',cv,w',i1,i2,i3,i4,i5,i6⟩:=hO pl M a w g1 g2 g3;obtain⟨A',e1,e2⟩:=h y i1;obtain⟨p1,p2⟩:=nR (g3.mono i5.ext i5.mem) i3 (by rw[hs.n];exact hs.small) e1;have nxt:=e2 (i+1) N h0' pl0 M0 w0 (a.put o.dst cv) w' Q hb (fun j=>by have:=hl' (j+1);grind)
  ⟨⟨pl',M',g1.mono i5.ext i5.mem,i4,p1,g4.trans i5 g5,bL g5 i6⟩,by rw[←hs.n];omega,hs.small⟩ hQ
 unfold Oper.wp;rw[i2];exact nxt
theorem vw{t tx e:TypeId}{i:TypeInfo}{sz bt:Nat}(hsz:i.size=sz)(hbt:i.bytes=bt){z z0:AV}{sO xO:Operand}{dst:Option Tmp}{ty:TypeId}{pos:String}{after:Array Edge}{guard:Option (Nat×Bool)}{xs:List AV}
  (ht:P.underlying t=some (.slice e))(hk:∃e',P.underlying tx=some (.slice e'))(hi:P.info? e=some i)(hz:jx P e=some z0)(hzl:Le z z0)
  (hs:(cD G sO).run s.tmps=some (.ps [] true))(hx:(cD G xO).run s.tmps=some (.ls xs))(hne:xs≠[])(hfit:dF sz xs=true)(hzf:dF sz [z]=true)(hsm:small xs.length bt=true)(hs0:0<sz)
  (pl:Pl)(M:dB)(a:Act)(w:World)(g1:pT G pl M)(g2:cL pl M s.heap w)(g3:FrRel pl M s.tmps a):
  ∃(k:Nat)(pl':Pl)(M':dB)(cv:Value)(w':World),True∧(execOp a.eval ⟨dst,.call ⟨.builtin .append,#[sO,xO],#[t,tx]⟩,ty,pos,after,guard⟩).run P w=.ok (.value cv) w'∧
   VRel pl' M' (.slice s.heap.n 0 0 xs.length (some (xs.length+k))) cv∧cL pl' M' (s.heap.push (.row sz false 0 (xs++List.replicate k z))) w'∧dX s.heap pl M w (s.heap.push (.row sz false 0 (xs++List.replicate k z))) pl' M' w'∧s.heap.n≤(s.heap.push (.row sz false 0 (xs++List.replicate k z))).n:=by
 subst hsz;subst hbt;have hsr:=bV g1 g3 hs;have hxr:=bV g1 g3 hx;obtain⟨news,hsrc⟩:=zq (P:=P) g2 hxr (show kN s.heap (.ls xs)=some xs from rfl) hne hfit;obtain⟨i2,zv,hz1,hz2,hz3⟩:=m6 hz;rw[hi]at hz1;cases hz1
 obtain⟨b1,b2⟩:=jB hsm;have hpos:0<xs.length:=qr.2 hne;generalize hq:a.eval sO=cs at hsr;generalize hq2:a.eval xO=cx at hxr hsrc;cases hsr with
 | ps hl htt hm hs2 hc=>
  rename_i ad cap sz c;have hcap:cap=0:=htt rfl;subst hcap;have hzr:=hzl _ _ _ (eV (pl:=pl) (M:=M) hz3);have hzt:=mF hzf z (by simp);have hzsz:zv.cells.size=i.size:=by rw[←hzr.cells.len];omega
  have hrun:=run_append_grow_src (P:=P) w t tx ty e i zv ht hi hz2 (some ad) 0 0 [] (by simp[Builtin.firstCells,loadCells,loadCellsFrom]) cx xs.length news (hsrc.src (.inl hk)) (by omega) (by omega) (growslice_fits (by omega) (by grind));have hge:=grownCap_ge w (0+xs.length) 0 e;obtain⟨C,hC⟩:∃C,C=grownCap w (0+xs.length) 0 e:=⟨_,rfl⟩
  rw[←hC]at hrun hge;have hin:=fU hzr hzt.2 (C-(0+xs.length)) hzt.1 hs0;have hzl:(Builtin.zeroCells zv.cells (C-(0+xs.length))).toList.toArray=(Array.range ((C-(0+xs.length))*i.size)).map (zv.cells[· %zv.cells.size]!):=by grind[Builtin.zeroCells]
  have hnl:(Builtin.zeroCells zv.cells (C-(0+xs.length))).toList.length=(List.replicate (C-(0+xs.length)) z).length *i.size:=by grind[Builtin.zeroCells]
  have hin2:=ki (news:=(Builtin.zeroCells zv.cells (C-(0+xs.length))).toList) hsrc.mem (by grind) hsrc.newsLen hnl #[];have hce:(news++(Builtin.zeroCells zv.cells (C-(0+xs.length))).toList).toArray++#[]=([]++news).toArray++Builtin.zeroCells zv.cells (C-(0+xs.length)):=by grind
  rw[hce]at hin2;have hcs:(([]++news).toArray++Builtin.zeroCells zv.cells (C-(0+xs.length))).size=(xs++List.replicate (C-(0+xs.length)) z).length *i.size:=by simp only[qW,FB,CY,hsrc.newsLen,size_zeroCells,hzsz,eZ,qp,jM]
  obtain⟨cells,hcells⟩:∃cells,cells=([]++news).toArray++Builtin.zeroCells zv.cells (C-(0+xs.length)):=⟨_,rfl⟩
  rw[←hcells]at hrun hin2 hcs;have hxl:(xs++List.replicate (C-(0+xs.length)) z).length=C:=by grind
  let p:Place:=⟨w.heap.size,0,i.size,C,C*i.size⟩
  have hwd:(w.drew.alloc (.cells cells e)).heap=w.heap.push (.cells cells e):=rfl;obtain⟨r1,r2⟩:=cL.alloc (o:=.row i.size false 0 (xs++List.replicate (C-(0+xs.length)) z)) (p:=p) g2 hwd ⟨rfl,rfl,rfl,ow _⟩ rfl
   ⟨rfl,rfl,hxl.symm,by grind,rfl,hs0,fun _=>hcs,hin2.mono (fun id q hq=>⟨q,by rw[cS (by have:=g2.dom id q hq;omega)];omega,an _,fun _=>rfl⟩) (fun _ _ h=>h)⟩
  refine⟨C-(0+xs.length),upd pl s.heap.n p,M,.slice (some ⟨w.heap.size,0,none⟩) (0+xs.length) C,w.drew.alloc (.cells cells e),trivial,?_,?_,r1,r2,ow _⟩
  ·simp only[execOp,resolve,invoke,builtin,Sem.run_bind,Sem.run_pure,Result.andThen_ok,List.map_toArray,dl,wm,hq,hq2];show(Sem.run P (Builtin.append_ #[t,tx] ty #[Value.slice (some ad) 0 0,cx]) w).andThen _=_
   rw[hrun];rfl
  ·rw[gr]at hge ⊢;refine .slice (eX _ _ _) (an _) hge (fun k hk=>by grind) (fun _=>⟨.inr (by grind),by grind,by grind,(fun hk=>by grind),(fun k hk=>by grind)⟩)
end
end Go.Ev
namespace Go.Ev
open Go
section
variable{s id ep off len c l h m a b d sz bt i n k:Nat}{hp H:AHeap}{xs ys zs new:List AV}{lo hi mx cap:Option Nat}{op:Bool}{x z:AV}{vl vh vm:Option AV}
theorem iD(hg:qM s hp id ep=some xs)(h1:jk 0 vl=some l)(h2:jk len vh=some h)(q1:l≤h)(q2:h≤c)(q3:c≠l)(e1:off+l=a)(e2:h-l=b)(e3:c-l=d):
  bc H (dw s hp (some (.slice id ep off len (some c))) vl vh none)=some (.val (.slice id ep a b (some d)) H):=by
 have p1:Nat.ble l h=true:=tG q1;have p2:Nat.ble h c=true:=tG q2;have p3:Nat.beq c l=false:=by grind[aA]
 simp only[dw,gv,hg,h1,h2,room,qj,p1,p2,p3,yF,e1,e2,e3,bc]
theorem D7(hg:qM s hp id ep=some xs)(h1:jk 0 vl=some l)(h2:gJ x=some h)(h3:gJ z=some m)(q1:l≤h)(q2:h≤m)(q3:m≤c)(q4:m≠l)(e1:off+l=a)(e2:h-l=b)(e3:m-l=d):
  bc H (dw s hp (some (.slice id ep off len (some c))) vl (some x) (some z))=some (.val (.slice id ep a b (some d)) H):=by
 have p1:Nat.ble l h=true:=tG q1;have p2:Nat.ble h m=true:=tG q2;have p3:Nat.beq m l=false:=by grind[aA]
 simp_all[tG,dw,gv,room,qj,bc]
theorem LX(hg:qM s hp id ep=some xs)(h1:jk 0 vl=some l)(h2:jk len vh=some h)(q1:l=h)(q3:c=l):
  bc H (dw s hp (some (.slice id ep off len (some c))) vl vh none)=some (.val (.slice id ep 0 0 (some 0)) H):=by
 subst q1;subst q3;have p1:Nat.ble c c=true:=tG (an _);have p3:Nat.beq c c=true:=qm _;simp only[dw,gv,hg,h1,h2,room,qj,p1,p3,yF,bc]
theorem LZ(hg:qM s hp id ep=some xs)(h1:jk 0 vl=some l)(h2:jk len vh=some h)(q1:l≤h)(q2:h+off≤xs.length)(e1:off+l=a)(e2:h-l=b):
  bc H (dw s hp (some (.slice id ep off len none)) vl vh none)=some (.val (.slice id ep a b none) H):=by
 grind[Nat.ble_eq_true_of_le,dw,gv,room,qj,bc]
theorem zY(hg:H.get id=some (.row sz op ep xs))(e:(xs.drop off).take len=zs):kN H (.slice id ep off len cap)=some zs:=by grind[Nat.beq_refl,kN,kE]
theorem PC{xs ys:List AV}{n:Nat}(h:xs.length=n):((xs++ys).drop 0).take n=xs:=by simp_all
theorem wN{xs:List AV}{t:Bool}{n:Nat}(h:aq xs=0):Nat.ble (AV.ps xs t).top n=true:=by simp_all[AV.top]
theorem M6(hg:H.get id=some (.row sz op ep xs))(hx:kN H x=some new)(hf:dF sz new=true)(hne:new≠[])(hc:len+new.length≤c)(hl:off+len+new.length≤xs.length)(hs:small (len+new.length) bt=true)(e1:len+new.length=n)(e2:bN xs (off+len) new=ys):
  fH (di sz bt H (some (.slice id ep off len (some c))) (some x))=some (.val (.slice id ep off n (some c)) (H.put id (.row sz op ep ys))):=by
 subst e1;cases new with
 |nil=>simp_all
 |cons y r=>simp_all[tG,di,gE,iy,fH]
theorem Tz(hx:kN H x=some []):fH (di sz bt H (some (.slice id ep off len cap)) (some x))=some (.val (.slice id ep off len cap) H):=by grind[di,gE,iy,fH]
theorem We(hg:H.get id=some (.row sz op ep xs))(hx:kN H x=some new)(hf:dF sz new=true)(hne:new≠[])(hc:c<len+new.length)(hs:small (len+new.length) bt=true)(e1:(xs.drop off).take len++new=ys)(e2:ys.length=n):
  fH (di sz bt H (some (.slice id ep off len (some c))) (some x))=some (.val (.slice H.n 0 0 n none) (H.push (.row sz true 0 ys))):=by
 cases new with
 |nil=>simp_all
 |cons y r=>
  have p1:Nat.beq ep ep=true:=qm ep;have p2:Nat.beq sz sz=true:=qm sz;have p3:Nat.ble (len+(y::r).length) c=false:=by grind[bU]
  simp_all[di,gE,iy,iH,fH]
theorem UT(hg:H.get id=some (.row sz op ep xs))(hk:0<k)(hc:c<len+k)(hf:dF sz [z]=true)(hs:small (len+k) bt=true)(hs2:small k bt=true)(e1:(xs.drop off).take len++List.replicate k z=ys)(e2:ys.length=n):
  fH (C1 sz bt z H (some (.slice id ep off len (some c))) (some (.int .i64 (.ofNat k))))=some (.val (.slice H.n 0 0 n none) (H.push (.row sz true 0 ys))):=by
 have p1:Nat.beq ep ep=true:=qm ep;have p2:Nat.beq sz sz=true:=qm sz;grind[Nat.ble_eq_true_of_le,Nat.blt,C1,LB,iH,fH]
theorem MF(hg:H.get id=some (.row sz op ep xs))(hx:kN H x=some zs)(hf:dF sz (zs.take len)=true)(e1:min zs.length len=k)(e2:bN xs off (zs.take len)=ys):
  fH (vK sz H (some (.slice id ep off len cap)) (some x))=some (.val (.int .i64 (.ofNat k)) (H.put id (.row sz op ep ys))):=by
 grind[Nat.beq_refl,vK,MG,fH]
theorem J9(hg:H.get id=some (.row sz op ep xs))(hf:dF sz [z]=true)(e2:bN xs off (List.replicate len z)=ys):
  fH (wy sz z H (some (.slice id ep off len cap)))=some (.val gh (H.put id (.row sz op ep ys))):=by
 grind[Nat.beq_refl,wy,fH]
theorem r8{sz:Nat}:∀{xs:List AV}{n:Nat},dF sz xs=true→dF sz (xs.take n)=true
 |[],n,h=>by simp_all
 |x::r,0,_=>rfl
 |x::r,n+1,h=>by
  simp only[List.take_succ_cons,dF,aO]at h ⊢;exact⟨h.1,r8 h.2⟩
theorem r9{sz:Nat}:∀{xs:List AV}{n:Nat},dF sz xs=true→dF sz (xs.drop n)=true
 |[],n,h=>by simp_all
 |x::r,0,h=>h
 |x::r,n+1,h=>by
  simp only[List.drop_succ_cons,dF,aO]at h ⊢;exact r9 h.2
end
theorem BH{P:Program}{G:eN}{f:FuncId}{fn:Func}{tS tR e:TypeId}{n:Nat}(hf:P.funcs[f]?=some fn)(hname:(fn.name== "runtime.NumGoroutine")=false)(hb:fn.body.isNone=true)(hn:Extern.findNext fn=none)(he:Extern.find fn=some (Extern.SlicesOverlaps.overlaps #[tS,tS] #[tR]))
  (ht:P.underlying tS=some (.slice e))(hi:cT P e=some n){xs ys:List AV}{t:Bool}{id off len c sz:Nat}{op:Bool}{h:AHeap}(hne:xs≠[])(hgo:h.get id=some (.row sz op 0 ys)):
  aI P G f [.ps xs t,.slice id 0 off len (some c)] h (fun v h'=>v=.bool false∧h'=h):=by
 intro pl M w vs hG hr hv;right;refine⟨.bool false,w,.bool false,h,?_,⟨rfl,rfl⟩,pl,M,.bool false,hr,dX.refl _ _ _ _,an _⟩;have v0:=hv.at_ 0 _ rfl;have v1:=hv.at_ 1 _ rfl;have hvs:vs=#[vs.getD 0 undef,vs.getD 1 undef]:=by
  have hl:vs.size=2:=hv.len.symm;apply Array.ext
  ·omega
  ·intro i h1 h2
   match i,h2 with
   |0,_=>simp_all
   |1,_=>simp_all
 rw[run_callFunc_extern hf hname hb hn he,hvs];generalize vs.getD 0 undef=x0 at v0;generalize vs.getD 1 undef=x1 at v1;cases v0 with
 | ps hl htt hm hs hc=>
  rename_i a cap0 sz0 c0;obtain⟨m1,m2,m3,m4⟩:=hm hne;have hpos:0<xs.length:=qr.2 hne;cases v1 with
  | slice hp hep hl1 hk ha=>
   rename_i cap1 b p;have hcap:=hk c rfl;subst hcap;obtain⟨tA,frA,hA⟩:=hr.imm _ _ m2;have ho:=hr.obj id p _ hp hgo;obtain⟨cB,tB,hB,hpe⟩:∃cB tB,w.heap[p.blk]?=some (.cells cB tB (0,0))∧p.ep=0:=by
    cases hb2:w.heap[p.blk]? with
    |none=>rw[hb2]at ho;exact ho.elim
    |some ob=>
     rw[hb2]at ho;cases ob with
     |cells cB tB fr=>obtain⟨h1,_,_,_,h5,_⟩:=ho;grind
     |_=>exact ho.elim
   have hsep:=hr.sep id p hp;have hsz:=cF hi w;have hc0:c0.size≠0:=by
    have:0<xs.length*sz0:=Nat.mul_pos hpos m4;omega
   obtain⟨q1,-⟩:=ha hpe.symm
   suffices hh:(Extern.SlicesOverlaps.overlaps #[tS,tS] #[tR] #[.slice (some a) xs.length cap0,.slice (some b) len cap1]).run P w=.ok (.bool false) w by rw[hh];rfl
   generalize xs.length=la;change Sem.run P (α:=Value) (do
    let some t:=(#[tS,tS]:Array TypeId)[0]?|stuck "slices.overlaps: no parameter types"
    let .slice elem ←underlying t|stuck "slices.overlaps: slice type expected"
    let size ←sizeOf elem
    match(some a:Option Addr),(some b:Option Addr)with
    | some a,some b=>
     if la=0∨len=0∨size=0 then pure (Value.bool false)
     else if a.block !=b.block&&(←frozen a)&&(←frozen b)then unsupported .addressObserved
     else do
      if a.block !=b.block then do
       noView a;noView b
       if ←mayBeOne a b then return Value.bool ((←choose (.extern "sameAddr.stringBytes" 2))==1)
      pure (Value.bool (a.block==b.block&&a.off<b.off+len*size&&b.off<a.off+la*size))
    |_,_=>pure (Value.bool false)) w=_
   by_cases h0:la=0∨len=0∨n=0
   ·simp[run_underlying ht,hsz,h0]
   ·have hbk:b=⟨p.blk,off*p.sz,none⟩:=by grind
    subst hbk;have hnb:a.block≠p.blk:=fun e=>by grind
    have hnb1:(a.block !=p.blk)=true:=by grind
    have hnb2:(a.block==p.blk)=false:=by grind
    have f1:∀o,w.frozen? ⟨p.blk,o,none⟩=false:=fun o=>by grind[World.frozen?]
    have s1:w.shape? a.block=some (tA,c0.size):=by grind[World.shape?]
    have s2:w.shape? p.blk=some (tB,cB.size):=by grind[World.shape?]
    cases hsx:c0.size with
    |zero=>omega
    |succ kA=>
     rw[hsx]at s1;cases hfa:w.frozen? a<;>cases hfb:w.frozen? {block:=a.block,off:=kA+1}<;>
     simp[run_underlying ht,hsz,h0,hnb1,hnb2,frozen,noView,viewAt,mayBeOne,stringish,shape,Sem.run,s1,s2,f1,hfa,hfb]
def Um(rs:List Nat):AHeap→List AObj→Nat→AHeap
 |h,[],_=>h
 |h,o::r,i=>Um rs (h.put (gY rs i) (ka (gY rs) o)) r (i+1)
def Y6(rs:List Nat)(h:AHeap):List AObj→Nat→Prop
 |[],_=>True
 |o::r,i=>h.get (gY rs i)=some (ka (gY rs) o)∧Y6 rs h r (i+1)
def RR(h:AHeap):List AObj→Nat→Prop
 |[],_=>True
 |o::r,i=>h.get i=some o∧RR h r (i+1)
def DO(n:Nat):List AObj→Prop
 |[]=>True
 |o::r=>(ep0 o=true∧o.top≤n)∧DO n r
theorem Qk(rs:List Nat):∀(l:List AObj)(h:AHeap)(i:Nat),(Um rs h l i).n=h.n
 |[],_,_=>rfl
 |_::r,h,i=>Qk rs r _ (i+1)
theorem MT{rs:List Nat}{h:AHeap}:∀{l:List AObj}{i j:Nat}{o:AObj},Y6 rs h l i→l[j]?=some o→h.get (gY rs (i+j))=some (ka (gY rs) o)
 |x::r,i,0,o,a,e=>by simp at e;subst e;exact a.1
 |x::r,i,j+1,o,a,e=>by
  have:=MT (i:=i+1) (j:=j) a.2 (by simpa using e);grind
theorem Hw{h:AHeap}:∀{l:List AObj}{i j:Nat}{o:AObj},RR h l i→l[j]?=some o→h.get (i+j)=some o
 |x::r,i,0,o,a,e=>by simp at e;subst e;exact a.1
 |x::r,i,j+1,o,a,e=>by
  have:=Hw (i:=i+1) (j:=j) a.2 (by simpa using e);grind
theorem vu{n:Nat}:∀{l:List AObj},DO n l→∀o,o∈l→ep0 o=true∧o.top≤n
 |x::r,a,o,e=>by
  rcases ed.1 e with rfl|e
  ·exact a.1
  ·exact vu a.2 o e
theorem Ge{rs:List Nat}:∀{l:List AObj}{h:AHeap}{i k:Nat}{o:AObj},(∀j,j<l.length→gY rs (i+j)<1000000)→(Um rs h l i).get k=some o→
  (∃j o',l[j]?=some o'∧k=gY rs (i+j)∧o=ka (gY rs) o')∨((∀j,j<l.length→k≠gY rs (i+j))∧h.get k=some o)
 |[],h,i,k,o,_,e=>.inr ⟨fun j hj=>absurd hj (qX _),e⟩
 | x::r,h,i,k,o,hb,e=>by
  rcases Ge (l:=r) (i:=i+1) (fun j hj=>by have:=hb (j+1) (by simp_all);grind) e with⟨j,o',h1,h2,h3⟩|⟨h1,h2⟩
  ·exact .inl ⟨j+1,o',by simp_all,by grind,h3⟩
  ·rcases AHeap.get_put (by have:=hb 0 (Nat.zero_lt_succ _);omega) h2 with⟨h3,h4⟩|⟨h3,h4⟩
   ·exact .inl ⟨0,x,rfl,h3,h4⟩
   grind
theorem HY{q:Nat→Bool}:∀{rs:List Nat}{i:Nat},rs.all q=true→i<rs.length→q (gY rs i)=true
 |x::r,0,h,_=>by simp only[qn,aO]at h;exact h.1
 |x::r,i+1,h,hi=>by
  simp only[qn,aO]at h;exact HY (rs:=r) (i:=i) h.2 (by simp_all)
theorem pS{P:Program}{G:eN}(hG:jW G){f:FuncId}{args args':List AV}{v v':AV}{L L' os os':List AObj}(rs:List Nat)
  (h0:aI P G f args (aa L) (fun v1 h1=>v1=v∧h1=aa L'))(ea:ma (gY rs) args=args')(ev:Ev.ren (gY rs) v=v')
  (c:(zA rs&&(Nat.beq rs.length L.length&&(Nat.beq L'.length L.length&&rs.all fun x=>Nat.blt x 1000000)))=true)
  (hL:DO L.length L)(hL':DO L.length L')(ht:aq args≤L.length)(hv:v.top≤L.length)
  (a1:Y6 rs (aa os) L 0)(a2:RR (aa L') L' 0)(a3:aa os'=Um rs (aa os) L' 0):aI P G f args' (aa os) (fun v1 h1=>v1=v'∧h1=aa os'):=by
 simp only[aO,aA,decide_eq_true_eq]at c;obtain⟨c1,c2,c3,c4⟩:=c;subst ea;subst ev;rw[a3];refine aI.frame hG (gY rs) c3 (vu hL) (vu hL') (fun i o hi=>by have:=Hw a2 hi;simp_all) ht hv (fun i j hi hj=>rL c1 i j (by omega) (by omega)) h0
  (fun i o hi=>by have:=MT a1 hi;simp_all) (fun k o hk=>?_) (Qk rs L' _ 0)
 rcases Ge (fun j hj=>by have:=HY c4 (show 0+j<rs.length by omega);simp_all) hk with⟨j,o',h1,h2,h3⟩|⟨h1,h2⟩
 all_goals grind
theorem vL{ρ:Nat→Nat}{sz ep:Nat}{b:Bool}{xs:List AV}(h:aq xs=0):ka ρ (.row sz b ep xs)=.row sz b ep xs:=by grind[ka,fV]
theorem fD{P:Program}{G:eN}(hG:jW G){f:FuncId}{args args':List AV}{v v':AV}{sz:Nat}{b b':Bool}{xs xs':List AV}{os os':List AObj}(id:Nat)(hx:aq xs=0)(hx':aq xs'=0)
  (h0:aI P G f args (aa [.row sz b 0 xs]) (fun v1 h1=>v1=v∧h1=aa [.row sz b' 0 xs']))(ea:ma (gY [id]) args=args')(ev:Ev.ren (gY [id]) v=v')(c:Nat.blt id 1000000=true)
  (ht:Nat.ble (aq args) 1=true)(hv:Nat.ble v.top 1=true)(a1:(aa os).get id=some (.row sz b 0 xs))(a3:aa os'=(aa os).put id (.row sz b' 0 xs')):aI P G f args' (aa os) (fun v1 h1=>v1=v'∧h1=aa os'):=
 pS hG [id] h0 ea ev (by simp only[zA,ja,qn,List.all_nil,c];rfl) ⟨⟨rfl,by grind[AObj.top]⟩,trivial⟩ ⟨⟨rfl,by grind[AObj.top]⟩,trivial⟩ (vi ht) (vi hv)
  ⟨by rw[vL hx];exact a1,trivial⟩ ⟨rfl,trivial⟩ (by rw[a3];show _=AHeap.put _ _ (ka _ _);rw[vL hx'];rfl)
end Go.Ev
namespace Go.Ev
open Go
def iU(u:TUnit)(ks:List TUnit):TUnit:=⟨u.act,u.item,u.n,u.kind,u.label,u.head,u.words,ks⟩
def fy(w:List PWord)(u:TUnit):TUnit:=⟨u.act,u.item,u.n,u.kind,u.label,u.head,w,u.kids⟩
def kn(w:List PWord)(u:TUnit):TUnit:=⟨u.act,u.item,u.n,u.kind,u.label,w,u.words,u.kids⟩
def f9(s:aE)(u:TUnit):TUnit:=⟨u.act,u.item,u.n,u.kind,s,u.head,u.words,u.kids⟩
def rz(i:Nat)(x:TUnit)(l:List TUnit):List TUnit:=l.take i++(x::l.drop i)
def dg(i:Nat)(u:TUnit):TUnit:=iU u (u.kids.eraseIdx i)
def cV(i:Nat)(x:TUnit)(u:TUnit):TUnit:=iU u (rz i x u.kids)
mutual
def bG(p:PId)(f:TUnit→TUnit):TUnit→TUnit
 |⟨a,i,n,k,l,h,w,ks⟩=>bif fI p ⟨a,i,n,k,l,h,w,ks⟩then f ⟨a,i,n,k,l,h,w,ks⟩else⟨a,i,n,k,l,h,w,dn p f ks⟩
def dn(p:PId)(f:TUnit→TUnit):List TUnit→List TUnit
 |[]=>[]
 |k::r=>bif b7 p k then bG p f k::r else k::dn p f r
end
section
variable{p:PId}{f:TUnit→TUnit}{u w:TUnit}{l r:List TUnit}{i:Nat}
theorem FI(p:PId)(f:TUnit→TUnit)(u:TUnit):bG p f u=bif fI p u then f u else iU u (dn p f u.kids):=by cases u;rw[bG];rfl
theorem pJ:dn p f []=[]:=by rw[dn]
theorem gk(k:TUnit)(r:List TUnit):dn p f (k::r)=bif b7 p k then bG p f k::r else k::dn p f r:=by rw[dn]
theorem jN(h:fI p u=true):bG p f u=f u:=by rw[FI,h];rfl
theorem iQ(h:fI p u=false):bG p f u=iU u (dn p f u.kids):=by rw[FI,h];rfl
def jc(p:PId)(f:TUnit→TUnit)(l:List TUnit)(i:Nat)(r:List TUnit):Prop:=dn p f l=l.take i++dn p f r
theorem jc.start:jc p f l 0 l:=rfl
theorem jc.skip(h:jc p f l i (w::r))(hd:l.drop i=w::r)(hw:b7 p w=false):jc p f l (i+1) r:=by
 unfold jc at *;have hi:i<l.length:=by grind[List.drop_eq_nil_of_le]
 have e:l[i]=w:=by
  have:=congrArg (·[0]?) hd;grind
 grind[gk]
theorem jc.hit(h:jc p f l i (w::r))(hd:l.drop i=w::r)(hw:b7 p w=true):dn p f l=l.set i (bG p f w):=by
 unfold jc at h;have hi:i<l.length:=by grind[List.drop_eq_nil_of_le]
 rw[h,gk,hw,List.set_eq_take_append_cons_drop,if_pos hi];have:l.drop (i+1)=r:=by rw[←CJ,hd];rfl
 simp_all
theorem jc.done(h:jc p f l i [])(hd:l.drop i=[]):dn p f l=l:=by simp_all[jc,pJ,CW]
theorem pK:∀(u:TUnit),b7 p u=false→bG p f u=u:=TUnit.ind fun u ih h=>by
 have hw:=Ao h;rw[gw]at hw;cases hi:fI p u with
 |true=>grind
 | false=>
  rw[hi]at hw;simp only[cond_false]at hw;have key:∀(r:List TUnit),(∀k,k∈r→k∈u.kids)→ca p r=[]→dn p f r=r:=by
   intro r;induction r with
   |nil=>grind[pJ]
   |cons k r ihr=>
    intro hm hr;cases hk:b7 p k with
    |true=>grind[oy,ko]
    |false=>simp_all[ii,gk]
  have hk:ca p u.kids=[]:=by grind
  rw[iQ hi,key u.kids (fun _ h=>h) hk];cases u;rfl
end
end Go.Ev
namespace Go.Ev
open Go
noncomputable def bd(n:Nat):AV:=.int .i64 (.ofNat n)
theorem YA(n:Nat):(bd n).top=0:=rfl
section
variable{l part:List aE}{i:Nat}{acc:List Nat}
def nM(l part:List aE)(i:Nat)(acc:List Nat):Prop:=acc.length≤i∧i≤l.length+part.length∧∃f,rJ l part=acc++vS part f l i∧l.length<i+f
theorem nM.start(hp:0<part.length):nM l part 0 []:=by
 refine⟨an _,bP _,l.length+1,?_,by omega⟩;unfold rJ;grind
theorem Lm{f:Nat}(hi:i+part.length≤l.length):vS part (f+1) l i=bif dc dL ((l.take (i+part.length)).drop i) part then i::vS part f l (i+part.length)else vS part f l (i+1):=by
 have e:(l.take (i+part.length)).drop i=(l.drop i).take part.length:=by grind
 rw[vS,tG hi,e];rfl
theorem nM.skip(h:nM l part i acc)(hi:i+part.length≤l.length)(hp:0<part.length)(hm:dc dL ((l.take (i+part.length)).drop i) part=false):nM l part (i+1) acc:=by
 obtain⟨h1,h2,f,h3,h4⟩:=h;cases f with
 |zero=>omega
 |succ f=>rw[Lm hi,hm]at h3;exact⟨by omega,by omega,f,h3,by omega⟩
theorem nM.hit(h:nM l part i acc)(hi:i+part.length≤l.length)(hp:0<part.length)(hm:dc dL ((l.take (i+part.length)).drop i) part=true):nM l part (i+part.length) (acc++[i]):=by
 obtain⟨h1,h2,f,h3,h4⟩:=h;cases f with
 |zero=>omega
 |succ f=>
  rw[Lm hi,hm]at h3;exact⟨by grind,by omega,f,by simp_all,by omega⟩
theorem nM.done(h:nM l part i acc)(hi:l.length<i+part.length):rJ l part=acc:=by
 obtain⟨h1,h2,f,h3,h4⟩:=h;cases f with
 |zero=>grind[vS]
 |succ f=>grind[vS,bU]
theorem nM.len(h:nM l part i acc):acc.length≤l.length+part.length:=bL h.1 h.2.1
end
def rA(g:Nat):List Nat→Nat→Nat→Prop
 |[],_,_=>True
 |p::r,lo,n=>lo≤p∧p+g≤n∧rA g r (p+g) n
theorem s9(part:List aE)(hp:0<part.length):∀(f:Nat)(l:List aE)(i:Nat),rA part.length (vS part f l i) i l.length
 |0,l,i=>by rw[vS];trivial
 | f+1,l,i=>by
  rw[vS];have key:∀(m:List Nat)(a b n:Nat),a≤b→rA part.length m b n→rA part.length m a n:=by
   intro m;cases m with
   |nil=>intro _ _ _ _ _;trivial
   |cons p r=>intro a b n h ⟨h1,h2,h3⟩;exact⟨bL h h1,h2,h3⟩
  cases hb:Nat.ble (i+part.length) l.length with
  |false=>trivial
  |true=>
   rw[bU]at hb;have hb:=of_decide_eq_true hb;simp only[cond_true];cases dc dL ((l.drop i).take part.length) part with
   |true=>exact⟨an _,hb,s9 part hp f l _⟩
   |false=>exact key _ _ _ _ (ow i) (s9 part hp f l (i+1))
theorem CL(l part:List aE):rA part.length (rJ l part) 0 l.length:=by
 unfold rJ;cases part with
 |nil=>trivial
 |cons x r=>exact s9 (x::r) (Nat.succ_pos _) _ l 0
def o9(g:Nat)(l:List Nat)(n:Nat):Prop:=∀i,i<l.length→gD l i+g≤n∧∀j,j<i→gD l j+g≤gD l i
theorem Ba{g n:Nat}:∀{l:List Nat}{lo:Nat},rA g l lo n→o9 g l n
 |[],_,_=>fun i hi=>absurd hi (qX _)
 | p::r,lo,⟨h1,h2,h3⟩=>by
  have low:∀(m:List Nat)(a:Nat),rA g m a n→∀i,i<m.length→a≤gD m i:=by
   intro m;induction m with
   |nil=>simp_all
   |cons q m ih=>
    intro a ⟨k1,k2,k3⟩ i hi;cases i with
    |zero=>exact k1
    |succ i=>have:=ih _ k3 i (by simp_all);grind[gD]
  intro i hi;cases i with
  |zero=>exact⟨h2,fun j hj=>absurd hj (qX _)⟩
  |succ i=>
   have hi':i<r.length:=by simp_all
   obtain⟨k1,k2⟩:=Ba h3 i hi';refine⟨k1,fun j hj=>?_⟩;cases j with
   |zero=>exact low r _ h3 i hi'
   |succ j=>exact k2 j (by omega)
def fQ(at_ g:Nat)(m l:List PWord):List PWord:=l.take at_++m++l.drop (at_+g)
def nj(a b:Int)(g:Nat)(ps:List Nat)(fresh:List aE):Nat→List PWord→List PWord
 |0,l=>l
 |i+1,l=>nj a b g ps fresh i (fQ (gD ps i) g (bg a b fresh (i*fresh.length)) l)
theorem ND{at_ g:Nat}{m l:List PWord}(h:at_+g≤l.length):(fQ at_ g m l).length+g=l.length+m.length:=by grind[fQ]
structure PutI(a b:Int)(g:Nat)(ps:List Nat)(fresh:List aE)(w:List PWord)(i:Nat)(l:List PWord):Prop where
 le:i≤ps.length
 all:nj a b g ps fresh ps.length w=nj a b g ps fresh i l
 room:∀j,j<i→gD ps j+g≤l.length
 small:l.length≤w.length+(ps.length-i)*fresh.length
theorem PutI.start{a b:Int}{g:Nat}{ps:List Nat}{fresh:List aE}{w:List PWord}(h:o9 g ps w.length):PutI a b g ps fresh w ps.length w:=⟨an _,rfl,fun j hj=>(h j hj).1,by omega⟩
theorem PutI.step{a b:Int}{g:Nat}{ps:List Nat}{fresh:List aE}{w l:List PWord}{i:Nat}(hg:o9 g ps w.length)(h:PutI a b g ps fresh w (i+1) l):PutI a b g ps fresh w i (fQ (gD ps i) g (bg a b fresh (i*fresh.length)) l):=by
 have hr:=h.room i (Nat.lt_succ_self i);have hl:=ND (m:=bg a b fresh (i*fresh.length)) hr;rw[fX]at hl;have hle:=h.le;refine⟨by omega,h.all,fun j hj=>?_,?_⟩
 ·have:=(hg i (by omega)).2 j hj;grind
 ·have hs:=h.small;have e:(ps.length-i)*fresh.length=(ps.length-(i+1))*fresh.length+fresh.length:=by rw[show ps.length-i=(ps.length-(i+1))+1 by omega,qu]
  omega
theorem PutI.done{a b:Int}{g:Nat}{ps:List Nat}{fresh:List aE}{w l:List PWord}(h:PutI a b g ps fresh w 0 l):nj a b g ps fresh ps.length w=l:=h.all
theorem PutI.len{a b:Int}{g:Nat}{ps:List Nat}{fresh:List aE}{w l:List PWord}{i:Nat}(h:PutI a b g ps fresh w i l)(h1:w.length≤2^18)(h2:ps.length≤2^9)(h3:fresh.length≤2^9):l.length≤2^19:=by
 have:=h.small;have:(ps.length-i)*fresh.length≤2^9*2^9:=Nat.mul_le_mul (by omega) h3;omega
section
variable{sz b id n n' k l h m:Nat}{H:AHeap}{xs ys zs:List AV}{t:Bool}{x z:AV}{vl:Option AV}
theorem I5(hh:pB sz xs=true)(h1:jk 0 vl=some l)(h2:gJ x=some h)(h3:gJ z=some h)(q1:l≤h)(q2:h≤xs.length)(e:(xs.take h).drop l=ys):bc H (dw sz H (some (.ps xs t)) vl (some x) (some z))=some (.val (.ps ys true) H):=by simp_all[tG,dw,gv,vQ,bc]
theorem P0(hh:pB sz xs=true)(h1:gJ x=some l)(q1:l≤xs.length)(e:xs.drop l=ys):bc H (dw sz H (some (.ps xs false)) (some x) none none)=some (.val (.ps ys false) H):=by
 have p2:Nat.ble l xs.length=true:=tG q1;have p3:Nat.ble xs.length xs.length=true:=tG (an _);simp only[dw,gv,hh,jk,h1,vQ,p2,p3,yF,List.take_length,e,Bool.false_and,bc]
theorem aas(hf:dF sz xs=true)(hf2:dF sz ys=true)(hne:ys≠[])(hs:small (xs.length+ys.length) b=true)(e:xs++ys=zs)(e2:zs.length=n):fH (di sz b H (some (.ps xs true)) (some (.ls ys)))=some (.val (.slice H.n 0 0 n none) (H.push (.row sz true 0 zs))):=by
 cases ys with
 |nil=>simp_all
 |cons y r=>simp_all[di,gE,kN,kE,iy,iH,fH]
theorem Tq(e:ys=[]):fH (di sz b H (some (.ps xs true)) (some (.ls ys)))=some (.val (.ps xs true) H):=by subst e;rfl
def uQ:List AV→Nat
 |[]=>0
 |_::_=>1
theorem Wd(hg:H.get id=some (.row sz true 0 xs))(hp:H.put id (.row sz true 0 xs)=H)(hf:dF sz ys=true)(hl:xs.length=n)(hs:small (n+ys.length) b=true)(e:xs++ys=zs)(e2:zs.length=n'):
  fH (di sz b H (some (.slice id 0 0 n none)) (some (.ps ys t)))=some (.val (.slice id (uQ ys) 0 n' none) (H.put id (.row sz true (uQ ys) zs))):=by
 cases ys with
 |nil=>
  rw[dO]at e;subst e;simp only[uQ,hp,←e2,hl];rfl
 |cons y r=>
  have p1:Nat.beq 0 0=true:=rfl;have p2:Nat.beq sz sz=true:=qm sz;have p4:xs.take n=xs:=CW (by omega);have p5:n+(y::r).length=n':=by grind
  have p3:Nat.ble n' xs.length=false:=by grind[bU]
  rw[p5]at hs;simp only[di,gE,kN,kE,iy,hf,hg,p1,p2,hs,yF,p3,p4,e,p5,uQ,fH,gr]
theorem TU(hf:dF sz xs=true)(hf2:dF sz ys=true)(hne:ys≠[])(hs:small (xs.length+ys.length) b=true)(e:xs++ys=zs)(e2:zs.length=n):fH (di sz b H (some (.ps xs true)) (some (.ps ys t)))=some (.val (.slice H.n 0 0 n none) (H.push (.row sz true 0 zs))):=by
 cases ys with
 |nil=>simp_all
 |cons y r=>simp_all[di,gE,kN,kE,iy,iH,fH]
end
end Go.Ev
namespace Go.Ev
open Go
def lq(l:List Nat)(n:Int):List Nat:=bif ak n 0 then l else bif ao (Int.ofNat l.length) n then[]else(l.take n.toNat).drop (n.toNat-1)
theorem VA{l:List Nat}{a b i:Nat}(h:i<((l.take b).drop a).length):gD ((l.take b).drop a) i=gD l (a+i):=by grind[gD]
theorem Ox{g n a b:Nat}{l:List Nat}(h:o9 g l n):o9 g ((l.take b).drop a) n:=by
 intro i hi;have hl:((l.take b).drop a).length≤l.length-a:=by grind
 obtain⟨h1,h2⟩:=h (a+i) (by omega);grind[VA]
theorem Ha{g n:Nat}{l:List Nat}{k:Int}(h:o9 g l n):o9 g (lq l k) n:=by
 unfold lq;cases ak k 0 with
 |true=>grind
 |false=>
  cases ao (Int.ofNat l.length) k with
  |true=>exact fun i hi=>absurd hi (qX _)
  |false=>exact Ox h
theorem Gp(l:List Nat)(k:Int):(lq l k).length≤l.length:=by
 unfold lq;grind
theorem Dr{g n:Nat}(hg:0<g):∀{l:List Nat}{lo:Nat},rA g l lo n→lo≤n→l.length+lo≤n
 |[],lo,_,h=>by simp_all
 |p::r,lo,⟨h1,h2,h3⟩,_=>by have:=Dr hg h3 h2;grind
theorem Ll(l part:List aE):(rJ l part).length≤l.length:=by
 cases part with
 |nil=>exact bP _
 |cons x r=>have:=Dr (Nat.succ_pos _) (CL l (x::r)) (bP _);omega
theorem Gn(l part:List aE):o9 part.length (rJ l part) l.length:=Ba (CL l part)
def x9(c i:Nat)(l:List Nat):List Nat:=(l.take i).map (· +c)++l.drop i
theorem Tg(c i:Nat)(l:List Nat):(x9 c i l).length=l.length:=by grind[x9]
theorem Wl{c i:Nat}{l:List Nat}(h:i<l.length):gD (x9 c i l) i=gD l i:=by
 unfold x9 gD List.getD;grind
theorem O4{c i:Nat}{l:List Nat}(h:i<l.length):(x9 c i l).set i (gD l i+c)=x9 c (i+1) l:=by
 unfold x9;have h1:((l.take i).map (· +c)).length=i:=by grind
 rw[List.set_append_right _ _ (by omega),h1,Nat.sub_self,Pq h,List.set_cons_zero,KG h,m0];grind[gD]
theorem O3{c n:Nat}{l m:List Nat}(h:l.length=n):(x9 c n (l++m)).take n=l.map (· +c):=by grind[x9]
theorem JD{c i:Nat}{l:List Nat}(h:i<l.length):gD (l.map (· +c)) i=gD l i+c:=by grind[gD]
theorem R0{c n:Nat}{l:List Nat}(h:o9 c l n):o9 0 (l.map (· +c)) n:=by
 intro i hi;rw[cK]at hi;obtain⟨h1,h2⟩:=h i hi;grind[JD]
def oh(l:List PWord):List PWord:=bif ao 256 (Int.ofNat l.length)then[]else l
def zl(l:List PWord):Int:=bif ao 256 (Int.ofNat l.length)then 6 else 0
def xR(a b:Int)(g:Nat)(ps:List Nat)(fresh:List aE)(w:List PWord):List PWord×Int:=(oh (nj a b g ps fresh ps.length w),zl (nj a b g ps fresh ps.length w))
def qR(a b:Int)(w:List PWord)(old new:List aE)(n:Int):List PWord×Int:=bif ak (Int.ofNat old.length) 0 then([],1)else bif ak (Int.ofNat (lq (rJ (aL w) old) n).length) 0 then([],4)else xR a b old.length (lq (rJ (aL w) old) n) new w
def tz(a b:Int)(w:List PWord)(part new:List aE)(n:Int):List PWord×Int:=
 bif ak (Int.ofNat new.length) 0||(ak (Int.ofNat part.length) 0&&az (ak n 0))then([],1)
 else bif ak (Int.ofNat part.length) 0 then xR a b 0 [0] new w
 else bif ak (Int.ofNat (lq (rJ (aL w) part) n).length) 0 then([],4)else xR a b 0 ((lq (rJ (aL w) part) n).map (· +part.length)) new w
end Go.Ev
namespace Go.Ev
open Go
def kw(x k:TUnit):Bool:=ak k.kind x.kind&&dL k.label x.label
def lJ(p x:TUnit):Int:=bif iJ p.kind x.kind then(bif p.kids.any (kw x)then 10 else 0)else 9
def SD(u:TUnit)(p:PId)(x:TUnit):Bool:=ao 8 (Int.ofNat ((qc p u).length+1+nC x))
abbrev qf:=TUnit×Int
def OY(u:TUnit)(te:Int)(full cf:Bool)(u2:TUnit):qf:=bif ak te 0 then(bif full then(u,6)else bif cf then(u,5)else(u2,0))else(u,te)
def FF(u:TUnit)(e:Int)(u2:TUnit):qf:=bif ak e 0 then(u2,0)else(u,e)
def Ug(u:TUnit)(te:Int)(u2:TUnit):qf:=bif ak te 10 then(u,10)else(u2,0)
def Q2(u:TUnit)(te:Int)(full:Bool)(u2:TUnit):qf:=bif ak te 0 then(bif full then(u,6)else(u2,0))else(u,te)
def HT(e1 e2:Int)(sp:PSpot)(e3:Int):PSpot×Int:=bif ak e1 0 then(bif ak e2 0 then(bif ak e3 0 then(sp,0)else(dP,e3))else(dP,e2))else(dP,e1)
noncomputable def eS(r:qf):AV:=.tuple [eU r.1,.int .i64 r.2]
end Go.Ev
namespace Go.Ev
open Go
theorem py{p:PId}{u:TUnit}(h:b7 p u=true):dZ p u∈bW u∧ah (dZ p u)=p:=by grind[Pe,TI,DY]
theorem rT(l m:List TUnit):bx (l++m)=bx l++bx m:=by
 induction l with
 |nil=>rw[lk];rfl
 |cons k r ih=>grind[dC]
theorem rx(u:TUnit)(l:List TUnit):cR (iU u l)=ah u::bx l:=by rw[gQ];rfl
theorem jE(u:TUnit):nU u=(cR u).length:=(uM u).symm
theorem xZ(u:TUnit)(l:List TUnit):bW (iU u l)=iU u l::dQ l:=by rw[co];rfl
theorem pX{q:PId}:∀(u:TUnit),b7 q u=true→∃v C,v∈bW u∧ah v=q∧(cR u).Perm (C++cR v)∧∀f,(cR (bG q f u)).Perm (C++cR (f v))∧
  ∀x,x∈bW (bG q f u)→x∈bW (f v)∨∃y,y∈bW u∧ah x=ah y∧x.kids.length=y.kids.length∧x.head=y.head∧x.words=y.words:=TUnit.ind fun u ih h=>by
 cases hi:fI q u with
 |true=>
  refine⟨u,[],bq u,(fx q u).1 hi,List.Perm.refl _,fun f=>?_⟩;grind[jN]
 | false=>
  have key:∀(r:List TUnit),(∀k,k∈r→k∈u.kids)→ca q r≠[]→∃v C,v∈dQ r∧ah v=q∧(bx r).Perm (C++cR v)∧∀f,(bx (dn q f r)).Perm (C++cR (f v))∧(dn q f r).length=r.length∧
    ∀x,x∈dQ (dn q f r)→x∈bW (f v)∨∃y,y∈dQ r∧ah x=ah y∧x.kids.length=y.kids.length∧x.head=y.head∧x.words=y.words:=by
   intro r;induction r with
   |nil=>grind[jO]
   | cons k r ihr=>
    intro hm hw;cases hk:b7 q k with
    | true=>
     obtain⟨v,C,h1,h2,h3,h4⟩:=ih k (hm k (eG ..)) hk;refine⟨v,C++bx r,by grind[bf],h2,?_,fun f=>?_⟩
     ·grind[dC]
     ·have e:dn q f (k::r)=bG q f k::r:=by rw[gk,hk];rfl
      rw[e];refine⟨?_,rfl,fun x hx=>?_⟩
      ·grind[dC]
      ·rw[bf]at hx;rcases jg.1 hx with hx|hx
       ·grind[bf]
       ·exact .inr ⟨x,by grind[bf],rfl,rfl,rfl,rfl⟩
    |false=>
     rw[ii hk]at hw;obtain⟨v,C,h1,h2,h3,h4⟩:=ihr (fun x hx=>hm x (eQ _ hx)) hw;refine⟨v,cR k++C,by grind[bf],h2,by grind[dC],fun f=>?_⟩;have e:dn q f (k::r)=k::dn q f r:=by rw[gk,hk];rfl
     rw[e];refine⟨by grind[dC],by simp_all,fun x hx=>?_⟩;rw[bf]at hx;rcases jg.1 hx with hx|hx
     ·exact .inr ⟨x,by grind[bf],rfl,rfl,rfl,rfl⟩
     grind[bf]
  have hw:ca q u.kids≠[]:=by
   intro e;have:=ko h;rw[gw,hi,e]at this;simp_all
  obtain⟨v,C,h1,h2,h3,h4⟩:=key u.kids (fun _ h=>h) hw;refine⟨v,ah u::C,by grind[co],h2,by grind[gQ],fun f=>?_⟩;rw[iQ hi];refine⟨by grind[rx],fun x hx=>?_⟩;rw[xZ]at hx;rcases ed.1 hx with rfl|hx
  ·exact .inr ⟨u,bq u,rfl,(h4 f).2.1,rfl,rfl⟩
  grind[co]
theorem om{p:PId}:∀(u:TUnit),gP p u=true→∃q i,q∈bW u∧rQ p u=ah q∧rZ p u=Int.ofNat i∧i<q.kids.length∧ah (gD q.kids i)=p:=TUnit.ind fun u ih h=>by
 have hh:b7 p u=true:=by
  cases e:b7 p u with
  |true=>rfl
  |false=>grind[RL]
 cases hi:fI p u with
 |true=>
  unfold gP at h;rw[tL hi]at h;cases h
 | false=>
  have key:∀(r:List TUnit),ca p r≠[]→∃j k,j<r.length∧gD r j=k∧b7 p k=true∧ca p r=aF p k∧∀n,dE (b7 p) r n=Int.ofNat (n+j):=by
   intro r;induction r with
   |nil=>grind[jO]
   | cons k r ihr=>
    intro hw;cases hk:b7 p k with
    |true=>
     refine⟨0,k,Nat.succ_pos _,rfl,hk,oy hk,fun n=>?_⟩;unfold dE;simp_all
    | false=>
     rw[ii hk]at hw;obtain⟨j,k2,h1,h2,h3,h4,h5⟩:=ihr hw;refine⟨j+1,k2,by simp_all,h2,h3,by grind[ii],fun n=>?_⟩;have e:dE (b7 p) (k::r) n=dE (b7 p) r (n+1):=by
      show(bif b7 p k then _ else _)=_
      simp_all
     grind
  have hw:ca p u.kids≠[]:=by
   intro e;have:=ko hh;rw[gw,hi,e]at this;simp_all
  obtain⟨j,k,h1,h2,h3,h4,h5⟩:=key u.kids hw;obtain⟨y,t,e⟩:=wV h3;have hway:aF p u=u::aF p k:=by rw[gw,hi,h4,e];rfl
  have hkm:k∈u.kids:=h2▸fp h1;rw[Jx h,Jj h];cases hk:gP p k with
  | true=>
   obtain⟨q,i,q1,q2,q3,q4,q5⟩:=ih k hkm hk;rw[Jx hk]at q2;rw[Jj hk]at q3;have e2:II p u=II p k:=by
    unfold II;rw[hway];have:2≤(aF p k).length:=by
     unfold gP at hk;cases hl:ao (Int.ofNat (aF p k).length) 2 with
     |true=>grind
     |false=>have:=af hl;grind
    show gD (u::aF p k) ((aF p k).length+1-2)=_
    rw[show(aF p k).length+1-2=((aF p k).length -2)+1 by omega];rfl
   grind[bX]
  | false=>
   have hl:(aF p k).length=1:=by
    unfold gP at hk;cases hl:ao (Int.ofNat (aF p k).length) 2 with
    |false=>grind
    |true=>have:=ae hl;grind
   have hik:fI p k=true:=by
    cases hik:fI p k with
    |true=>rfl
    |false=>
     rw[gw,hik]at hl e;grind
   have e2:II p u=u:=by
    unfold II;rw[hway];show gD (u::aF p k) ((aF p k).length+1-2)=_
    rw[hl];rfl
   rw[e2,h5 0,gr];exact⟨u,j,bq u,rfl,rfl,h1,by grind[fx]⟩
theorem Vs{p:PId}{u:TUnit}(h:b7 p u=true)(hi:fI p u=false):gP p u=true:=by
 have hw:aF p u≠[]:=ko h;have e:aF p u=match ca p u.kids with|[]=>[]|y::t=>u::y::t:=by rw[gw,hi];rfl
 unfold gP;rw[e]at hw ⊢;cases ew:ca p u.kids with
 |nil=>simp_all
 |cons y t=>
  show az (ao (Int.ofNat (u::y::t).length) 2)=true
  rw[j6 (by grind)];rfl
theorem Vl{v:TUnit}{i:Nat}(h:i<v.kids.length):(cR v).Perm (cR (dg i v)++cR (gD v.kids i)):=by
 unfold dg;rw[gQ v,rx,PY,rT];have e:v.kids=v.kids.take i++(gD v.kids i::v.kids.drop (i+1)):=by grind[gD,List.drop_eq_getElem_cons,List.take_append_drop]
 grind[rT,dC]
theorem Vi{v x:TUnit}{i:Nat}:(cR (cV i x v)).Perm (cR v++cR x):=by
 unfold cV rz;rw[gQ v,rx,rT,dC,yI];grind[List.take_append_drop,rT]
end Go.Ev
namespace Go.Ev
open Go
section
variable{P:Program}{G:eN}{call:cq}{m:Nat}{c:Code}{d:D}{s s':St}{ops:Array Oper}{h h':AHeap}{o:AObj}{f:FuncId}{args:List AV}{v u:AV}{pl pl':Pl}{M M':dB}{w w':World}
theorem cL.psh(g2:cL pl M h w):cL pl M (h.push o) w:=
 ⟨fun id p hp=>Nat.lt_succ_of_lt (g2.dom id p hp),(fun id p o' hp hg=>by
  rcases dq hg with⟨rfl,_⟩|⟨_,h2⟩
  ·exact absurd (g2.dom _ p hp) (wD _)
  ·exact g2.obj id p o' hp h2),g2.blk,g2.inj,g2.imm,g2.sep⟩
theorem dX.psh(g2:cL pl M h w)(g4:dX h pl M w h' pl' M' w')(g2':cL pl' M' h' w'):dX h pl M w (h'.push o) pl' M' w':=
 ⟨g4.ext,g4.new,g4.mem,g4.size,g4.kept,g4.blks,(fun id p hp hg=>by
  have:=g4.live id p hp hg;cases hh:(h'.push o).get id with
  |none=>rfl
  |some o'=>
   rcases dq hh with⟨rfl,_⟩|⟨_,h2⟩
   ·obtain⟨p',e1,_⟩:=g4.ext _ p hp;exact absurd (g2'.dom _ p' e1) (wD _)
   simp_all),g4.stay,g4.memNew,g4.os,g4.tape,g4.out,g4.drawn⟩
theorem aI.psh(h0:aI P G f args h (fun v1 h1=>v1=v∧h1=h'))(hl:Le u v):aI P G f args h (fun v1 h1=>v1=u∧h1=h'.push o):=by
 intro pl M w vs hg hr hv;have key:∀{cv w'},ie pl M h w v h' cv w'→ie pl M h w u (h'.push o) cv w':=fun⟨pl',M',k1,k2,k3,k4⟩=>⟨pl',M',hl _ _ _ k1,cL.psh k2,dX.psh hr k3 k2,Nat.le_succ_of_le k4⟩
 rcases h0 pl M w vs hg hr hv with⟨h1,h2⟩|⟨cv,w',v',h'',h1,⟨rfl,rfl⟩,h3⟩
 ·exact .inl ⟨h1,Calls.mono h2 fun e w' ⟨cv,v',h'',k1,⟨k2,k2'⟩,k3⟩=>⟨cv,u,h'.push o,k1,⟨rfl,rfl⟩,by simp_all⟩⟩
 ·exact .inr ⟨cv,w',u,_,h1,⟨rfl,rfl⟩,key h3⟩
theorem KA{Ψ Ψ':AV→AHeap→Prop}(o:AObj)(h0:aI P G f args h Ψ)(hΨ:∀v h',Ψ v h'→∃u,Le u v∧Ψ' u (h'.push o)):aI P G f args h Ψ':=by
 intro pl M w vs hg hr hv;have key:∀{v u h' cv w'},Le u v→ie pl M h w v h' cv w'→ie pl M h w u (h'.push o) cv w':=fun hl ⟨pl',M',k1,k2,k3,k4⟩=>⟨pl',M',hl _ _ _ k1,cL.psh k2,dX.psh hr k3 k2,Nat.le_succ_of_le k4⟩
 rcases h0 pl M w vs hg hr hv with⟨h1,h2⟩|⟨cv,w',v',h'',h1,h2,h3⟩
 ·refine .inl ⟨h1,Calls.mono h2 fun e w' ⟨cv,v',h'',k1,k2,k3⟩=>?_⟩;grind
 ·obtain⟨u,q1,q2⟩:=hΨ _ _ h2;exact .inr ⟨cv,w',u,_,h1,q2,key q1 h3⟩
theorem QU(pl:Pl)(M:dB)(p:Place)(x:Option Obj):bp pl M p .dead x:=by cases x<;>trivial
theorem aI.dead{i:Nat}{Ψ Ψ':AV→AHeap→Prop}(h0:aI P G f args h Ψ)(hi:h.n≤i)(hm:i<1000000)(hΨ:∀v h',Ψ v h'→Ψ' v (h'.put i .dead)):aI P G f args h Ψ':=by
 intro pl M w vs hg hr hv;have key:∀{v h' cv w'},ie pl M h w v h' cv w'→ie pl M h w v (h'.put i .dead) cv w':=fun⟨pl',M',k1,k2,k3,k4⟩=>⟨pl',M',k1,⟨k2.dom,(fun id p o hp hg=>by
  rcases AHeap.get_put hm hg with⟨_,rfl⟩|⟨_,h2⟩
  ·grind[QU]
  ·exact k2.obj id p o hp h2),k2.blk,k2.inj,k2.imm,k2.sep⟩,⟨k3.ext,k3.new,k3.mem,k3.size,k3.kept,k3.blks,(fun id p hp hg=>by
   have hl:=hr.dom id p hp;have hn:=k3.live id p hp hg;cases hh:AHeap.get (AHeap.put _ i .dead) id with
   |none=>rfl
   |some o'=>grind[AHeap.get_put]),k3.stay,k3.memNew,k3.os,k3.tape,k3.out,k3.drawn⟩,k4⟩
 rcases h0 pl M w vs hg hr hv with⟨h1,h2⟩|⟨cv,w',v',h'',h1,h2,h3⟩
 ·exact .inl ⟨h1,Calls.mono h2 fun e w' ⟨cv,v',h'',k1,k2,k3⟩=>⟨cv,v',h''.put i .dead,k1,hΨ _ _ k2,key k3⟩⟩
 ·exact .inr ⟨cv,w',v',_,h1,hΨ _ _ h2,key h3⟩
end
section
variable{P:Program}{G:eN}{ops:Array Oper}{o:Oper}{l:List Oper}{s:St}{b:Option Nat}
theorem xD{t tx e:TypeId}{i:TypeInfo}{sz bt:Nat}(hsz:i.size=sz)(hbt:i.bytes=bt){z z0:AV}{sO xO:Operand}{dst:Option Tmp}{ty:TypeId}{pos:String}{after:Array Edge}{guard:Option (Nat×Bool)}{xs:List AV}
  (ht:P.underlying t=some (.slice e))(hk:∃e',P.underlying tx=some (.slice e'))(hi:P.info? e=some i)(hz:jx P e=some z0)(hzl:Le z z0)
  (hs:(cD G sO).run s.tmps=some (.ps [] true))(hx:(cD G xO).run s.tmps=some (.ls xs))(hne:xs≠[])(hfit:dF sz xs=true)(hzf:dF sz [z]=true)(hsm:small xs.length bt=true)(hs0:0<sz)
  (pl:Pl)(M:dB)(a:Act)(w:World)(g1:pT G pl M)(g2:cL pl M s.heap w)(g3:FrRel pl M s.tmps a):
  ∃(k:Nat)(pl':Pl)(M':dB)(cv:Value)(w':World),k=0∧(execOp a.eval ⟨dst,.call ⟨.builtin .append,#[sO,xO],#[t,tx]⟩,ty,pos,after,guard⟩).run P w=.ok (.value cv) w'∧
   VRel pl' M' (.slice s.heap.n 0 0 xs.length none) cv∧cL pl' M' (s.heap.push (.row sz true 0 xs)) w'∧dX s.heap pl M w (s.heap.push (.row sz true 0 xs)) pl' M' w'∧s.heap.n≤(s.heap.push (.row sz true 0 xs)).n:=by
 subst hsz;subst hbt;have hsr:=bV g1 g3 hs;have hxr:=bV g1 g3 hx;obtain⟨news,hsrc⟩:=zq (P:=P) g2 hxr (show kN s.heap (.ls xs)=some xs from rfl) hne hfit;obtain⟨i2,zv,hz1,hz2,hz3⟩:=m6 hz;rw[hi]at hz1;cases hz1
 obtain⟨b1,b2⟩:=jB hsm;have hpos:0<xs.length:=qr.2 hne;generalize hq:a.eval sO=cs at hsr;generalize hq2:a.eval xO=cx at hxr hsrc;cases hsr with
 | ps hl htt hm hs2 hc=>
  rename_i ad cap sz c;have hcap:cap=0:=htt rfl;subst hcap;have hzr:=hzl _ _ _ (eV (pl:=pl) (M:=M) hz3);have hzt:=mF hzf z (by simp);have hzsz:zv.cells.size=i.size:=by rw[←hzr.cells.len];omega
  have hrun:=run_append_grow_src (P:=P) w t tx ty e i zv ht hi hz2 (some ad) 0 0 [] (by simp[Builtin.firstCells,loadCells,loadCellsFrom]) cx xs.length news (hsrc.src (.inl hk)) (by omega) (by omega) (growslice_fits (by omega) (by grind));have hge:=grownCap_ge w (0+xs.length) 0 e;obtain⟨C,hC⟩:∃C,C=grownCap w (0+xs.length) 0 e:=⟨_,rfl⟩
  rw[←hC]at hrun hge;have hin:=fU hzr hzt.2 (C-(0+xs.length)) hzt.1 hs0;have hzl:(Builtin.zeroCells zv.cells (C-(0+xs.length))).toList.toArray=(Array.range ((C-(0+xs.length))*i.size)).map (zv.cells[· %zv.cells.size]!):=by grind[Builtin.zeroCells]
  have hnl:(Builtin.zeroCells zv.cells (C-(0+xs.length))).toList.length=(List.replicate (C-(0+xs.length)) z).length *i.size:=by grind[Builtin.zeroCells]
  have hin2:=ki (news:=(Builtin.zeroCells zv.cells (C-(0+xs.length))).toList) hsrc.mem (by grind) hsrc.newsLen hnl #[];have hce:(news++(Builtin.zeroCells zv.cells (C-(0+xs.length))).toList).toArray++#[]=([]++news).toArray++Builtin.zeroCells zv.cells (C-(0+xs.length)):=by grind
  rw[hce]at hin2;have hcs:(([]++news).toArray++Builtin.zeroCells zv.cells (C-(0+xs.length))).size=(xs++List.replicate (C-(0+xs.length)) z).length *i.size:=by simp only[qW,FB,CY,hsrc.newsLen,size_zeroCells,hzsz,eZ,qp,jM]
  obtain⟨cells,hcells⟩:∃cells,cells=([]++news).toArray++Builtin.zeroCells zv.cells (C-(0+xs.length)):=⟨_,rfl⟩
  rw[←hcells]at hrun hin2 hcs;have hxC:xs.length≤C:=by omega
  have hszc:cells.size=C*i.size:=by grind
  have hin3:InMem pl M cells 0 i.size xs:=⟨by rw[gr,hszc];exact eH _ hxC,fun x hx=>hin2.elem x (Fo _ hx),fun i x j y h1 h2=>hin2.cell i x j y (by grind) h2⟩
  let p:Place:=⟨w.heap.size,0,i.size,xs.length,C*i.size⟩
  have hwd:(w.drew.alloc (.cells cells e)).heap=w.heap.push (.cells cells e):=rfl;obtain⟨r1,r2⟩:=cL.alloc (o:=.row i.size true 0 xs) (p:=p) g2 hwd ⟨rfl,rfl,rfl,ow _⟩ rfl
   ⟨rfl,rfl,rfl,hszc.symm,rfl,hs0,fun h=>(by grind),hin3.mono (fun id q hq=>⟨q,by rw[cS (by have:=g2.dom id q hq;omega)];omega,an _,fun _=>rfl⟩) (fun _ _ h=>h)⟩
  refine⟨0,upd pl s.heap.n p,M,.slice (some ⟨w.heap.size,0,none⟩) (0+xs.length) C,w.drew.alloc (.cells cells e),rfl,?_,?_,r1,r2,ow _⟩
  ·simp only[execOp,resolve,invoke,builtin,Sem.run_bind,Sem.run_pure,Result.andThen_ok,List.map_toArray,dl,wm,hq,hq2];show(Sem.run P (Builtin.append_ #[t,tx] ty #[Value.slice (some ad) 0 0,cx]) w).andThen _=_
   rw[hrun];rfl
  ·rw[gr]at hge ⊢;refine .slice (eX _ _ _) (an _) hge (fun k hk=>by grind) (fun _=>⟨.inr (by grind),by grind,by grind,(fun _=>by grind),(fun k hk=>by grind)⟩)
end
end Go.Ev
namespace Go.Ev
open Go
def Ol(s:aE):aE:=bif ak (.ofNat (gD s 0).toNat) 124 then[92]else bif ak (.ofNat (gD s 0).toNat) 92 then[92]else[]
def B6(s:aE)(w:PWord):aE:=s++[32]++Ol w.text++w.text
def mf(s:aE)(l:List PWord):aE:=l.foldl B6 s
theorem o5(s:aE)(w:PWord)(r:List PWord):mf s (w::r)=mf (B6 s w) r:=rfl
theorem Fv{x:aE}{w:PWord}(h1:ak (.ofNat (gD w.text 0).toNat) 124=true):B6 x w=x++[32]++[92]++w.text:=by grind[B6,Ol]
theorem Fw{x:aE}{w:PWord}(h1:ak (.ofNat (gD w.text 0).toNat) 124=false)(h2:ak (.ofNat (gD w.text 0).toNat) 92=true):B6 x w=x++[32]++[92]++w.text:=by grind[B6,Ol]
theorem Fk{x:aE}{w:PWord}(h1:ak (.ofNat (gD w.text 0).toNat) 124=false)(h2:ak (.ofNat (gD w.text 0).toNat) 92=false):B6 x w=x++[32]++w.text:=by grind[B6,Ol]
theorem XP(d:Nat):ao (.ofNat d) 0=false:=rfl
def uJ(u:TUnit):TUnit:=⟨0,0,0,u.kind,u.label,u.head,u.words,[]⟩
def Ei(u:TUnit)(d:Nat):Bool:=az (ao (.ofNat d) 0)&&(az (ao 8 (.ofNat d))&&kV (cN (uJ u)))
def gy(u:TUnit)(d:Nat):aE:=
 bif az (Ei u d)then[]else
  let a:=Lib.repeatL [32,32] d++dW u.kind
  let b:=bif az (ak u.kind 0)then a++([32]++u.label)else a
  let c:=bif ao 0 (.ofNat u.head.length)then mf (b++[58]) u.head else b
  bif ao 0 (.ofNat u.words.length)then mf (c++[32,124]) u.words else c
mutual
def eg:Nat→TUnit→List aE
 |d,⟨a,i,n,k,l,h,w,ks⟩=>gy ⟨a,i,n,k,l,h,w,ks⟩ d::dV (d+1) ks
def dV:Nat→List TUnit→List aE
 |_,[]=>[]
 |d,k::r=>eg d k++dV d r
end
theorem C2(d:Nat)(u:TUnit):eg d u=gy u d::dV (d+1) u.kids:=by cases u;rw[eg];rfl
theorem xU(d:Nat):dV d []=[]:=by rw[dV]
theorem mA(d:Nat)(k:TUnit)(r:List TUnit):dV d (k::r)=eg d k++dV d r:=by rw[dV]
def xS(u:TUnit):aE×Int:=
 bif az (kV (cN u))then([],1)else
  bif ao 16384 (.ofNat (Lib.join (eg 0 u) [10]++[10]).length)then([],6)else(Lib.join (eg 0 u) [10]++[10],0)
theorem Sv(s:aE):(Ol s).length≤1:=by grind[Ol]
theorem Th(s:aE)(w:PWord):(B6 s w).length≤s.length+(w.text.length+2):=by grind[Sv,B6]
theorem vf{l:List PWord}(h:∀w,w∈l→w.text.length≤24)(s:aE):(mf s l).length≤s.length+26*l.length:=by
 induction l generalizing s with
 |nil=>exact an _
 |cons w r ih=>grind[Th,o5]
theorem Ab(k:Int):(dW k).length≤16:=by
 unfold dW;split<;>decide
theorem gL{a b:Int}(h:az (ao a b)=true):b≤a:=af (by cases q:ao a b<;>rw[q]at h<;>first|rfl|grind)
theorem Ay{s:aE}(h:fS s=true):s.length≤7:=by
 unfold fS at h;simp only[aO]at h;have h1:=gL h.2.1;have h2:=gL h.2.2.2.1;grind
theorem NW{s:aE}(h:gG s=true):1≤s.length∧s.length≤24:=by
 unfold gG at h;simp only[aO]at h;have h1:=gL h.1;have h2:=gL h.2.1;grind
theorem IC{l:List PWord}(h:dz l=true):l.length≤256∧∀w,w∈l→1≤w.text.length∧w.text.length≤24:=by
 unfold dz kX at h;simp only[aO,kO]at h;have h1:=gL h.1;simp only[aP]at h1;exact⟨by omega,fun w hw=>NW (h.2.2 _ (fE.2 ⟨w,hw,rfl⟩))⟩
theorem OS{u:TUnit}(h:jH u=true):u.label.length≤7∧(u.head.length≤256∧∀w,w∈u.head→1≤w.text.length∧w.text.length≤24)∧(u.words.length≤256∧∀w,w∈u.words→1≤w.text.length∧w.text.length≤24):=by
 unfold jH at h;simp only[aO]at h;have h:=h.1;cases hk:ak u.kind 0 with
 |true=>
  rw[hk]at h;simp only[cond_true,aO]at h;have h1:u.label=[]:=Dx h.1;have h2:=gL h.2;grind
 |false=>grind[Ay,IC]
theorem P5{q:TUnit→Bool}{u:TUnit}(h:vc q u=true):q u=true:=by grind[yA]
theorem Lu{u:TUnit}{d:Nat}(h:Ei u d=true):d≤8∧u.label.length≤7∧(u.head.length≤256∧∀w,w∈u.head→1≤w.text.length∧w.text.length≤24)∧(u.words.length≤256∧∀w,w∈u.words→1≤w.text.length∧w.text.length≤24):=by
 unfold Ei kV at h;simp only[aO]at h;have h1:=gL h.2.1;simp only[aP]at h1;have h2:=OS (P5 h.2.2.1);rw[mG]at h2;obtain⟨e1,⟨e2,e3⟩,e4,e5⟩:=h2;refine⟨by omega,e1,⟨by grind[uJ,TUnit.head],fun w hw=>?_⟩,⟨by grind[uJ,TUnit.words],fun w hw=>?_⟩⟩
 ·exact e3 (iW w) (fE.2 ⟨w,hw,rfl⟩)
 ·exact e5 (iW w) (fE.2 ⟨w,hw,rfl⟩)
theorem FW{b:Bool}{x y:aE}{n:Nat}(h1:x.length≤n)(h2:y.length≤n):(bif b then x else y).length≤n:=by grind
theorem RK(u:TUnit)(d:Nat):(gy u d).length≤2^14:=by
 unfold gy;cases h:Ei u d with
 |false=>simp_all
 |true=>
  obtain⟨h1,h2,⟨h3,h4⟩,h5,h6⟩:=Lu h;have k:=Ab u.kind;have r:=Lib.repeatL_length [32,32] d;simp only[cM,gT]at r;have ha:(Lib.repeatL [32,32] d++dW u.kind).length≤32:=by grind
  have hh:∀w,w∈u.head→w.text.length≤24:=fun w hw=>(h4 w hw).2
  have hw:∀w,w∈u.words→w.text.length≤24:=fun w hw=>(h6 w hw).2
  simp only[az,cond_false];have hb:∀x:aE,x.length≤32→(bif az (ak u.kind 0)then x++([32]++u.label)else x).length≤40:=fun x hx=>FW (by grind) (by omega)
  have hc:∀x:aE,x.length≤40→(bif ao 0 (.ofNat u.head.length)then mf (x++[58]) u.head else x).length≤6700:=fun x hx=>FW (by grind[vf]) (by omega)
  have hd:∀x:aE,x.length≤6700→(bif ao 0 (.ofNat u.words.length)then mf (x++[32,124]) u.words else x).length≤2^14:=fun x hx=>FW (by have:=vf hw (x++[32,124]);grind) (by omega)
  grind
mutual
theorem lz(d:Nat):∀u:TUnit,(eg d u).length=nU u
 |⟨a,i,n,k,l,h,w,ks⟩=>by rw[eg,cM,xz (d+1) ks,nU];omega
theorem xz(d:Nat):∀l:List TUnit,(dV d l).length=ef l
 |[]=>by rw[dV,ef];rfl
 |k::r=>by rw[dV,ef,eZ,lz d k,xz d r]
end
mutual
theorem Ak(d:Nat):∀(u:TUnit)(s:aE),s∈eg d u→s.length≤2^14
 |⟨a,i,n,k,l,h,w,ks⟩,s,hs=>by
  rw[eg]at hs;rcases ed.1 hs with rfl|hs
  ·exact RK _ _
  ·exact xq (d+1) ks s hs
theorem xq(d:Nat):∀(l:List TUnit)(s:aE),s∈dV d l→s.length≤2^14
 |[],s,hs=>by rw[dV]at hs;cases hs
 |k::r,s,hs=>by
  rw[dV]at hs;rcases jg.1 hs with hs|hs
  ·exact Ak d k s hs
  ·exact xq d r s hs
end
theorem uG{sep:aE}{B:Nat}:∀{l:List aE},(∀s,s∈l→s.length≤B)→(Lib.joinTail sep l).length≤l.length*(sep.length+B)
 |[],_=>bP _
 |x::r,h=>by
  have h1:=h x eG;have h2:=uG (sep:=sep) (l:=r) fun s hs=>h s (eQ _ hs)
  grind[Lib.joinTail,Nat.succ_mul]
theorem Rv{sep:aE}{B:Nat}{l:List aE}(h:∀s,s∈l→s.length≤B):(Lib.join l sep).length≤l.length*(sep.length+B):=by
 cases l with
 |nil=>exact bP _
 |cons x r=>
  have h1:=h x eG;have h2:=uG (sep:=sep) (l:=r) fun s hs=>h s (eQ _ hs)
  grind[Lib.join_cons,Nat.succ_mul]
theorem wP:∀(l:List TUnit),(∀k,k∈l→nU (cN k)=nU k∧∀x,x∈bW (cN k)→∃y,y∈bW k∧x=cN y)→ef (l.map cN)=ef l∧∀x,x∈dQ (l.map cN)→∃y,y∈dQ l∧x=cN y
 |[],_=>⟨rfl,fun x hx=>by grind[fZ]⟩
 |k::r,h=>by
  obtain⟨a1,a2⟩:=h k eG;obtain⟨b1,b2⟩:=wP r fun k hk=>h k (eQ _ hk)
  grind[ef,bf]
theorem Nb:∀u:TUnit,nU (cN u)=nU u∧∀x,x∈bW (cN u)→∃y,y∈bW u∧x=cN y:=by
 refine TUnit.ind fun u ih=>?_
 obtain⟨h1,h2⟩:=wP u.kids ih;refine⟨?_,fun x hx=>?_⟩
 ·rw[jv (cN u),jv u,mG];exact congrArg (1+ ·) h1
 ·rw[co,mG]at hx;rcases ed.1 hx with rfl|hx
  ·grind[co,List.mem_cons_self,mG]
  ·obtain⟨y,h3,h4⟩:=h2 x hx;grind[co]
end Go.Ev
namespace Go.Ev
open Go
structure OkB(u:TUnit):Prop where
 nd:(cR u).Nodup
 n:nU u≤1024
 w:∀x,x∈bW u→x.head.length≤300∧x.words.length≤300
theorem OkB.uni{u v x:TUnit}(h:OkB u)(hv:v∈bW u)(hx:x∈bW u)(e:ah v=ah x):v=x:=CO h.nd hv hx e
theorem md{u x:TUnit}(hx:x∈bW u):b7 (ah x) u=true:=L6 u ⟨x,hx,rfl⟩
theorem lY:∀{l:List TUnit}{x:TUnit},x∈dQ l→∃k,k∈l∧x∈bW k
 |[],x,h=>by grind[fZ]
 |k::r,x,h=>by
  rw[bf]at h;rcases jg.1 h with h|h
  ·simp_all
  ·obtain⟨k',h1,h2⟩:=lY h;grind
theorem Ce{u:TUnit}:∀(p:List PStep)(l:List TUnit),(∀x,x∈l→x∈bW u)→∀x,x∈gH p l→x∈bW u
 |[],l,h,x,hx=>h x hx
 |s::r,l,h,x,hx=>by
  refine Ce r _ (fun y hy=>?_) x hx;grind[eD,bX,bq]
theorem Oj{u:TUnit}{p:List PStep}{x:TUnit}(h:x∈eb u p):x∈bW u:=by
 unfold eb at h;grind[bq,Ce]
theorem re{u:TUnit}{p:List PStep}(h:(aC u p).2=0):b7 (aC u p).1 u=true:=by
 unfold aC at h ⊢;split at h
 ·omega
 ·rename_i x e;exact md (Oj (by rw[e];simp_all))
 omega
def Fg(u:TUnit)(sp:PSpot):Prop:=∃n:Nat,sp.at_=Int.ofNat n∧n≤2^20∧∀v,v∈bW u→fI sp.id v=true→n≤v.kids.length
theorem Qg{u:TUnit}(hu:OkB u){p:PId}(h:gP p u=true){n:Nat}(hn:n≤1):Fg u ⟨rQ p u,rZ p u+Int.ofNat n⟩:=by
 obtain⟨q,i,h1,h2,h3,h4,h5⟩:=om u h;have hk:=bz q;have:=eJ h1;have:=hu.n;refine⟨i+n,by simp_all,by omega,fun v hv hi=>?_⟩;have hi:fI (rQ p u) v=true:=hi;rw[fx,h2]at hi;rw[hu.uni hv h1 hi];omega
theorem GO{u:TUnit}(hu:OkB u){p:PId}(hp:b7 p u=true){w:Int}(he:(dY w u p).2=0):Fg u (dY w u p).1:=by
 unfold dY at he ⊢;cases h0:ak w 0 with
 |true=>exact⟨0,rfl,bP _,fun v _ _=>bP _⟩
 | false=>
  rw[h0]at he;simp only[cond_false]at he ⊢;cases h1:ak w 1 with
  |true=>
   obtain⟨a,b⟩:=py hp;have hk:=bz (dZ p u);have:=eJ a;have:=hu.n;refine⟨_,rfl,by omega,fun v hv hi=>?_⟩;rw[fx]at hi;rw[hu.uni hv a (hi.trans b.symm)];omega
  |false=>
   rw[h1]at he;simp only[cond_false]at he ⊢;have key:∀n:Nat,n≤1→(n9 u p (Int.ofNat n)).2=0→Fg u (n9 u p (Int.ofNat n)).1:=fun n hn he=>by grind[n9,Qg]
   cases h2:ak w 2 with
   |true=>grind
   |false=>rw[h2]at he;exact key 0 (bP _) he
theorem OkB.with{u:TUnit}(hu:OkB u){q:PId}{f:TUnit→TUnit}
  (hf:∀v C,v∈bW u→ah v=q→(cR u).Perm (C++cR v)→(C++cR (f v)).Nodup∧(C++cR (f v)).length≤1024∧∀x,x∈bW (f v)→x.head.length≤300∧x.words.length≤300):OkB (bG q f u):=by
 cases hq:b7 q u with
 |false=>grind[pK]
 |true=>
  obtain⟨v,C,h1,h2,h3,h4⟩:=pX u hq;obtain⟨h5,h6⟩:=h4 f;obtain⟨a,b,c⟩:=hf v C h1 h2 h3;refine⟨h5.nodup_iff.2 a,by rw[jE,h5.length_eq];omega,fun x hx=>?_⟩;grind[cases OkB]
theorem OkB.keep{u:TUnit}(hu:OkB u){q:PId}{f:TUnit→TUnit}(h1:∀v,ah (f v)=ah v∧(f v).kids=v.kids)(h2:∀v,v∈bW u→(f v).head.length≤300∧(f v).words.length≤300):OkB (bG q f u):=by
 refine hu.with fun v C hv hq hp=>?_
 have e:cR (f v)=cR v:=by grind[gQ]
 rw[e];refine⟨hp.nodup_iff.1 hu.nd,by rw[←hp.length_eq,←jE];exact hu.n,fun x hx=>?_⟩;rw[co]at hx;rcases ed.1 hx with rfl|hx
 ·simp_all
 ·rw[(h1 v).2]at hx;obtain⟨k,k1,k2⟩:=lY hx;grind[eD,bX,cases OkB]
theorem Lb{v x y:TUnit}{i:Nat}(h:y∈bW (cV i x v)):y=cV i x v∨y∈bW x∨y∈bW v:=by
 rw[co]at h;rcases ed.1 h with rfl|h
 ·simp_all
 ·obtain⟨k,k1,k2⟩:=lY h;have k1:k∈v.kids.take i++(x::v.kids.drop i):=k1;rcases jg.1 k1 with q|q
  ·grind[bX]
  ·grind[bX]
theorem OkB.ins{u x:TUnit}(hu:OkB u){q:PId}{i:Nat}(hx:(cR x).Nodup)(hd:∀p,p∈cR x→p∉cR u)(hn:nU u+nU x≤1024)(hw:∀y,y∈bW x→y.head.length≤300∧y.words.length≤300):OkB (bG q (cV i x) u):=by
 refine hu.with fun v C hv hq hp=>?_
 have h1:(C++cR (cV i x v)).Perm (cR u++cR x):=((KC C Vi).trans (by grind))
 refine⟨h1.nodup_iff.2 (tC.2 ⟨hu.nd,hx,fun a ha b hb e=>hd b hb (e▸ha)⟩),by rw[h1.length_eq,eZ,←jE,←jE];omega,fun y hy=>?_⟩;rcases Lb hy with rfl|h|h
 ·exact hu.w v hv
 all_goals grind[eD,cases OkB]
theorem Ez{v y:TUnit}{i:Nat}(h:y∈bW (dg i v)):y=dg i v∨y∈bW v:=by
 rw[co]at h;rcases ed.1 h with rfl|h
 ·simp_all
 ·obtain⟨k,k1,k2⟩:=lY h;exact .inr (bX (List.mem_of_mem_eraseIdx (show k∈v.kids.eraseIdx i from k1)) k2)
theorem OkB.del{u v:TUnit}(hu:OkB u){i:Nat}(hv:v∈bW u)(hi:i<v.kids.length):OkB (bG (ah v) (dg i) u)∧(cR u).Perm (cR (bG (ah v) (dg i) u)++cR (gD v.kids i)):=by
 obtain⟨v',C,h1,h2,h3,h4⟩:=pX u (md hv);obtain rfl:=hu.uni h1 hv h2;obtain⟨h5,h6⟩:=h4 (dg i);have h7:(cR u).Perm (cR (bG (ah v') (dg i) u)++cR (gD v'.kids i)):=h3.trans ((KC C (Vl hi)).trans (by grind));have hnd:=h7.nodup_iff.1 hu.nd;refine⟨⟨(tC.1 hnd).1,?_,fun x hx=>?_⟩,h7⟩
 ·have:=h7.length_eq;grind[jE,cases OkB]
 ·rcases h6 x hx with h|⟨y,y1,y2,y3,y4,y5⟩
  ·rcases Ez h with rfl|h
   ·exact hu.w v' hv
   grind[eD,cases OkB]
  grind[cases OkB]
theorem FH{q:PId}{f:TUnit→TUnit}:∀u:TUnit,b7 q u=true→∃v,v∈bW u∧ah v=q∧f v∈bW (bG q f u):=by
 refine TUnit.ind fun u ih h=>?_
 cases hi:fI q u with
 |true=>grind[bq,fx,jN]
 | false=>
  rw [iQ hi];have key:∀r:List TUnit,(∀k,k∈r→k∈u.kids)→(∃k,k∈r∧b7 q k=true)→∃v,v∈dQ r∧ah v=q∧f v∈dQ (dn q f r):=by
   intro r;induction r with
   |nil=>grind
   | cons k r ihr=>
    intro hs ⟨y,hy,hyq⟩;rw[gk,bf];cases hk:b7 q k with
    |true=>grind[bf]
    |false=>
     rcases ed.1 hy with rfl|hy
     ·grind
     ·obtain⟨v,a,b,c⟩:=ihr (fun k hk=>hs k (eQ _ hk)) ⟨y,hy,hyq⟩;grind[bf]
  have hx:=py h;have hne:dZ q u≠u:=fun e=>by grind[fx]
  have hm:dZ q u∈dQ u.kids:=by grind[co]
  obtain⟨k,k1,k2⟩:=lY hm;obtain⟨v,a,b,c⟩:=key u.kids (fun _ h=>h) ⟨k,k1,L6 k ⟨_,k2,hx.2⟩⟩;grind[co,xZ]
theorem RN{u q:TUnit}(hu:OkB u){i:Nat}(hq:q∈bW u)(hi:i<q.kids.length){p t:PId}{w:Int}{anc bs:Bool}(ht:b7 t u=true){ok:Bool}
  (he:(oq p t (ah q) (Int.ofNat i) ok anc bs (dY w u t).1 (dY w u t).2).2=0):
  Fg (bG (ah q) (dg i) u) (oq p t (ah q) (Int.ofNat i) ok anc bs (dY w u t).1 (dY w u t).2).1:=by
 obtain⟨hr,_⟩:=hu.del hq hi;obtain⟨v',C,h1,h2,h3,h4⟩:=pX u (md hq);obtain rfl:=hu.uni h1 hq h2;obtain⟨_,h6⟩:=h4 (dg i);have hlen:(dg i v').kids.length=v'.kids.length-1:=List.length_eraseIdx_of_lt hi;have own:∀v,v∈bW (bG (ah v') (dg i) u)→ah v=ah v'→v.kids.length=v'.kids.length-1:=fun v hv e=>by
  obtain⟨z,z1,z2,z3⟩:=FH (q:=ah v') (f:=dg i) u (md hq);obtain rfl:=hu.uni z1 hq z2;rw[hr.uni hv z3 (e.trans rfl)];omega
 have oth:∀v,v∈bW (bG (ah v') (dg i) u)→ah v≠ah v'→∃y,y∈bW u∧ah v=ah y∧v.kids.length=y.kids.length:=fun v hv hne=>by
  rcases h6 v hv with h|⟨y,y1,y2,y3,_⟩
  ·rcases Ez h with rfl|h
   ·exact absurd rfl hne
   ·exact⟨v,eD hq h,rfl,rfl⟩
  grind
 have hk:=bz v';have hb:=eJ hq;have hn:=hu.n;unfold oq at he ⊢;cases c1:(az ok||((az (aT t p)&&anc)||(aT t p&&az bs)))with
 |true=>grind
 | false=>
  rw[c1]at he;simp only[cond_false]at he ⊢;cases c2:aT t p with
  |true=>
   refine⟨i,rfl,by omega,fun v hv hid=>?_⟩;grind[fx]
  | false=>
   rw[c2]at he;simp only[cond_false]at he ⊢;have e0:(dY w u t).2=0:=by grind
   obtain⟨n,n1,n2,n3⟩:=GO hu ht e0;rw[e0,n1];cases c4:aT (dY w u t).1.id (ah v')with
   |false=>
    have hne:(dY w u t).1.id≠ah v':=fun e=>by grind[lw]
    rw[show(ak 0 0&&(false&&ao (Int.ofNat i) (Int.ofNat n)))=false from rfl];refine⟨n,n1,n2,fun v hv hid=>?_⟩;grind[fx]
   | true=>
    have heq:=n6 c4;have hn':=n3 v' hq ((fx _ v').2 heq.symm);cases c5:ao (Int.ofNat i) (Int.ofNat n)with
    |true=>
     have c5:=ae c5;simp only[aP]at c5;rw[show(ak 0 0&&(true&&true))=true from rfl];refine⟨n-1,by grind,by omega,fun v hv hid=>?_⟩;grind[fx]
    |false=>
     have c5:=af c5;simp only[aP]at c5;rw[show(ak 0 0&&(true&&false))=false from rfl];refine⟨n,n1,n2,fun v hv hid=>?_⟩;grind[fx]
def zV(a i:Int)(n k:Nat):List PId:=(List.range' (n+1) k).map fun j=>⟨a,i,Int.ofNat j⟩
mutual
theorem vA(a i:Int):∀(u:TUnit)(n w:Nat),cR (cQ a i u n w)=zV a i n (nU u)
 |⟨a',i',n',k,l,h,ws,ks⟩,n,w=>by
  rw[gQ,cQ,nU];show _::bx (cE a i ks (n+1) _)=_
  rw[zK a i ks (n+1)];unfold zV;rw[Nat.add_comm 1 (ef ks),yE,dl];rfl
theorem zK(a i:Int):∀(l:List TUnit)(n w:Nat),bx (cE a i l n w)=zV a i n (ef l)
 |[],n,w=>by rw[cE,ef,lk];rfl
 |k::r,n,w=>by
  rw[cE,ef,dC,vA a i k n w,zK a i r (n+nU k)];unfold zV;rw[←m0,show n+nU k+1=n+1+nU k by omega,←List.range'_append_1]
end
theorem PR(a i:Int)(n k:Nat):(zV a i n k).Nodup:=by
 unfold zV;exact List.Pairwise.map _ (fun x y hne e=>hne (Int.ofNat.inj (congrArg PId.n e))) List.nodup_range'
mutual
theorem K6(a i:Int)(B:Nat):∀(u:TUnit)(n w:Nat),(∀x,x∈bW u→x.head.length≤B∧x.words.length≤B)→∀x,x∈bW (cQ a i u n w)→x.head.length≤B∧x.words.length≤B
 |⟨a',i',n',k,l,h,ws,ks⟩,n,w,hB,x,hx=>by
  rw[cQ,bW]at hx;rcases ed.1 hx with rfl|hx
  ·have:=hB _ (by rw[bW];exact eG);exact⟨by show(bg _ _ _ _).length≤B;rw[fX,aL,cK];exact this.1,by show(bg _ _ _ _).length≤B;rw[fX,aL,cK];exact this.2⟩
  ·exact F6 a i B ks _ _ (fun y hy=>hB y (by rw[bW];exact eQ _ hy)) x hx
theorem F6(a i:Int)(B:Nat):∀(l:List TUnit)(n w:Nat),(∀x,x∈dQ l→x.head.length≤B∧x.words.length≤B)→∀x,x∈dQ (cE a i l n w)→x.head.length≤B∧x.words.length≤B
 |[],n,w,hB,x,hx=>by rw[cE,dQ]at hx;cases hx
 |k::r,n,w,hB,x,hx=>by
  rw[cE,dQ]at hx;rcases jg.1 hx with hx|hx
  ·exact K6 a i B k _ _ (fun y hy=>hB y (by rw[dQ];exact Fo _ hy)) x hx
  ·exact F6 a i B r _ _ (fun y hy=>hB y (by rw[dQ];exact wt _ hy)) x hx
end
theorem PN(a i:Int)(u:TUnit)(n w:Nat):nU (cQ a i u n w)=nU u:=by grind[jE,vA,zV]
end Go.Ev
namespace Go.Ev
open Go
def fh(p k:Int):Bool:=bif ak p 0 then ak k 1||ak k 2 else bif ak p 1 then ak k 2 else bif ak p 2||ak p 3 then ak k 3||(ak k 4||ak k 7)else bif ak p 4 then ak k 5 else bif ak p 5 then ak k 6 else false
theorem Q0{p k:Int}(h:fh p k=true):k≠0:=by
 rintro rfl
 simp_all[ak,fh]
def ec(u:TUnit):Bool:=az (ao u.kind 0)&&(az (ao 7 u.kind)&&(az (ao 64 (.ofNat u.kids.length))&&(dz u.head&&(dz u.words&&
 (bif ak u.kind 0 then dL u.label []&&(ak (.ofNat u.head.length) 0&&ak (.ofNat u.words.length) 0)else fS u.label)))))
def gi(k d:TUnit):Bool:=ak d.kind k.kind&&dL d.label k.label
mutual
def nK:TUnit→Bool
 |⟨a,i,n,k,l,h,w,ks⟩=>ec ⟨a,i,n,k,l,h,w,ks⟩&&dj k [] ks
def dj(pk:Int):List TUnit→List TUnit→Bool
 |_,[]=>true
 |done,k::r=>fh pk k.kind&&(nK k&&(az (done.any (gi k))&&dj pk (done++[k]) r))
end
theorem Co(u:TUnit):nK u=(ec u&&dj u.kind [] u.kids):=by cases u;rw[nK];rfl
theorem wT(pk:Int)(done:List TUnit):dj pk done []=true:=by rw[dj]
theorem ky(pk:Int)(done:List TUnit)(k:TUnit)(r:List TUnit):dj pk done (k::r)=(fh pk k.kind&&(nK k&&(az (done.any (gi k))&&dj pk (done++[k]) r))):=by rw[dj]
def BM(p:PId):Bool:=ak p.a 0&&(ak p.i 0&&ak p.n 0)
def mp:List PId→List PId→Bool
 |_,[]=>true
 |done,p::r=>az (done.any fun q=>aT q p)&&mp (done++[p]) r
def Vm(u:TUnit):Bool:=(cR u).all BM||((BM (ah u)==ak u.kind 0)&&mp [] (cR u))
end Go.Ev
namespace Go.Ev
open Go
def vg(S T:Int→Int→Prop)(u:TUnit):Prop:=∀x,x∈bW u→(∀w,w∈x.head++x.words→S w.act w.item)∧(ah x=⟨0,0,0⟩∨T x.act x.item)
structure Tl(u:TUnit)(a i k:Int)(v:TUnit):Prop where
 root:ah v=ah u
 mks:∀S T,S a i→(k=0→T a i)→vg S T u→vg S T v
theorem Tl.refl(u:TUnit)(a i k:Int):Tl u a i k u:=⟨rfl,fun _ _ _ _ h=>h⟩
variable{S T:Int→Int→Prop}{u v x:TUnit}{q:PId}{f:TUnit→TUnit}{a i:Int}
theorem nS(hu:vg S T u)(hf:∀v,v∈bW u→ah v=q→vg S T (f v)):vg S T (bG q f u):=by
 cases hq:b7 q u with
 |false=>grind[pK]
 |true=>
  obtain⟨v,C,h1,h2,h3,h4⟩:=pX u hq;intro x hx;rcases(h4 f).2 x hx with h|⟨y,y1,y2,y3,y4,y5⟩
  ·exact hf v h1 h2 x h
  ·have z:=hu y y1;have e1:x.act=y.act:=congrArg PId.a y2;have e2:x.item=y.item:=congrArg PId.i y2;simp_all
theorem pi(h:vg S T u)(hv:v∈bW u):vg S T v:=fun x hx=>h x (eD hv hx)
theorem Q5{j:Nat}(hv:vg S T v)(hx:vg S T x):vg S T (cV j x v):=fun y hy=>by
 rcases Lb hy with rfl|h|h
 ·exact hv v (bq v)
 ·exact hx y h
 ·exact hv y h
theorem Q6{j:Nat}(hv:vg S T v):vg S T (dg j v):=fun y hy=>by
 rcases Ez hy with rfl|h
 ·exact hv v (bq v)
 ·exact hv y h
theorem Jf(hv:vg S T v)(h1:(f v).kids=v.kids)(h2:ah (f v)=ah v)(h3:∀w,w∈(f v).head++(f v).words→S w.act w.item):vg S T (f v):=fun y hy=>by
 rw[co,h1]at hy;rcases ed.1 hy with rfl|h
 ·have z:=(hv v (bq v)).2;have e1:(f v).act=v.act:=congrArg PId.a h2;have e2:(f v).item=v.item:=congrArg PId.i h2;simp_all
 ·exact hv y (by grind[co])
theorem GD{l:List PWord}(hv:vg S T v)(hl:∀w,w∈l→S w.act w.item):vg S T (fy l v):=Jf (f:=fy l) hv rfl rfl fun w hw=>by
 rcases jg.1 hw with h|h
 ·exact(hv v (bq v)).1 w (Fo _ h)
 ·exact hl w h
theorem US{l:List PWord}(hv:vg S T v)(hl:∀w,w∈l→S w.act w.item):vg S T (kn l v):=Jf (f:=kn l) hv rfl rfl fun w hw=>by
 rcases jg.1 hw with h|h
 ·exact hl w h
 ·exact(hv v (bq v)).1 w (wt _ h)
theorem Q4{s:aE}(hv:vg S T v):vg S T (f9 s v):=Jf (f:=f9 s) hv rfl rfl fun w hw=>(hv v (bq v)).1 w hw
theorem jR(h:∀v,ah (f v)=ah v)(u:TUnit):ah (bG q f u)=ah u:=by
 cases hi:fI q u with
 |true=>grind[jN]
 |false=>rw[iQ hi];rfl
theorem mO:∀{l:List aE}{n:Nat}{w:PWord},w∈bg a i l n→w.act=a∧w.item=i
 |s::r,n,w,h=>by
  rw[bg]at h;rcases ed.1 h with rfl|h
  ·simp_all
  ·exact mO h
theorem uj{g:Nat}{ps:List Nat}{fresh:List aE}{w:PWord}:∀{n:Nat}{l:List PWord},w∈nj a i g ps fresh n l→w∈l∨(w.act=a∧w.item=i)
 |0,l,h=>.inl h
 |n+1,l,h=>by
  rw[nj]at h;rcases uj h with h|h
  all_goals grind[fQ,mO]
theorem ux{l:List PWord}{w:PWord}(h:w∈oh l):w∈l:=by grind[oh]
theorem Cr{l:List PWord}{old new:List aE}{n:Int}{w:PWord}(h:w∈(qR a i l old new n).1):w∈l∨(w.act=a∧w.item=i):=by
 unfold qR at h;cases q1:ak (Int.ofNat old.length) 0<;>rw[q1]at h
 ·cases q2:ak (Int.ofNat (lq (rJ (aL l) old) n).length) 0<;>rw[q2]at h
  ·exact uj (ux h)
  ·grind
 ·grind
theorem HQ{l:List PWord}{part new:List aE}{n:Int}{w:PWord}(h:w∈(tz a i l part new n).1):w∈l∨(w.act=a∧w.item=i):=by
 unfold tz at h;cases q1:(ak (Int.ofNat new.length) 0||(ak (Int.ofNat part.length) 0&&az (ak n 0)))<;>rw[q1]at h
 ·cases q2:ak (Int.ofNat part.length) 0<;>rw[q2]at h
  ·cases q3:ak (Int.ofNat (lq (rJ (aL l) part) n).length) 0<;>rw[q3]at h
   ·exact uj (ux h)
   ·grind
  ·exact uj (ux h)
 ·grind
mutual
theorem F7(h1:S a i)(h2:T a i):∀(u:TUnit)(n w:Nat),vg S T (cQ a i u n w)
 |⟨a',i',n',k,l,h,ws,ks⟩,n,w,x,hx=>by
  rw[cQ,bW]at hx;rcases ed.1 hx with rfl|hx
  ·refine⟨fun y hy=>?_,.inr h2⟩;have hy:y∈bg a i (aL h) w++bg a i (aL ws) (w+h.length):=hy;rcases jg.1 hy with q|q<;>(obtain⟨e1,e2⟩:=mO q;rw[e1,e2];exact h1)
  ·exact Cf h1 h2 ks _ _ x hx
theorem Cf(h1:S a i)(h2:T a i):∀(l:List TUnit)(n w:Nat)(x:TUnit),x∈dQ (cE a i l n w)→(∀w,w∈x.head++x.words→S w.act w.item)∧(ah x=⟨0,0,0⟩∨T x.act x.item)
 |[],n,w,x,hx=>by grind[cE,dQ]
 |k::r,n,w,x,hx=>by
  rw[cE,dQ]at hx;rcases jg.1 hx with hx|hx
  ·exact F7 h1 h2 k _ _ x hx
  ·exact Cf h1 h2 r _ _ x hx
end
end Go.Ev
