/- An abstract machine for runs of the program, proved sound against the model: part 7. No conditions. -/
import Derived.Test.YtaepacpodblomaaGreatDoorMach6
import Derived.Laws.Externs
import Derived.Lib.Join
import Derived.Lib.Repeat
namespace Go.Ev
open Go
def qo(l:List aR)(n:Int):Bool:=qp l&&ak (aF (.ofNat l.length) n)
def B9(n:Int):Bool:=ak (aF n 0)&&ak (aF 256 n)
theorem JB{u:TUnit}(p:List PStep)(h:nU u≤2^11):(dT u p).length≤2^22:=by
 have key:∀(rs:List PStep)(l:List TUnit),eJ (gp rs l)≤eJ l:=by
  intro rs;induction rs with
  |nil=>intro l;exact aB _
  |cons s r ih=>grind[I1,Gp]
 unfold dT;cases kL p with
 |false=>simp_all
 | true=>
  simp only[cond_true];cases p with
  |nil=>simp_all
  | cons s r=>
   simp only[];refine bR (yn _) (bR (key r _) ?_);cases nK s with
   |true=>grind[bi,mw]
   |false=>
    simp only[cond_false];have h1:=Gn s u fun x hx=>dN hx
    have h2:nU u*nU u≤2^11*2^11:=Nat.mul_le_mul h h;exact bR h1 h2
theorem He{u:TUnit}{p:List PStep}(h:dT u p=[]):aH u p=(bT,7):=by grind[aH]
theorem Hd{u x:TUnit}{p:List PStep}(h:dT u p=[x]):aH u p=(bw x,0):=by grind[aH]
theorem Hc{u x y:TUnit}{r:List TUnit}{p:List PStep}(h:dT u p=x::y::r):aH u p=(bT,8):=by grind[aH]
def xC(own:PId)(i:Int)(ok:Bool)(n:Int):PSpot×Int:=bif ok then(⟨own,i+n⟩,0)else(dF,9)
def CF(e:Int)(sp:PSpot)(e2:Int):PSpot×Int:=bif af e 0 then(bif af e2 0 then(sp,0)else(dF,e2))else(dF,e)
def n4(p q own:PId)(at_:Int)(ok c bs:Bool)(sp:PSpot)(e:Int):PSpot×Int:=
 bif ak ok||((ak (bB q p)&&c)||(bB q p&&ak bs))then(dF,9)
 else bif bB q p then(⟨own,at_⟩,0)
 else bif af e 0&&(bB sp.id own&&aF at_ sp.at_)then(⟨sp.id,sp.at_-1⟩,e)else(sp,e)
end Go.Ev
namespace Go.Ev
open Go
section
variable{a i:Int}{l r x:List aR}{s:aR}{m:List PWord}{j n k:Nat}
theorem tQ(h1:l.drop j=x)(h2:x=s::r)(h3:s::r=l):1=[(⟨s,a,i,.ofNat (n+j)⟩:PWord)].length∧0<[(⟨s,a,i,.ofNat (n+j)⟩:PWord)].length∧[(⟨s,a,i,.ofNat (n+j)⟩:PWord)]++cD a i r (n+[(⟨s,a,i,.ofNat (n+j)⟩:PWord)].length)=cD a i l n∧[(⟨s,a,i,.ofNat (n+j)⟩:PWord)].length+r.length=l.length:=by
 have e:=congrArg List.length (h1.trans h2);have e2:=congrArg List.length h3;simp only[wm,cR]at e e2;have:j=0:=by omega
 subst this;refine⟨rfl,Nat.one_pos,?_,by grind⟩;rw[←h3,cD];rfl
theorem wW(h1:l.drop j=x)(h2:x=s::r)(h:k=m.length∧0<m.length∧m++cD a i (s::r) (n+m.length)=cD a i l n∧m.length+(s::r).length=l.length):
  k+1=(m++[(⟨s,a,i,.ofNat (n+j)⟩:PWord)]).length∧0<(m++[(⟨s,a,i,.ofNat (n+j)⟩:PWord)]).length∧(m++[(⟨s,a,i,.ofNat (n+j)⟩:PWord)])++cD a i r (n+(m++[(⟨s,a,i,.ofNat (n+j)⟩:PWord)]).length)=cD a i l n∧(m++[(⟨s,a,i,.ofNat (n+j)⟩:PWord)]).length+r.length=l.length:=by
 have e:=congrArg List.length (h1.trans h2);obtain⟨q1,q2,q3,q4⟩:=h;simp only[wm,cR]at e q4;have:j=m.length:=by omega
 subst this;simp only[dL,cR,gN];refine⟨by omega,by omega,?_,by omega⟩;rw[←q3,cD,mB];rfl
end
theorem gS(l:List PWord):(b8 l).length=l.length:=cZ ..
structure StampI(a i:Int)(ks:List TUnit)(n0 w0:Nat)(k n w:Nat)(m:List TUnit):Prop where
 len:m.length=k
 le:k≤ks.length
 all:m++fK a i (ks.drop k) n w=fK a i ks n0 w0
 num:n+eJ (ks.drop k)=n0+eJ ks
 wd:w+(kI (ks.drop k)).length=w0+(kI ks).length
theorem StampI.start(a i:Int)(ks:List TUnit)(n0 w0:Nat):StampI a i ks n0 w0 0 n0 w0 []:=⟨rfl,bL _,rfl,rfl,rfl⟩
theorem StampI.step{a i:Int}{ks:List TUnit}{n0 w0 k n w:Nat}{m:List TUnit}(h:StampI a i ks n0 w0 k n w m)(hk:k<ks.length):
  StampI a i ks n0 w0 (k+1) (n+nU (gD ks k)) (w+(nJ (gD ks k)).length) (m++[cS a i (gD ks k) n w]):=by
 have e:=yF hk;obtain⟨h1,h2,h3,h4,h5⟩:=h;rw[e,DO]at h3;rw[e,bi]at h4;rw[e,tf,dL]at h5;exact⟨by simp_all,hk,by simp_all,by omega,by omega⟩
theorem StampI.done{a i:Int}{ks:List TUnit}{n0 w0 k n w:Nat}{m:List TUnit}(h:StampI a i ks n0 w0 k n w m)(hk:¬k<ks.length):m=fK a i ks n0 w0∧n=n0+eJ ks∧w=w0+(kI ks).length:=by grind[FM,mw,DG,cases StampI]
theorem XH{α:Type}[Inhabited α]{m r:List α}{k:Nat}(h:m.length=k):gD (m++r) k=gD r 0:=by grind[gD]
theorem VX{α:Type}[Inhabited α]{l:List α}{k:Nat}:gD (l.drop k) 0=gD l k:=by simp_all[gD]
theorem TI{α:Type}{m r:List α}{k:Nat}{x y:α}(h:m.length=k):(m++x::r).set k y=(m++[y])++r:=by simp_all
def gh(a i:Int)(ks:List TUnit)(n0 w0 k n w:Nat)(L:List TUnit):Prop:=∃m,L=m++ks.drop k∧StampI a i ks n0 w0 k n w m
section
variable{a i:Int}{ks L:List TUnit}{n0 w0 k n w:Nat}
theorem gh.start(a i:Int)(ks:List TUnit)(n0 w0:Nat):gh a i ks n0 w0 0 n0 w0 ks:=⟨[],rfl,StampI.start ..⟩
theorem gh.len(h:gh a i ks n0 w0 k n w L):L.length=ks.length:=by
 obtain⟨m,rfl,hI⟩:=h;grind[cases StampI]
theorem gh.at_(h:gh a i ks n0 w0 k n w L):gD L k=gD ks k:=by
 obtain⟨m,rfl,hI⟩:=h;rw[XH hI.len,VX]
theorem gh.step(h:gh a i ks n0 w0 k n w L)(hk:k<ks.length):gh a i ks n0 w0 (k+1) (n+nU (gD L k)) (w+(nJ (gD L k)).length) (L.set k (cS a i (gD L k) n w)):=by
 rw[h.at_];obtain⟨m,rfl,hI⟩:=h;exact⟨m++[cS a i (gD ks k) n w],by rw[yF hk,TI hI.len],hI.step hk⟩
theorem gh.num(h:gh a i ks n0 w0 k n w L):n+eJ (ks.drop k)=n0+eJ ks∧w+(kI (ks.drop k)).length=w0+(kI ks).length:=by
 obtain⟨m,rfl,hI⟩:=h;grind[cases StampI]
theorem gh.done(h:gh a i ks n0 w0 k n w L)(hk:¬k<ks.length):L=fK a i ks n0 w0∧n=n0+eJ ks∧w=w0+(kI ks).length:=by
 obtain⟨m,rfl,hI⟩:=h;rw[Ck (by omega),dE];exact hI.done hk
theorem gh.room(h:gh a i ks n0 w0 k n w L)(hk:k<ks.length):n+nU (gD L k)≤n0+eJ ks∧w+(nJ (gD L k)).length≤w0+(kI ks).length:=by
 have h1:=h.num;rw[h.at_];grind[yF,bi,tf]
end
end Go.Ev
namespace Go.Ev
open Go
section
variable{α:Type}
structure TotB(lt:α→α→Bool):Prop where
 trans:∀x y z,lt y x=false→lt z y=false→lt z x=false
 asym:∀x y,lt x y=true→lt y x=false
variable{lt:α→α→Bool}
theorem TotB.down(T:TotB lt){x y z:α}(h1:lt z y=false)(h2:lt z x=true):lt y x=true:=by
 cases h:lt y x with
 |true=>rfl
 |false=>grind[cases TotB]
theorem TotB.up(T:TotB lt){x y z:α}(h1:lt x y=true)(h2:lt z y=false):lt x z=true:=by
 cases h:lt x z with
 |true=>rfl
 |false=>grind[cases TotB]
end
section
variable{α:Type}[Inhabited α]{lt:α→α→Bool}{l x y z w:List α}{a b m n i j k s e p d:Nat}
theorem wx(h:l.length≤i):gD l i=default:=by grind[gD]
theorem XG{v:α}(h:i<l.length):gD (l.set i v) k=if k=i then v else gD l k:=by
 unfold gD;grind
theorem rm(hi:i<l.length)(hj:j<l.length):((l.set i (gD l j)).set j (gD l i)).Perm l:=by grind[gD,List.set_set_perm]
theorem ya(hi:i<l.length)(hj:j<l.length)(q:Nat):gD ((l.set i (gD l j)).set j (gD l i)) q=if q=j then gD l i else if q=i then gD l j else gD l q:=by grind[XG]
def dm(lt:α→α→Bool)(l:List α)(a b:Nat):Prop:=∀i j,a≤i→i<j→j<b→lt (gD l j) (gD l i)=false
structure SSeg(lt:α→α→Bool)(l x:List α)(a b:Nat):Prop where
 perm:x.Perm l
 out:∀i,i<a∨b≤i→gD x i=gD l i
 src:∀i,a≤i→i<b→∃j,a≤j∧j<b∧gD x i=gD l j
 srt:dm lt x a b
theorem SSeg.len(h:SSeg lt l x a b):x.length=l.length:=h.perm.length_eq
theorem mr(h:dm lt l a b):SSeg lt l l a b:=⟨.refl _,fun _ _=>rfl,fun i h1 h2=>⟨i,h1,h2,rfl⟩,h⟩
theorem SSeg.cast{p q:Nat}(h:SSeg lt l x p q)(hp:p=a)(hq:q=b):SSeg lt l x a b:=by simp_all
theorem dm.nil(h:b≤a+1):dm lt l a b:=fun i j _ _ _=>by omega
theorem dm.sub(h:dm lt l a b)(h1:a≤i)(h2:j≤b):dm lt l i j:=fun p q e1 e2 e3=>h p q (by omega) e2 (by omega)
theorem dm.le(T:TotB lt)(h:dm lt l a b)(h1:a≤i)(h2:i≤j)(h3:j<b):lt (gD l j) (gD l i)=false:=by
 rcases fu i j with q|q
 ·exact h i j h1 q h3
 grind[cases TotB]
structure InsI(lt:α→α→Bool)(l x:List α)(a i j:Nat):Prop where
 perm:x.Perm l
 out:∀q,q<a∨i+1≤q→gD x q=gD l q
 src:∀q,a≤q→q<i+1→∃p,a≤p∧p<i+1∧gD x q=gD l p
 mid:∀p q,a≤p→p<q→q≤i→q≠j→lt (gD x q) (gD x p)=false
theorem InsI.start(h:SSeg lt l x a (min i b))(h1:i<b):InsI lt l x a i i:=by
 rw[show min i b=i by omega]at h;refine⟨h.perm,fun q hq=>h.out q (by omega),fun q h1 h2=>?_,fun p q h1 h2 h3 h4=>h.srt p q h1 h2 (by omega)⟩;grind[cases SSeg]
theorem InsI.step(T:TotB lt)(h:InsI lt l x a i j)(hi:i<l.length)(h1:a<j)(h2:j≤i)(hk:k+1=j)(hl:lt (gD x j) (gD x k)=true):InsI lt l ((x.set j (gD x k)).set k (gD x j)) a i k:=by
 have hx:x.length=l.length:=h.perm.length_eq;have hj:j<x.length:=by omega
 have hkx:k<x.length:=by omega
 have g:=ya hj hkx;refine⟨(rm hj hkx).trans h.perm,fun q hq=>?_,fun q q1 q2=>?_,fun p q h3 h4 h5 h6=>?_⟩
 ·rw[g,if_neg (by omega),if_neg (by omega)];exact h.out q hq
 ·rw[g];split
  ·grind[cases InsI]
  ·split
   ·grind[cases InsI]
   ·exact h.src q q1 q2
 ·rw[g,g];rw[if_neg (show ¬q=k by omega)];by_cases c1:q=j
  ·rw[if_pos c1];by_cases c2:p=k
   ·rw[if_pos c2];exact T.asym _ _ hl
   ·grind[cases InsI]
  ·rw[if_neg c1];by_cases c2:p=k
   ·grind[cases InsI]
   ·rw[if_neg c2];by_cases c3:p=j
    ·grind[cases InsI]
    ·rw[if_neg c3];exact h.mid p q h3 h4 h5 c1
theorem InsI.stop(T:TotB lt)(h:InsI lt l x a i j)(ha:a≤j)(h2:j≤i)(hb:i<b)(hs:s=i+1)(hl:j=a∨∃k,k+1=j∧lt (gD x j) (gD x k)=false):SSeg lt l x a (min s b):=by
 rw[show min s b=i+1 by omega];refine⟨h.perm,h.out,h.src,fun p q h3 h4 h5=>?_⟩;grind[cases TotB,cases InsI]
theorem OQ(hab:a≤b):SSeg lt l l a (min (a+1) b):=mr (dm.nil (by omega))
theorem Rq(h:SSeg lt l x a (min i b))(hi:b≤i):SSeg lt l x a b:=by simp_all
def sw(a b m i:Nat):Nat:=if a≤i∧i<a+m then i-a+b else if b≤i∧i<b+m then i-b+a else i
structure SwP(l x:List α)(a b m:Nat):Prop where
 perm:x.Perm l
 at_:∀i,i<l.length→gD x i=gD l (sw a b m i)
theorem SwP.len(h:SwP l x a b m):x.length=l.length:=h.perm.length_eq
theorem SwP.start:SwP l l a b 0:=⟨.refl _,fun i _=>by simp_all[sw,if_neg]⟩
theorem SwP.step(h:SwP l x a b k)(hk:k<m)(ha:a+m≤b)(hb:b+m≤l.length)(hi:i=a+k)(hj:j=b+k)(hs:s=k+1):SwP l ((x.set i (gD x j)).set j (gD x i)) a b s:=by
 subst hi hj hs;have hx:x.length=l.length:=h.perm.length_eq;have h1:a+k<x.length:=by omega
 have h2:b+k<x.length:=by omega
 refine⟨(rm h1 h2).trans h.perm,fun q hq=>?_⟩;rw[ya h1 h2];by_cases c1:q=b+k
 ·rw[if_pos c1,h.at_ _ (by omega)];congr 1;unfold sw;grind
 ·rw[if_neg c1];by_cases c2:q=a+k
  ·rw[if_pos c2,h.at_ _ (by omega)];congr 1;unfold sw;grind
  ·rw[if_neg c2,h.at_ _ (by omega)];congr 1;unfold sw;grind
theorem SwP.done(h:SwP l x a b k)(hk:k=m):SwP l x a b m:=hk▸h
def ro(a m b i:Nat):Nat:=if a≤i∧i<a+(b-m)then i-a+m else if a+(b-m)≤i∧i<b then i-(b-m)else i
structure RoP(l x:List α)(a m b:Nat):Prop where
 perm:x.Perm l
 at_:∀q,q<l.length→gD x q=gD l (ro a m b q)
theorem RoP.len(h:RoP l x a m b):x.length=l.length:=h.perm.length_eq
theorem RoP.cast{p q r:Nat}(h:RoP l x p q r)(hp:p=a)(hq:q=m)(hr:r=b):RoP l x a m b:=by simp_all
structure RoI(l x:List α)(a m b i j:Nat):Prop where
 perm:x.Perm l
 i0:0<i
 j0:0<j
 im:i≤m
 jn:m+j≤l.length
 at_:∀q,q<l.length→gD x (ro (m-i) m (m+j) q)=gD l (ro a m b q)
theorem RoI.len(h:RoI l x a m b i j):x.length=l.length:=h.perm.length_eq
theorem RoI.start(ha:a<m)(hm:m<b)(hb:b≤l.length)(hi:i=m-a)(hj:j=b-m):RoI l l a m b i j:=by
 subst hi hj;refine⟨.refl _,by omega,by omega,by omega,by omega,fun q _=>?_⟩;grind
theorem Wk(ham:a≤m)(hmb:m≤b)(hb:b≤n)(hi:i<n):ro a m b i<n:=by grind[ro]
theorem RoI.left{p q r:Nat}(h:RoI l x a m b i j)(hs:SwP x y p q r)(hp:p=m-i)(hq:q=m)(hr:r=j)(hij:j<i)(hk:k=i-j):RoI l y a m b k j:=by
 subst hk;subst hp;have hq:=hq.symm;subst hq;have hr:=hr.symm;subst hr;have hi:=h.im;have hj:=h.jn;have h0:=h.j0;refine⟨hs.perm.trans h.perm,by omega,h0,by omega,hj,fun q hq=>?_⟩;rw[hs.at_ _ (by rw[h.len];simp_all[Wk]),←h.at_ q hq];congr 1;unfold sw ro;grind
theorem RoI.right{p q r:Nat}(h:RoI l x a m b i j)(hs:SwP x y p q r)(hp:p=m-i)(hq:q=m+j-i)(hr:r=i)(hij:i<j)(hk:k=j-i):RoI l y a m b i k:=by
 subst hk;subst hp;have hq:=hq.symm;subst hq;have hr:=hr.symm;subst hr;have hi:=h.im;have hj:=h.jn;have h0:=h.i0;refine⟨hs.perm.trans h.perm,h0,by omega,hi,by omega,fun q hq=>?_⟩;rw[hs.at_ _ (by rw[h.len];exact Wk (by omega) (by omega) (by omega) hq),←h.at_ q hq];congr 1;unfold sw ro;by_cases c1:m-i≤q∧q<m-i+(m+(j-i)-m)
 ·grind
 ·rw[if_neg c1];by_cases c2:m-i+(m+(j-i)-m)≤q∧q<m+(j-i)
  ·grind
  ·rw[if_neg c2];grind
theorem RoI.stop{p q r:Nat}(h:RoI l x a m b i j)(hs:SwP x y p q r)(hp:p=m-i)(hq:q=m)(hr:r=i)(hij:i=j):RoP l y a m b:=by
 subst hij;subst hp;have hq:=hq.symm;subst hq;have hr:=hr.symm;subst hr;have hi:=h.im;have hj:=h.jn;refine⟨hs.perm.trans h.perm,fun q hq=>?_⟩;rw[hs.at_ _ (by rw[h.len];omega),←h.at_ q hq];congr 1;unfold sw ro;grind
theorem RoP.none(h:m≤a∨b≤m)(ham:a≤m)(hmb:m≤b):RoP l l a m b:=⟨.refl _,fun q _=>by
 congr 1;unfold ro;grind⟩
structure FstI(lt:α→α→Bool)(l:List α)(a m b i j:Nat):Prop where
 mi:m≤i
 ij:i≤j
 jb:j≤b
 lo:∀q,m≤q→q<i→lt (gD l q) (gD l a)=true
 hi:∀q,j≤q→q<b→lt (gD l q) (gD l a)=false
theorem FstI.start(h:m≤b):FstI lt l a m b m b:=⟨by omega,by omega,by omega,fun q _ _=>by omega,fun q _ _=>by omega⟩
theorem FstI.more(T:TotB lt)(h:FstI lt l a m b i j)(hs:dm lt l m b)(hl:lt (gD l k) (gD l a)=true)(h1:i≤k)(h2:k<j)(hk:e=k+1):FstI lt l a m b e j:=by
 subst hk;have:=h.mi;have:=h.jb;refine⟨by omega,by omega,h.jb,fun q q1 q2=>?_,h.hi⟩;exact T.down (hs.le T q1 (by omega) (by omega)) hl
theorem FstI.less(T:TotB lt)(h:FstI lt l a m b i j)(hs:dm lt l m b)(hl:lt (gD l k) (gD l a)=false)(h1:i≤k)(h2:k<j):FstI lt l a m b i k:=by
 have:=h.mi;have:=h.jb;refine⟨h.mi,by omega,by omega,h.lo,fun q q1 q2=>?_⟩;exact T.trans _ _ _ hl (hs.le T (by omega) q1 q2)
structure UpI(l x:List α)(a k:Nat):Prop where
 perm:x.Perm l
 at_:∀q,q<l.length→gD x q=gD l (if a≤q∧q<k then q+1 else if q=k then a else q)
theorem UpI.len(h:UpI l x a k):x.length=l.length:=h.perm.length_eq
theorem UpI.start:UpI l l a a:=⟨.refl _,fun q _=>by grind⟩
theorem UpI.step(h:UpI l x a k)(hk:a≤k)(hn:k+1<l.length)(he:e=k+1):UpI l ((x.set k (gD x e)).set e (gD x k)) a e:=by
 subst he;have hx:=h.len;have h1:k<x.length:=by omega
 have h2:k+1<x.length:=by omega
 refine⟨(rm h1 h2).trans h.perm,fun q hq=>?_⟩;rw[ya h1 h2];by_cases c1:q=k+1
 ·rw[if_pos c1,h.at_ _ (by omega),if_neg (by omega),if_pos rfl,if_neg (by omega),if_pos c1]
 ·rw[if_neg c1];by_cases c2:q=k
  ·rw[if_pos c2,h.at_ _ (by omega),if_neg (by omega),if_neg (by omega),if_pos (by omega),c2]
  ·rw[if_neg c2,h.at_ _ hq];grind
theorem UpI.stop(T:TotB lt)(h:UpI l x a k)(hf:FstI lt l a m b i j)(hs:dm lt l m b)(hma:m=a+1)(hij:j≤i)(hk:k+1=i)(hb:b≤l.length):SSeg lt l x a b:=by
 have q1:=hf.mi;have q2:=hf.ij;have q3:=hf.jb;refine⟨h.perm,fun q hq=>?_,fun q h1 h2=>?_,fun p q h1 h2 h3=>?_⟩
 ·rcases fu q l.length with c|c
  ·rw[h.at_ q c,if_neg (by omega),if_neg (by omega)]
  ·rw[wx (by rw[h.len];omega),wx c]
 ·rw[h.at_ q (by omega)];grind
 ·rw[h.at_ p (by omega),h.at_ q (by omega)];by_cases c1:p<k
  ·rw[if_pos (show a≤p∧p<k by omega)];by_cases c2:q<k
   ·rw[if_pos (show a≤q∧q<k by omega)];exact hs _ _ (by omega) (by omega) (by omega)
   ·rw[if_neg (show ¬(a≤q∧q<k) by omega)];by_cases c3:q=k
    ·grind[cases TotB,cases FstI]
    ·grind[cases TotB,cases FstI]
  ·rw[if_neg (show ¬(a≤p∧p<k) by omega),if_neg (show ¬(a≤q∧q<k) by omega),if_neg (show ¬q=k by omega)];by_cases c3:p=k
   ·rw[if_pos c3];exact hf.hi _ (by omega) (by omega)
   ·rw[if_neg c3];exact hs _ _ (by omega) (by omega) (by omega)
structure LstI(lt:α→α→Bool)(l:List α)(a m i j:Nat):Prop where
 ai:a≤i
 ij:i≤j
 jm:j≤m
 lo:∀q,a≤q→q<i→lt (gD l m) (gD l q)=false
 hi:∀q,j≤q→q<m→lt (gD l m) (gD l q)=true
theorem LstI.start(h:a≤m):LstI lt l a m a m:=⟨by omega,by omega,by omega,fun q _ _=>by omega,fun q _ _=>by omega⟩
theorem LstI.more(T:TotB lt)(h:LstI lt l a m i j)(hs:dm lt l a m)(hl:lt (gD l m) (gD l k)=false)(h1:i≤k)(h2:k<j)(hk:e=k+1):LstI lt l a m e j:=by
 subst hk;have:=h.ai;have:=h.jm;refine⟨by omega,by omega,h.jm,fun q q1 q2=>?_,h.hi⟩;exact T.trans _ _ _ (hs.le T q1 (by omega) (by omega)) hl
theorem LstI.less(T:TotB lt)(h:LstI lt l a m i j)(hs:dm lt l a m)(hl:lt (gD l m) (gD l k)=true)(h1:i≤k)(h2:k<j):LstI lt l a m i k:=by
 have:=h.ai;have:=h.jm;refine⟨h.ai,by omega,by omega,h.lo,fun q q1 q2=>?_⟩;exact T.up hl (hs.le T (by omega) q1 q2)
structure DnI(l x:List α)(m k:Nat):Prop where
 perm:x.Perm l
 at_:∀q,q<l.length→gD x q=gD l (if k<q∧q≤m then q-1 else if q=k then m else q)
theorem DnI.len(h:DnI l x m k):x.length=l.length:=h.perm.length_eq
theorem DnI.start:DnI l l m m:=⟨.refl _,fun q _=>by grind⟩
theorem DnI.step(h:DnI l x m k)(hk:k≤m)(hn:m<l.length)(he:e+1=k):DnI l ((x.set k (gD x e)).set e (gD x k)) m e:=by
 subst he;have hx:=h.len;have h1:e+1<x.length:=by omega
 have h2:e<x.length:=by omega
 refine⟨(rm h1 h2).trans h.perm,fun q hq=>?_⟩;rw[ya h1 h2];by_cases c1:q=e
 ·rw[if_pos c1,h.at_ _ (by omega),if_neg (by omega),if_pos rfl,if_neg (by omega),if_pos c1]
 ·rw[if_neg c1];by_cases c2:q=e+1
  ·rw[if_pos c2,h.at_ _ (by omega),if_neg (by omega),if_neg (by omega),if_pos (by omega)];simp_all
  ·rw[if_neg c2,h.at_ _ hq];grind
theorem DnI.stop(T:TotB lt)(h:DnI l x m k)(hf:LstI lt l a m i j)(hs:dm lt l a m)(hmb:b=m+1)(hij:j≤i)(hk:k=i)(hb:b≤l.length):SSeg lt l x a b:=by
 have q1:=hf.ai;have q2:=hf.ij;have q3:=hf.jm;refine⟨h.perm,fun q hq=>?_,fun q h1 h2=>?_,fun p q h1 h2 h3=>?_⟩
 ·rcases fu q l.length with c|c
  ·rw[h.at_ q c,if_neg (by omega),if_neg (by omega)]
  ·rw[wx (by rw[h.len];omega),wx c]
 ·rw[h.at_ q (by omega)];grind
 ·rw[h.at_ p (by omega),h.at_ q (by omega)];by_cases c1:q≤k
  ·rw[if_neg (show ¬(k<q∧q≤m) by omega),if_neg (show ¬(k<p∧p≤m) by omega),if_neg (show ¬p=k by omega)];by_cases c3:q=k
   ·rw[if_pos c3];exact hf.lo _ h1 (by omega)
   ·rw[if_neg c3];exact hs _ _ h1 h2 (by omega)
  ·rw[if_pos (show k<q∧q≤m by omega)];by_cases c2:k<p
   ·rw[if_pos (show k<p∧p≤m by omega)];exact hs _ _ (by omega) (by omega) (by omega)
   ·rw[if_neg (show ¬(k<p∧p≤m) by omega)];by_cases c3:p=k
    ·grind[cases TotB,cases LstI]
    ·rw[if_neg c3];exact hs _ _ h1 (by omega) (by omega)
structure CutI(lt:α→α→Bool)(l:List α)(lo hi p i j:Nat):Prop where
 li:lo≤i
 ij:i≤j
 jh:j≤hi
 low:∀c,lo≤c→c<i→lt (gD l (p-c)) (gD l c)=false
 high:∀c,j≤c→c<hi→lt (gD l (p-c)) (gD l c)=true
variable{lo hi:Nat}
theorem CutI.start(h:lo≤hi):CutI lt l lo hi p lo hi:=⟨by omega,by omega,by omega,fun q _ _=>by omega,fun q _ _=>by omega⟩
theorem CutI.more(T:TotB lt)(h:CutI lt l lo hi p i j)(hA:dm lt l a m)(hB:dm lt l m b)(hl:lt (gD l s) (gD l k)=false)(b1:a≤lo)(b2:hi≤m)(b3:m+hi≤p+1)(b4:p<b+lo)(h1:i≤k)(h2:k<j)(hk:e=k+1)(hs:s=p-k):CutI lt l lo hi p e j:=by
 subst hk hs;have:=h.li;have:=h.jh;refine⟨by omega,by omega,h.jh,fun c c1 c2=>?_,h.high⟩;exact T.trans _ _ _ (hA.le T (i:=c) (j:=k) (by omega) (by omega) (by omega)) (T.trans _ _ _ hl (hB.le T (i:=p-k) (j:=p-c) (by omega) (by omega) (by omega)))
theorem CutI.less(T:TotB lt)(h:CutI lt l lo hi p i j)(hA:dm lt l a m)(hB:dm lt l m b)(hl:lt (gD l s) (gD l k)=true)(b1:a≤lo)(b2:hi≤m)(b3:m+hi≤p+1)(b4:p<b+lo)(h1:i≤k)(h2:k<j)(hs:s=p-k):CutI lt l lo hi p i k:=by
 subst hs;have:=h.li;have:=h.jh;refine⟨h.li,by omega,by omega,h.low,fun c c1 c2=>?_⟩;exact T.down (hB.le T (i:=p-c) (j:=p-k) (by omega) (by omega) (by omega)) (T.up hl (hA.le T (i:=k) (j:=c) (by omega) (by omega) (by omega)))
theorem Oi(T:TotB lt)(h:CutI lt l lo hi p s s)(hA:dm lt l a m)(hB:dm lt l m b)(hr:RoP l y s m e)(hab:b≤l.length)
  (d1:d+m=p+1)(e1:e+s=p+1)(f1:a≤s)(f2:s≤m)(f3:m≤e)(f4:e≤b)(f5:lo<s∨s=a∨e=b)(f6:s<hi∨s=m∨e=m):
  ∀i j,a≤i→i<d→d≤j→j<b→lt (gD y j) (gD y i)=false:=by
 intro i j h1 h2 h3 h4;rw[hr.at_ i (by omega),hr.at_ j (by omega)];unfold ro;by_cases c1:i<s
 ·rw[if_neg (show ¬(s≤i∧i<s+(e-m)) by omega),if_neg (show ¬(s+(e-m)≤i∧i<e) by omega)];rw[if_neg (show ¬(s≤j∧j<s+(e-m)) by omega)];by_cases c2:j<e
  ·rw[if_pos (show s+(e-m)≤j∧j<e by omega)];exact hA.le T h1 (by omega) (by omega)
  ·rw[if_neg (show ¬(s+(e-m)≤j∧j<e) by omega)];have hc:=h.low (s-1) (by omega) (by omega);rw[show p-(s-1)=e by omega]at hc;exact T.trans _ _ _ (hA.le T (i:=i) (j:=s-1) h1 (by omega) (by omega)) (T.trans _ _ _ hc (hB.le T (i:=e) (j:=j) (by omega) (by omega) h4))
 ·rw[if_pos (show s≤i∧i<s+(e-m) by omega),if_neg (show ¬(s≤j∧j<s+(e-m)) by omega)];by_cases c2:j<e
  ·rw[if_pos (show s+(e-m)≤j∧j<e by omega)];have hc:=h.high s (by omega) (by omega);rw[show p-s=e-1 by omega]at hc;refine T.asym _ _ (T.up (T.down (hB.le T (i:=i-s+m) (j:=e-1) (by omega) (by omega) (by omega)) hc) (hA.le T (i:=s) (j:=j-(e-m)) (by omega) (by omega) (by omega)))
  ·rw[if_neg (show ¬(s+(e-m)≤j∧j<e) by omega)];exact hB.le T (by omega) (by omega) h4
theorem RoP.left(hr:RoP l y s m e)(hA:dm lt l a m)(f2:s≤m)(f3:m≤e)(f4:e≤l.length):dm lt y a s:=fun i j h1 h2 h3=>by
 rw[hr.at_ i (by omega),hr.at_ j (by omega)];unfold ro;rw[if_neg (by omega),if_neg (by omega),if_neg (by omega),if_neg (by omega)];exact hA i j h1 h2 (by omega)
theorem RoP.mid1(hr:RoP l y s m e)(hB:dm lt l m b)(f3:m≤e)(f4:e≤b)(f2:s≤m)(hb:b≤l.length)(hd:d=s+(e-m)):dm lt y s d:=fun i j h1 h2 h3=>by
 rw[hr.at_ i (by omega),hr.at_ j (by omega)];unfold ro;rw[if_pos (by omega),if_pos (by omega)];exact hB _ _ (by omega) (by omega) (by omega)
theorem RoP.mid2(hr:RoP l y s m e)(hA:dm lt l a m)(f1:a≤s)(f2:s≤m)(f3:m≤e)(f4:e≤l.length)(hd:d=s+(e-m)):dm lt y d e:=fun i j h1 h2 h3=>by
 rw[hr.at_ i (by omega),hr.at_ j (by omega)];unfold ro;rw[if_neg (by omega),if_pos (by omega),if_neg (by omega),if_pos (by omega)];exact hA _ _ (by omega) (by omega) (by omega)
theorem RoP.right(hr:RoP l y s m e)(hB:dm lt l m b)(f2:s≤m)(f3:m≤e)(hb:b≤l.length):dm lt y e b:=fun i j h1 h2 h3=>by
 rw[hr.at_ i (by omega),hr.at_ j (by omega)];unfold ro;rw[if_neg (by omega),if_neg (by omega),if_neg (by omega),if_neg (by omega)];exact hB i j (by omega) h2 h3
theorem RoP.lower(hr:RoP l y s m e)(hA:dm lt l a m)(hB:dm lt l m b)(hd:d+m=s+e)(h:s≤a∨d≤s)(f1:a≤s)(f2:s≤m)(f3:m≤e)(f4:e≤b)(hb:b≤l.length):dm lt y a d:=by
 rcases h with h|h
 ·have:=hr.mid1 hB f3 f4 f2 hb (d:=d) (by omega);grind
 ·have:=hr.left hA f2 f3 (by omega);grind
theorem RoP.upper(hr:RoP l y s m e)(hA:dm lt l a m)(hB:dm lt l m b)(hd:d+m=s+e)(h:b≤e∨e≤d)(f1:a≤s)(f2:s≤m)(f3:m≤e)(f4:e≤b)(hb:b≤l.length):dm lt y d b:=by
 rcases h with h|h
 ·have:=hr.mid2 hA f1 f2 f3 (by omega) (d:=d) (by omega);grind
 ·have:=hr.right hB f2 f3 hb;grind
theorem XD(hr:RoP l y s m e)(hz:SSeg lt y z a d)(hw:SSeg lt z w d b)(had:a≤d)(hdb:d≤b)(hb:b≤l.length)(f1:a≤s)(f2:s≤m)(f3:m≤e)(f4:e≤b)
  (hx:∀i j,a≤i→i<d→d≤j→j<b→lt (gD y j) (gD y i)=false):SSeg lt l w a b:=by
 have hro:∀q,a≤q→q<b→a≤ro s m e q∧ro s m e q<b:=fun q h1 h2=>by grind[ro]
 have hy:∀q,q<a∨b≤q→gD y q=gD l q:=fun q hq=>by
  rcases fu q l.length with c|c
  ·rw[hr.at_ q c];congr 1;unfold ro;grind
  ·rw[wx (by rw[hr.len];omega),wx c]
 refine⟨hw.perm.trans (hz.perm.trans hr.perm),fun q hq=>?_,fun q h1 h2=>?_,fun i j h1 h2 h3=>?_⟩
 ·grind[cases SSeg]
 ·rcases fu q d with c|c
  ·obtain⟨j,j1,j2,j3⟩:=hz.src q h1 c;have:=hro j j1 (by omega);exact⟨_,this.1,this.2,by rw[hw.out q (.inl c),j3,hr.at_ j (by omega)]⟩
  ·obtain⟨j,j1,j2,j3⟩:=hw.src q c h2;have:=hro j (by omega) j2;exact⟨_,this.1,this.2,by rw[j3,hz.out j (.inr j1),hr.at_ j (by omega)]⟩
 ·rcases fu j d with c|c
  ·rw[hw.out i (.inl (by omega)),hw.out j (.inl c)];exact hz.srt i j h1 h2 c
  ·rcases fu i d with c2|c2
   ·obtain⟨i',i1,i2,i3⟩:=hz.src i h1 c2;obtain⟨j',j1,j2,j3⟩:=hw.src j c h3;rw[hw.out i (.inl c2),i3,j3,hz.out j' (.inr j1)];simp_all
   ·exact hw.srt i j c2 h2 h3
theorem wX(T:TotB lt)(h:CutI lt l lo hi p i s)(hA:dm lt l a m)(hB:dm lt l m b)(hr:RoP l y i m e)(hz:SSeg lt y z a d)(hw:SSeg lt z w d b)(his:s≤i)(hd:d+m=p+1)(he:e+i=p+1)(had:a≤d)(hdb:d≤b)(hb:b≤l.length)(f1:a≤i)(f2:i≤m)(f3:m≤e)(f4:e≤b)(f5:lo<i∨i=a∨e=b)(f6:i<hi∨i=m∨e=m):SSeg lt l w a b:=by
 have:i=s:=Nat.le_antisymm h.ij his;grind[XD,Oi]
theorem SSeg.keep(h:SSeg lt l x a b)(hs:dm lt l i j)(hd:j≤a∨b≤i):dm lt x i j:=fun p q h1 h2 h3=>by rw[h.out p (by omega),h.out q (by omega)];exact hs p q h1 h2 h3
def PK(lt:α→α→Bool)(x:List α)(s n:Nat):Prop:=∀c,dm lt x (c*s) (min ((c+1)*s) n)
theorem sQ{t c d:Nat}(h:a=d*t):(c+1)*t≤a∨c=d∨a+t≤c*t:=by
 subst h;rcases Nat.lt_trichotomy c d with q|q|q
 ·exact .inl (eu _ q)
 ·omega
 ·refine .inr (.inr ?_);have:=eu t q;grind
structure BlkA(lt:α→α→Bool)(l x:List α)(s a:Nat):Prop where
 perm:x.Perm l
 dv:∃c,a=c*s
 ok:∀c,dm lt x (c*s) (min ((c+1)*s) a)
theorem BlkA.len(h:BlkA lt l x s a):x.length=l.length:=h.perm.length_eq
theorem BlkA.start:BlkA lt l l s 0:=⟨.refl _,⟨0,by omega⟩,fun c=>dm.nil (by omega)⟩
theorem BlkA.step(h:BlkA lt l x s a)(hy:SSeg lt x y a b)(hb:b=a+s):BlkA lt l y s b:=by
 obtain⟨d,hd⟩:=h.dv;subst hb;refine⟨hy.perm.trans h.perm,⟨d+1,by grind⟩,fun c=>?_⟩;rcases sQ (c:=c) hd with q|q|q
 ·have:=h.ok c;rw[show min ((c+1)*s) a=(c+1)*s by omega]at this;rw[show min ((c+1)*s) (a+s)=(c+1)*s by omega];exact hy.keep this (.inl q)
 all_goals grind[dm.nil,cases SSeg]
theorem BlkA.last(h:BlkA lt l x s a)(hy:SSeg lt x y a n)(hn:n<a+s)(ha:a≤n):y.Perm l∧PK lt y s n:=by
 obtain⟨d,hd⟩:=h.dv;refine⟨hy.perm.trans h.perm,fun c=>?_⟩;rcases sQ (c:=c) hd with q|q|q
 ·have:=h.ok c;rw[show min ((c+1)*s) a=(c+1)*s by omega]at this;rw[show min ((c+1)*s) n=(c+1)*s by omega];exact hy.keep this (.inl q)
 all_goals grind[dm.nil,cases SSeg]
structure BlkB(lt:α→α→Bool)(l x:List α)(s a n:Nat):Prop where
 perm:x.Perm l
 dv:∃c,a=c*(2*s)
 ok:∀c,dm lt x (c*(2*s)) (min ((c+1)*(2*s)) a)
 rest:∀c,a≤c*s→dm lt x (c*s) (min ((c+1)*s) n)
theorem BlkB.len(h:BlkB lt l x s a n):x.length=l.length:=h.perm.length_eq
theorem BlkB.start(h:x.Perm l∧PK lt x s n):BlkB lt l x s 0 n:=⟨h.1,⟨0,by omega⟩,fun c=>dm.nil (by omega),fun c _=>h.2 c⟩
theorem BlkB.pre1(h:BlkB lt l x s a n)(hm:m=a+s)(hn:m≤n):dm lt x a m:=by
 obtain⟨d,hd⟩:=h.dv;have e:a=(d*2)*s:=by grind
 have:=h.rest (d*2) (by omega);grind
theorem BlkB.pre2(h:BlkB lt l x s a n)(hm:m=a+s)(hb:b≤m+s)(hn:b≤n):dm lt x m b:=by
 obtain⟨d,hd⟩:=h.dv;have e:a=(d*2)*s:=by grind
 have e2:m=(d*2+1)*s:=by grind
 have:=h.rest (d*2+1) (by omega);rw[←e2,qa,←e2]at this;exact this.sub (aB _) (by omega)
theorem BlkB.step(h:BlkB lt l x s a n)(hy:SSeg lt x y a b)(hb:b=a+2*s):BlkB lt l y s b n:=by
 obtain⟨d,hd⟩:=h.dv;subst hb;refine⟨hy.perm.trans h.perm,⟨d+1,by grind⟩,fun c=>?_,fun c hc=>hy.keep (h.rest c (by omega)) (.inr hc)⟩;rcases sQ (c:=c) hd with q|q|q
 ·have:=h.ok c;rw[show min ((c+1)*(2*s)) a=(c+1)*(2*s) by omega]at this;rw[show min ((c+1)*(2*s)) (a+2*s)=(c+1)*(2*s) by omega];exact hy.keep this (.inl q)
 all_goals grind[dm.nil,cases SSeg]
theorem BlkB.last(h:BlkB lt l x s a n)(hy:SSeg lt x y a n)(hn:n<a+2*s)(ht:d=2*s)(ha:a≤n):y.Perm l∧PK lt y d n:=by
 subst ht;obtain⟨d,hd⟩:=h.dv;refine⟨hy.perm.trans h.perm,fun c=>?_⟩;rcases sQ (c:=c) hd with q|q|q
 ·have:=h.ok c;rw[show min ((c+1)*(2*s)) a=(c+1)*(2*s) by omega]at this;rw[show min ((c+1)*(2*s)) n=(c+1)*(2*s) by omega];exact hy.keep this (.inl q)
 all_goals grind[dm.nil,cases SSeg]
theorem BlkB.one(h:BlkB lt l x s a n)(hn:n≤a+s):SSeg lt x x a n:=by
 obtain⟨d,hd⟩:=h.dv;have e:a=(d*2)*s:=by grind
 have:=h.rest (d*2) (by omega);simp_all[qa,mr]
theorem PK.all(h:PK lt x s n)(hn:n≤s):dm lt x 0 n:=by
 have:=h 0;simp_all
theorem dm.pair:∀{x:List α},dm lt x 0 x.length→x.Pairwise fun u v=>lt v u=false
 |[],_=>.nil
 | u::r,h=>ji.2 ⟨fun v hv=>by
   obtain⟨i,hi,rfl⟩:=Fv hv;have:=h 0 (i+1) (by omega) (by omega) (by simp_all);have e:gD (u::r) (i+1)=r[i]:=by grind[gD]
   rw[e]at this;exact this,dm.pair fun i j _ h2 h3=>h (i+1) (j+1) (by omega) (by omega) (by simp_all)⟩
end
section
variable{α:Type}{lt:α→α→Bool}
theorem CL:∀{x y:List α},x.Pairwise (fun u v=>lt v u=false)→y.Pairwise (fun u v=>lt v u=false)→x.Perm y→(∀u v,u∈x→v∈x→lt u v=false→lt v u=false→u=v)→x=y
 |[],y,_,_,hp,_=>hp.nil_eq
 |u::r,[],_,_,hp,_=>by simp_all
 |u::r,v::t,hx,hy,hp,H=>by
  obtain⟨x1,x2⟩:=ji.1 hx;obtain⟨y1,y2⟩:=ji.1 hy;have hv:v∈u::r:=hp.mem_iff.2 (dI ..);have hu:u∈v::t:=hp.mem_iff.1 (dI ..);have e:u=v:=by grind
  subst e;rw[CL x2 y2 ((List.perm_cons u).1 hp) fun a b ha hb=>H a b (eW _ ha) (eW _ hb)]
def El(lt:α→α→Bool)(a:α):List α→List α
 |[]=>[a]
 |b::r=>match lt b a with|true=>b::El lt a r|false=>a::b::r
def P2(lt:α→α→Bool)(l:List α):List α:=l.foldl (fun o a=>El lt a o) []
theorem wU(a:α):∀(l:List α),(El lt a l).Perm (a::l)
 |[]=>.refl _
 |b::r=>by
  unfold El;cases lt b a with
  |true=>exact((wU a r).cons b).trans (.swap a b r)
  |false=>simp_all
theorem DW(T:TotB lt)(a:α):∀{l:List α},l.Pairwise (fun u v=>lt v u=false)→(El lt a l).Pairwise (fun u v=>lt v u=false)
 |[],_=>List.pairwise_singleton ..
 | b::r,h=>by
  obtain⟨h1,h2⟩:=ji.1 h;unfold El;cases q:lt b a with
  |true=>
   refine ji.2 ⟨fun v hv=>?_,DW T a h2⟩;grind[wU,cases TotB]
  |false=>
   refine ji.2 ⟨fun v hv=>?_,h⟩;grind[cases TotB]
theorem tP(T:TotB lt):∀(l o:List α),o.Pairwise (fun u v=>lt v u=false)→((l.foldl (fun o a=>El lt a o) o).Perm (o++l)∧(l.foldl (fun o a=>El lt a o) o).Pairwise fun u v=>lt v u=false)
 |[],o,h=>⟨by simp_all,h⟩
 |a::r,o,h=>by
  obtain⟨h1,h2⟩:=tP T r (El lt a o) (DW T a h);refine⟨h1.trans ?_,h2⟩;exact((wU a o).append_right r).trans (List.perm_middle.symm)
theorem zd(T:TotB lt)(l:List α):(P2 lt l).Perm l:=(tP T l [] .nil).1
theorem FP(T:TotB lt){l x:List α}(hp:x.Perm l)(hs:x.Pairwise fun u v=>lt v u=false)(H:∀u v,u∈l→v∈l→lt u v=false→lt v u=false→u=v):x=P2 lt l:=CL hs (tP T l [] .nil).2 (hp.trans (zd T l).symm) fun u v hu hv=>H u v (hp.mem_iff.1 hu) (hp.mem_iff.1 hv)
end
end Go.Ev
namespace Go.Ev
open Go
def Au(d:Int)(s:PSpan):Bool:=ak (aF d 0)&&(ak (aF 1048576 d)&&(ak (aF d s.from_)&&aF d s.to))
def HJ(l:List PSpan)(d:Int):Bool:=l.any (Au d)
theorem Be(a b:Int):ak (aF a b)=decide (b≤a):=by
 cases h:aF a b with
 |true=>grind[ar]
 |false=>simp_all[aG]
theorem Uu(a b:Int):aF a b=decide (a<b):=by
 cases h:aF a b with
 |true=>simp_all[ar]
 |false=>simp_all[aG]
theorem L4:∀(l:List PSpan)(d:Int),HJ l d=(Fw d&&memB l d)
 |[],d=>by simp[HJ,memB]
 | s::r,d=>by
  have ih:=L4 r d;have e:HJ (s::r) d=(Au d s||HJ r d):=rfl;rw[e,ih,eZ];have e2:Au d s=(Fw d&&decide (s.from_≤d∧d<s.to)):=by
   unfold Au Fw;rw[Be,Be,Be,Uu,xI];grind
  grind
structure PtsI(l:List Int):Prop where
 rise:l.Pairwise (· < ·)
 zero:0∈l
 ok:∀z,z∈l→0≤z∧z≤1048576
def bnd(P:List Int)(i:Nat):Int:=bif Nat.blt i P.length then gD P i else 1048577
structure BothI(g:Int→Bool)(P:List Int)(out:List PSpan)(i:Nat):Prop where
 nrm:NrmS out
 mem:∀d,memB out d=(decide (0≤d∧d<bnd P i)&&g d)
 to:∀s,s∈out→s.to≤bnd P i
section
variable{g:Int→Bool}{P:List Int}{out:List PSpan}{i:Nat}
end
end Go.Ev
namespace Go.Ev
open Go
theorem VRel.unren{ρ:Nat→Nat}{n:Nat}{pl pl2:Pl}{M:dt}{v:AV}{x:Value}(h:VRel pl2 M v x)(hp:∀id p,id<n→pl2 id=some p→pl (ρ id)=some p)(ht:v.top≤n):VRel pl M (Ev.ren ρ v) x:=by
 have gt:∀{xs:List AV}{i:Nat}{z:AV},(xs.map (Ev.ren ρ))[i]?=some z→∃y,xs[i]?=some y∧z=Ev.ren ρ y:=by grind
 have tp:∀{xs:List AV}{i j:Nat}{z y:AV},az xs≤n→xs[i]?=some z→z.cells[j]?=some y→y.top≤n:=by
  intro xs i j x y h1 h2 h3;exact lV (dB.1 h1 x (bm h2)) (bm h3)
 have sc:∀{xs:List AV}{sz:Nat},(∀x,x∈xs→x.cells.length=sz∧Sc x)→∀x,x∈xs.map (Ev.ren ρ)→x.cells.length=sz∧Sc x:=by
  intro xs sz h x hx;obtain⟨y,hy,rfl⟩:=ku.1 hx;obtain⟨h1,h2⟩:=h y hy;rw[gQ];refine⟨by simp_all,fun u hu=>?_⟩;rw[gQ]at hu;obtain⟨z,hz,rfl⟩:=ku.1 hu;rw[oX];exact h2 z hz
 have cel:∀{xs:List AV}{c:Array Value}{o sz:Nat},az xs≤n→(∀i x j y,xs[i]?=some x→x.cells[j]?=some y→y.top≤n→VRel pl M (Ev.ren ρ y) (c.getD (o+i*sz+j) undef))→
   ∀i x j y,(xs.map (Ev.ren ρ))[i]?=some x→x.cells[j]?=some y→VRel pl M y (c.getD (o+i*sz+j) undef):=by
  intro xs c o sz ht h i x j y h1 h2;obtain⟨x0,e1,rfl⟩:=gt h1;rw[gQ]at h2;grind
 induction h with
 |bool b=>exact .bool b
 |int k n=>exact .int k n
 |str s=>exact .str s
 |nilp=>exact .nilp
 |ptr h1 h2 h3=>simp only[AV.top]at ht;exact .ptr (hp _ _ (by omega) h1) h2 h3
 |pptr hm hs hi hc ih=>
  simp only[AV.top]at ht;simp only[Ev.ren,fX];exact .pptr ⟨hm.1,hm.2.1,by simp_all,hm.2.2.2⟩ (sc hs) (by simp_all) (cel ht fun i x j y h1 h2 h3=>ih i x j y h1 h2 h3)
 |nils=>exact .nils
 |slice h1 h2 h3 h4 h5=>simp only[AV.top]at ht;exact .slice (hp _ _ (by omega) h1) h2 h3 h4 h5
 |sl0n _ ih=>exact .sl0n (ih (bL _))
 |sl0s _ ih=>exact .sl0s (ih ht)
 |ps hl ht' hm hs hc ih=>
  simp only[AV.top]at ht;simp only[Ev.ren,fX];have:=VRel.ps (pl:=pl) (xs:=_) (by simpa using hl) (by simpa using ht') (by simp_all) (sc hs) (cel ht fun i x j y h1 h2 h3=>ih i x j y h1 h2 h3);simp_all
 |lsn=>exact .lsn
 |lsp h ht0 ih=>
  have:=ih (by grind[AV.top]);simp only[Ev.ren,eS ρ _ ht0]at this;exact .lsp this ht0
 |nilm=>exact .nilm
 |map h1 h2=>simp only[AV.top]at ht;exact .map (hp _ _ (by omega) h1) h2
 |func h1 h2 _ _ ih1 ih2=>
  simp only[AV.top,qG]at ht;simp only[Ev.ren,fX];refine .func (by simp_all) (by simp_all) (fun j y hj=>?_) (fun j y hj=>?_)
  ·obtain⟨z,e,rfl⟩:=gt hj;exact ih1 j z e (dB.1 ht.1 z (bm e))
  ·obtain⟨z,e,rfl⟩:=gt hj;exact ih2 j z e (dB.1 ht.2 z (bm e))
 |nilf=>exact .nilf
 |iface _ ih=>simp only[AV.top]at ht;exact .iface (ih ht)
 |nili=>exact .nili
 |agg h1 h2 _ ih=>
  simp only[AV.top]at ht;simp only[Ev.ren,fX];refine .agg (by simp_all) (fun y hy=>?_) (fun j y hj=>?_)
  ·grind[oX]
  ·obtain⟨z,e,rfl⟩:=gt hj;exact ih j z e (dB.1 ht z (bm e))
 |tuple h1 _ ih=>
  simp only[AV.top]at ht;simp only[Ev.ren,fX];refine .tuple (by simp_all) (fun j y hj=>?_);obtain⟨z,e,rfl⟩:=gt hj;exact ih j z e (dB.1 ht z (bm e))
def ep0:AObj→Bool
 | .row _ _ e _=>Nat.beq e 0
 | .map _ _=>true
 |_=>false
theorem bA.ep0{pl:Pl}{M:dt}{p:Place}{o:AObj}{x:Option Obj}(h:bA pl M p o x)(he:Ev.ep0 o=true):p.ep=0:=by
 match o,x with
 | .row sz op ep xs,some (.cells c t fr)=>rw[h.1];exact pC he
 | .map es clock,some (.map entries clock')=>exact h.1
theorem Va{ρ:Nat→Nat}{o:AObj}:ep0 (kq ρ o)=ep0 o:=by cases o<;>rfl
theorem bA.unren{ρ:Nat→Nat}{n:Nat}{pl pl2:Pl}{M:dt}{o:AObj}{p:Place}{x:Option Obj}(h:bA pl2 M p o x)(he:Ev.ep0 o=true)(hp:∀id p,id<n→pl2 id=some p→pl (ρ id)=some p)(ht:o.top≤n):bA pl M p (kq ρ o) x:=by
 match o,x with
 | .row sz op ep xs,some (.cells c t fr)=>
  obtain⟨h1,h2,h3,h4,h5,h6,h7,h8⟩:=h;simp only[AObj.top]at ht;have gt:∀{xs:List AV}{i:Nat}{z:AV},(xs.map (Ev.ren ρ))[i]?=some z→∃y,xs[i]?=some y∧z=Ev.ren ρ y:=by grind
  simp only[kq,fX];refine⟨h1,h2,by simp_all,h4,h5,h6,by simp_all,⟨by simpa using h8.fit,fun y hy=>?_,fun i z j y k1 k2=>?_⟩⟩
  ·obtain⟨z,hz,rfl⟩:=ku.1 hy;obtain⟨q1,q2⟩:=h8.elem z hz;rw[gQ];refine⟨by simp_all,fun u hu=>?_⟩;rw[gQ]at hu;obtain⟨z,hz,rfl⟩:=ku.1 hu;rw[oX];exact q2 z hz
  ·obtain⟨z0,e1,rfl⟩:=gt k1;rw[gQ]at k2;obtain⟨y0,e2,rfl⟩:=gt k2;exact(h8.cell i z0 j y0 e1 e2).unren hp (lV (dB.1 ht z0 (bm e1)) (bm e2))
 | .map es clock,some (.map entries clock')=>
  obtain⟨h1,h2,h3,h4⟩:=h;simp only[AObj.top]at ht;simp only[kq,qt];refine⟨h1,h2,by simp_all,fun i e hi=>?_⟩;rw[qv]at hi;cases hx:es[i]? with
  |none=>grind
  |some e0=>
   rw[hx]at hi;cases hi
   obtain⟨e',k1,k2,k3,k4⟩:=h4 i e0 hx;have:=ph.1 ht e0 (bm hx);exact⟨e',k1,k2.unren hp this.1,k3.unren hp this.2,k4⟩
theorem aL.frame{P:Program}{G:eC}(hG:jW G){f:FuncId}{args:List AV}{v:AV}(ρ:Nat→Nat){L L':List AObj}(hl:L'.length=L.length)
  (hL:∀o,o∈L→ep0 o=true∧o.top≤L.length)(hL':∀o,o∈L'→ep0 o=true∧o.top≤L.length)(hm:∀i o,L'[i]?=some o→(ab L').get i=some o)(ht:az args≤L.length)(hv:v.top≤L.length)
  (hi:∀i j,i<L.length→j<L.length→ρ i=ρ j→i=j)
  (h0:aL P G f args (ab L) (fun v1 h1=>v1=v∧h1=ab L')){h h':AHeap}(hg:∀i o,L[i]?=some o→h.get (ρ i)=some (kq ρ o))
  (hg':∀k o,h'.get k=some o→(∃i o',L'[i]?=some o'∧k=ρ i∧o=kq ρ o')∨((∀i,i<L.length→k≠ρ i)∧h.get k=some o))(hn:h'.n=h.n):
  aL P G f (mQ ρ args) h (fun v1 h1=>v1=Ev.ren ρ v∧h1=h'):=by
 intro pl M w vs hG1 hr hvs;obtain⟨n,en⟩:∃n,n=L.length:=⟨_,rfl⟩
 rw[←en]at hL hL' ht hi hg' hv;have hat:∀i,i<n→∃o,L[i]?=some o∧o∈L:=fun i h=>⟨L[i],lw (by omega),DI _⟩
 have hat':∀i,i<n→∃o,L'[i]?=some o∧o∈L':=fun i h=>⟨L'[i]'(by omega),lw (by omega),DI _⟩
 have hpl1:∀k q,jT ρ n pl k=some q→k<n∧pl (ρ k)=some q:=fun k q hk=>by grind[jT]
 have hnH:(ab L).n=n:=en.symm;have hnH':(ab L').n=n:=hl.trans en.symm;have hr1:cG (jT ρ n pl) M (ab L) w:=by
  refine⟨fun k q hk=>?_,fun k q o hk hgo=>?_,fun k q hk=>?_,fun k k' q q' hk hk' e=>?_,hr.imm,fun k q hk=>?_⟩
  ·simp_all
  ·obtain⟨hk1,hk2⟩:=hpl1 k q hk;have:=np hgo;exact(hr.obj (ρ k) q _ hk2 (hg k o this)).ren (hL o (bm this)).2
  ·exact hr.blk _ q (hpl1 k q hk).2
  ·obtain⟨a1,a2⟩:=hpl1 k q hk;obtain⟨b1,b2⟩:=hpl1 k' q' hk';exact hi k k' a1 b1 (hr.inj _ _ q q' a2 b2 e)
  ·exact hr.sep _ q (hpl1 k q hk).2
 have hvs1:VRels (jT ρ n pl) M args vs:=⟨by rw[←hvs.len,fX,cZ],fun j y hj=>(hvs.at_ j (Ev.ren ρ y) (by grind[fX])).ren rfl (dB.1 ht y (bm hj))⟩
 have hG1':pB G (jT ρ n pl) M:=hG1.none hG;have fin:∀cv w',iy (jT ρ n pl) M (ab L) w v (ab L') cv w'→iy pl M h w (Ev.ren ρ v) h' cv w':=by
  intro cv w' ⟨pl2,M2,k1,k2,k3,k4⟩;have kept:∀b,b<w.heap.size→(∀i q,i<n→pl (ρ i)=some q→q.blk≠b)→w'.heap[b]?=w.heap[b]?:=fun b hb hne=>k3.kept b hb fun k q hk _=>hne k q (hpl1 k q hk).1 (hpl1 k q hk).2
  have same:∀i,i<n→pl2 i=pl (ρ i):=by
   intro i hin;cases hp:pl (ρ i)with
   |none=>exact k3.new i (by omega) (by simp_all[jT])
   |some p=>
    obtain⟨p2,e1,e2,e3⟩:=k3.ext i p (uJ hin hp);obtain⟨o,h1,h2⟩:=hat i hin;obtain⟨o',h1',h2'⟩:=hat' i hin;have q1:p.ep=0:=(hr.obj (ρ i) p _ hp (hg i o h1)).ep0 (by grind[Va]);have q2:p2.ep=0:=(k2.obj i p2 o' e1 (hm i o' h1')).ep0 (hL' o' h2').1;simp_all
  have hun:∀id p,id<n→pl2 id=some p→pl (ρ id)=some p:=fun id p h1 h2=>by simp_all
  refine⟨pl,M2,k1.unren hun hv,⟨fun k q hk=>by rw[hn];exact hr.dom k q hk,fun k q o hk hgo=>?_,fun k q hk=>Fb (hr.blk k q hk) k3.size,hr.inj,k2.imm,fun k q hk=>?_⟩,⟨nw.refl _,fun _ _ h=>h,k3.mem,k3.size,fun b hb hk=>kept b hb fun i q hin hp e=>?_,fun k q hk=>.inl ⟨q,hk,rfl⟩,fun k q hk hno=>?_,fun _ _ h _=>h,k3.memNew,k3.os,k3.tape,k3.out,k3.drawn⟩,tC hn.symm⟩
  ·rcases hg' k o hgo with⟨i,o',h1,rfl,rfl⟩|⟨hne,hgo⟩
   ·have hin:i<n:=by grind
    have hm':=bm h1;exact(k2.obj i q o' (by simp_all) (hm i o' h1)).unren (hL' o' hm').1 hun (hL' o' hm').2
   ·rw[kept _ (hr.blk k q hk) fun i q' hin hp e=>hne i hin (hr.inj _ _ q q' hk hp e.symm)];exact(hr.obj k q o hk hgo).mono (nw.refl _) k3.mem
  ·cases hM:M2 q.blk with
   |none=>rfl
   |some c2=>
    rcases k3.memNew _ c2 hM with k5|k5
    ·rw[hr.sep k q hk]at k5;grind
    ·have:=hr.blk k q hk;omega
  ·grind
  ·cases hq:h'.get k with
   |none=>rfl
   |some o=>grind
 rcases h0 (jT ρ n pl) M w vs hG1' hr1 hvs1 with⟨h1,h2⟩|⟨cv,w',v1,h1,q1,⟨q2,q3⟩,q4⟩
 ·exact .inl ⟨h1,Calls.mono h2 fun e w' ⟨cv,v1,h1,k1,⟨k2,k3⟩,k4⟩=>⟨cv,Ev.ren ρ v,h',k1,⟨rfl,rfl⟩,by simp_all⟩⟩
 ·exact .inr ⟨cv,w',Ev.ren ρ v,h',q1,⟨rfl,rfl⟩,by simp_all⟩
end Go.Ev
namespace Go.Ev
open Go
section
variable{P:Program}{G:eC}{call:cJ}{m:Nat}{c:Code}{d:D}{s s':St}{ops:Array Oper}
theorem Eo(hm:P.follows .mixedOrders=true)(hG:jW G)(hc:cq P G call)(d:D)(e:(WP P G call m c).run d s (fun e _ s=>e=.normal∧s=s')=(AExit.normal=.normal∧s'=s')):aD P G (some m) c s (fun e s=>e=.normal∧s=s'):=WD hm hG hc c d s _ _ (e▸⟨rfl,rfl⟩) fun _ _ _ _ h=>h
theorem yh(hG:jW G)(hc:cq P G call){id:Nat}{Ψ:St→Prop}(d:D){W:Prop}(p:W)(e:Yo P G call m ops ops.toList d s (fun _ s=>Ψ s)=W):aD P G (some m) (.region id ops false) s (fun e s=>e=.normal∧Ψ s):=aD.region (gg hG hc _ d s _ (e▸p) fun _ _ _ h=>⟨rfl,h⟩)
end
section
variable{P:Program}{G:eC}{ops:Array Oper}{o:Oper}{l:List Oper}{s:St}{b:Option Nat}
theorem sV{Y:Type}{I:Y→Prop}{r:Y→AV}{H:Y→AHeap}{Φ:St→Prop}(hg:eh s.tmps (ed ops o)=some true)
  (hO:∀(pl:Pl)(M:dt)(a:Act)(w:World),pB G pl M→cG pl M s.heap w→FrRel pl M s.tmps a→∃y pl' M' cv w',I y∧(execOp a.eval o).run P w=.ok (.value cv) w'∧VRel pl' M' (r y) cv∧cG pl' M' (H y) w'∧c8 s.heap pl M w (H y) pl' M' w'∧s.heap.n≤(H y).n)
  (h:∀y,I y→∃A',jV s.tmps o.dst (r y)=some A'∧ce P G b ops l ⟨A',H y⟩ Φ):ce P G b ops (o::l) s Φ:=by
 intro i N h0' pl0 M0 w0 a w Q hb hl' hs hQ;have ho:ops[i]?=some o:=by simpa using hl' 0
 obtain⟨pl,M,g1,g2,g3,g4,g5⟩:=hs.ex;simp only[cR,Ca,wpOps,ho];rw[fp g3 hg];simp only[if_true];left;obtain⟨y,pl',M',cv,w',i1,i2,i3,i4,i5,i6⟩:=hO pl M a w g1 g2 g3;obtain⟨A',e1,e2⟩:=h y i1;obtain⟨p1,p2⟩:=ni (g3.mono i5.ext i5.mem) i3 (by rw[hs.n];exact hs.small) e1;have nxt:=e2 (i+1) N h0' pl0 M0 w0 (a.put o.dst cv) w' Q hb (fun j=>by have:=hl' (j+1);grind)
  ⟨⟨pl',M',g1.mono i5.ext i5.mem,i4,p1,g4.trans i5 g5,bR g5 i6⟩,by rw[←hs.n];omega,hs.small⟩ hQ
 unfold Oper.wp;rw[i2];exact nxt
theorem vw{t tx e:TypeId}{i:TypeInfo}{sz bt:Nat}(hsz:i.size=sz)(hbt:i.bytes=bt){z z0:AV}{sO xO:Operand}{dst:Option Tmp}{ty:TypeId}{pos:String}{after:Array Edge}{guard:Option (Nat×Bool)}{xs:List AV}
  (ht:P.underlying t=some (.slice e))(hk:∃e',P.underlying tx=some (.slice e'))(hi:P.info? e=some i)(hz:jj P e=some z0)(hzl:Le z z0)
  (hs:(ct G sO).run s.tmps=some (.ps [] true))(hx:(ct G xO).run s.tmps=some (.ls xs))(hne:xs≠[])(hfit:dg sz xs=true)(hzf:dg sz [z]=true)(hsm:small xs.length bt=true)(hs0:0<sz)
  (pl:Pl)(M:dt)(a:Act)(w:World)(g1:pB G pl M)(g2:cG pl M s.heap w)(g3:FrRel pl M s.tmps a):
  ∃(k:Nat)(pl':Pl)(M':dt)(cv:Value)(w':World),True∧(execOp a.eval ⟨dst,.call ⟨.builtin .append,#[sO,xO],#[t,tx]⟩,ty,pos,after,guard⟩).run P w=.ok (.value cv) w'∧
   VRel pl' M' (.slice s.heap.n 0 0 xs.length (some (xs.length+k))) cv∧cG pl' M' (s.heap.push (.row sz false 0 (xs++List.replicate k z))) w'∧c8 s.heap pl M w (s.heap.push (.row sz false 0 (xs++List.replicate k z))) pl' M' w'∧s.heap.n≤(s.heap.push (.row sz false 0 (xs++List.replicate k z))).n:=by
 subst hsz;subst hbt;have hsr:=bV g1 g3 hs;have hxr:=bV g1 g3 hx;obtain⟨news,hsrc⟩:=zc (P:=P) g2 hxr (show kX s.heap (.ls xs)=some xs from rfl) hne hfit;obtain⟨i2,zv,hz1,hz2,hz3⟩:=mC hz;rw[hi]at hz1;cases hz1
 obtain⟨b1,b2⟩:=jE hsm;have hpos:0<xs.length:=qw.2 hne;generalize hq:a.eval sO=cs at hsr;generalize hq2:a.eval xO=cx at hxr hsrc;cases hsr with
 | ps hl htt hm hs2 hc=>
  rename_i ad cap sz c;have hcap:cap=0:=htt rfl;subst hcap;have hzr:=hzl _ _ _ (dO (pl:=pl) (M:=M) hz3);have hzt:=md hzf z (by simp);have hzsz:zv.cells.size=i.size:=by rw[←hzr.cells.len];omega
  have hrun:=run_append_grow_src (P:=P) w t tx ty e i zv ht hi hz2 (some ad) 0 0 [] (by simp[Builtin.firstCells,loadCells,loadCellsFrom]) cx xs.length news (hsrc.src (.inl hk)) (by omega) (by omega) (growslice_fits (by omega) (by grind));have hge:=grownCap_ge w (0+xs.length) 0 e;obtain⟨C,hC⟩:∃C,C=grownCap w (0+xs.length) 0 e:=⟨_,rfl⟩
  rw[←hC]at hrun hge;have hin:=e9 hzr hzt.2 (C-(0+xs.length)) hzt.1 hs0;have hzl:(Builtin.zeroCells zv.cells (C-(0+xs.length))).toList.toArray=(Array.range ((C-(0+xs.length))*i.size)).map (zv.cells[· %zv.cells.size]!):=by grind[Builtin.zeroCells]
  have hnl:(Builtin.zeroCells zv.cells (C-(0+xs.length))).toList.length=(List.replicate (C-(0+xs.length)) z).length *i.size:=by grind[Builtin.zeroCells]
  have hin2:=kc (news:=(Builtin.zeroCells zv.cells (C-(0+xs.length))).toList) hsrc.mem (by grind) hsrc.newsLen hnl #[];have hce:(news++(Builtin.zeroCells zv.cells (C-(0+xs.length))).toList).toArray++#[]=([]++news).toArray++Builtin.zeroCells zv.cells (C-(0+xs.length)):=by grind
  rw[hce]at hin2;have hcs:(([]++news).toArray++Builtin.zeroCells zv.cells (C-(0+xs.length))).size=(xs++List.replicate (C-(0+xs.length)) z).length *i.size:=by simp only[sj,Fe,Cc,hsrc.newsLen,size_zeroCells,hzsz,dL,pD,jN]
  obtain⟨cells,hcells⟩:∃cells,cells=([]++news).toArray++Builtin.zeroCells zv.cells (C-(0+xs.length)):=⟨_,rfl⟩
  rw[←hcells]at hrun hin2 hcs;have hxl:(xs++List.replicate (C-(0+xs.length)) z).length=C:=by grind
  let p:Place:=⟨w.heap.size,0,i.size,C,C*i.size⟩
  have hwd:(w.drew.alloc (.cells cells e)).heap=w.heap.push (.cells cells e):=rfl;obtain⟨r1,r2⟩:=cG.alloc (o:=.row i.size false 0 (xs++List.replicate (C-(0+xs.length)) z)) (p:=p) g2 hwd ⟨rfl,rfl,rfl,n8 _⟩ rfl
   ⟨rfl,rfl,hxl.symm,by grind,rfl,hs0,fun _=>hcs,hin2.mono (fun id q hq=>⟨q,by rw[cO (by have:=g2.dom id q hq;omega)];omega,aB _,fun _=>rfl⟩) (fun _ _ h=>h)⟩
  refine⟨C-(0+xs.length),upd pl s.heap.n p,M,.slice (some ⟨w.heap.size,0,none⟩) (0+xs.length) C,w.drew.alloc (.cells cells e),trivial,?_,?_,r1,r2,n8 _⟩
  ·simp only[execOp,resolve,invoke,builtin,Sem.run_bind,Sem.run_pure,Result.andThen_ok,List.map_toArray,dn,yP,hq,hq2];show(Sem.run P (Builtin.append_ #[t,tx] ty #[Value.slice (some ad) 0 0,cx]) w).andThen _=_
   rw[hrun];rfl
  ·rw[ei]at hge ⊢;refine .slice (dM _ _ _) (aB _) hge (fun k hk=>by grind) (fun _=>⟨.inr (by grind),by grind,by grind,(fun hk=>by grind),(fun k hk=>by grind)⟩)
end
end Go.Ev
namespace Go.Ev
open Go
section
variable{s id ep off len c l h m a b d sz bt i n k:Nat}{hp H:AHeap}{xs ys zs new:List AV}{lo hi mx cap:Option Nat}{op:Bool}{x z:AV}{vl vh vm:Option AV}
theorem ii(hg:qm s hp id ep=some xs)(h1:jv 0 vl=some l)(h2:jv len vh=some h)(q1:l≤h)(q2:h≤c)(q3:c≠l)(e1:off+l=a)(e2:h-l=b)(e3:c-l=d):
  bb H (dY s hp (some (.slice id ep off len (some c))) vl vh none)=some (.val (.slice id ep a b (some d)) H):=by
 have p1:Nat.ble l h=true:=qb q1;have p2:Nat.ble h c=true:=qb q2;have p3:Nat.beq c l=false:=by grind[aE]
 simp only[dY,gK,hg,h1,h2,room,pN,p1,p2,p3,wE,e1,e2,e3,bb]
theorem DS(hg:qm s hp id ep=some xs)(h1:jv 0 vl=some l)(h2:fH x=some h)(h3:fH z=some m)(q1:l≤h)(q2:h≤m)(q3:m≤c)(q4:m≠l)(e1:off+l=a)(e2:h-l=b)(e3:m-l=d):
  bb H (dY s hp (some (.slice id ep off len (some c))) vl (some x) (some z))=some (.val (.slice id ep a b (some d)) H):=by
 have p1:Nat.ble l h=true:=qb q1;have p2:Nat.ble h m=true:=qb q2;have p3:Nat.beq m l=false:=by grind[aE]
 simp_all[qb,dY,gK,room,pN,bb]
theorem LQ(hg:qm s hp id ep=some xs)(h1:jv 0 vl=some l)(h2:jv len vh=some h)(q1:l=h)(q3:c=l):
  bb H (dY s hp (some (.slice id ep off len (some c))) vl vh none)=some (.val (.slice id ep 0 0 (some 0)) H):=by
 subst q1;subst q3;have p1:Nat.ble c c=true:=qb (aB _);have p3:Nat.beq c c=true:=qz _;simp only[dY,gK,hg,h1,h2,room,pN,p1,p3,wE,bb]
theorem K9(hg:qm s hp id ep=some xs)(h1:jv 0 vl=some l)(h2:jv len vh=some h)(q1:l≤h)(q2:h+off≤xs.length)(e1:off+l=a)(e2:h-l=b):
  bb H (dY s hp (some (.slice id ep off len none)) vl vh none)=some (.val (.slice id ep a b none) H):=by
 grind[Nat.ble_eq_true_of_le,dY,gK,room,pN,bb]
theorem zb(hg:H.get id=some (.row sz op ep xs))(e:(xs.drop off).take len=zs):kX H (.slice id ep off len cap)=some zs:=by grind[Nat.beq_refl,kX,ki]
theorem WY{xs ys:List AV}{n:Nat}(h:xs.length=n):((xs++ys).drop 0).take n=xs:=by simp_all
theorem wR{xs:List AV}{t:Bool}{n:Nat}(h:az xs=0):Nat.ble (AV.ps xs t).top n=true:=by simp_all[AV.top]
theorem NZ(hg:H.get id=some (.row sz op ep xs))(hx:kX H x=some new)(hf:dg sz new=true)(hne:new≠[])(hc:len+new.length≤c)(hl:off+len+new.length≤xs.length)(hs:small (len+new.length) bt=true)(e1:len+new.length=n)(e2:bv xs (off+len) new=ys):
  eg (co sz bt H (some (.slice id ep off len (some c))) (some x))=some (.val (.slice id ep off n (some c)) (H.put id (.row sz op ep ys))):=by
 subst e1;cases new with
 |nil=>simp_all
 |cons y r=>simp_all[qb,co,fG,gk,eg]
theorem S6(hx:kX H x=some []):eg (co sz bt H (some (.slice id ep off len cap)) (some x))=some (.val (.slice id ep off len cap) H):=by grind[co,fG,gk,eg]
theorem V3(hg:H.get id=some (.row sz op ep xs))(hx:kX H x=some new)(hf:dg sz new=true)(hne:new≠[])(hc:c<len+new.length)(hs:small (len+new.length) bt=true)(e1:(xs.drop off).take len++new=ys)(e2:ys.length=n):
  eg (co sz bt H (some (.slice id ep off len (some c))) (some x))=some (.val (.slice H.n 0 0 n none) (H.push (.row sz true 0 ys))):=by
 cases new with
 |nil=>simp_all
 |cons y r=>
  have p1:Nat.beq ep ep=true:=qz ep;have p2:Nat.beq sz sz=true:=qz sz;have p3:Nat.ble (len+(y::r).length) c=false:=by grind[bU]
  simp_all[co,fG,gk,hJ,eg]
theorem Uc(hg:H.get id=some (.row sz op ep xs))(hk:0<k)(hc:c<len+k)(hf:dg sz [z]=true)(hs:small (len+k) bt=true)(hs2:small k bt=true)(e1:(xs.drop off).take len++List.replicate k z=ys)(e2:ys.length=n):
  eg (xq sz bt z H (some (.slice id ep off len (some c))) (some (.int .i64 (.ofNat k))))=some (.val (.slice H.n 0 0 n none) (H.push (.row sz true 0 ys))):=by
 have p1:Nat.beq ep ep=true:=qz ep;have p2:Nat.beq sz sz=true:=qz sz;grind[Nat.ble_eq_true_of_le,Nat.blt,xq,Gu,hJ,eg]
theorem MD(hg:H.get id=some (.row sz op ep xs))(hx:kX H x=some zs)(hf:dg sz (zs.take len)=true)(e1:min zs.length len=k)(e2:bv xs off (zs.take len)=ys):
  eg (vX sz H (some (.slice id ep off len cap)) (some x))=some (.val (.int .i64 (.ofNat k)) (H.put id (.row sz op ep ys))):=by
 grind[Nat.beq_refl,vX,ME,eg]
theorem J5(hg:H.get id=some (.row sz op ep xs))(hf:dg sz [z]=true)(e2:bv xs off (List.replicate len z)=ys):
  eg (wa sz z H (some (.slice id ep off len cap)))=some (.val gv (H.put id (.row sz op ep ys))):=by
 grind[Nat.beq_refl,wa,eg]
theorem rN{sz:Nat}:∀{xs:List AV}{n:Nat},dg sz xs=true→dg sz (xs.take n)=true
 |[],n,h=>by simp_all
 |x::r,0,_=>rfl
 |x::r,n+1,h=>by
  simp only[List.take_succ_cons,dg,bq]at h ⊢;exact⟨h.1,rN h.2⟩
theorem rO{sz:Nat}:∀{xs:List AV}{n:Nat},dg sz xs=true→dg sz (xs.drop n)=true
 |[],n,h=>by simp_all
 |x::r,0,h=>h
 |x::r,n+1,h=>by
  simp only[List.drop_succ_cons,dg,bq]at h ⊢;exact rO h.2
end
theorem B7{P:Program}{G:eC}{f:FuncId}{fn:Func}{tS tR e:TypeId}{n:Nat}(hf:P.funcs[f]?=some fn)(hname:(fn.name== "runtime.NumGoroutine")=false)(hb:fn.body.isNone=true)(hn:Extern.findNext fn=none)(he:Extern.find fn=some (Extern.SlicesOverlaps.overlaps #[tS,tS] #[tR]))
  (ht:P.underlying tS=some (.slice e))(hi:cP P e=some n){xs ys:List AV}{t:Bool}{id off len c sz:Nat}{op:Bool}{h:AHeap}(hne:xs≠[])(hgo:h.get id=some (.row sz op 0 ys)):
  aL P G f [.ps xs t,.slice id 0 off len (some c)] h (fun v h'=>v=.bool false∧h'=h):=by
 intro pl M w vs hG hr hv;right;refine⟨.bool false,w,.bool false,h,?_,⟨rfl,rfl⟩,pl,M,.bool false,hr,c8.refl _ _ _ _,aB _⟩;have v0:=hv.at_ 0 _ rfl;have v1:=hv.at_ 1 _ rfl;have hvs:vs=#[vs.getD 0 undef,vs.getD 1 undef]:=by
  have hl:vs.size=2:=hv.len.symm;apply Array.ext
  ·omega
  ·intro i h1 h2
   match i,h2 with
   |0,_=>simp_all
   |1,_=>simp_all
 rw[run_callFunc_extern hf hname hb hn he,hvs];generalize vs.getD 0 undef=x0 at v0;generalize vs.getD 1 undef=x1 at v1;cases v0 with
 | ps hl htt hm hs hc=>
  rename_i a cap0 sz0 c0;obtain⟨m1,m2,m3,m4⟩:=hm hne;have hpos:0<xs.length:=qw.2 hne;cases v1 with
  | slice hp hep hl1 hk ha=>
   rename_i cap1 b p;have hcap:=hk c rfl;subst hcap;obtain⟨tA,frA,hA⟩:=hr.imm _ _ m2;have ho:=hr.obj id p _ hp hgo;obtain⟨cB,tB,hB,hpe⟩:∃cB tB,w.heap[p.blk]?=some (.cells cB tB (0,0))∧p.ep=0:=by
    cases hb2:w.heap[p.blk]? with
    |none=>rw[hb2]at ho;exact ho.elim
    |some ob=>
     rw[hb2]at ho;cases ob with
     |cells cB tB fr=>obtain⟨h1,_,_,_,h5,_⟩:=ho;grind
     |_=>exact ho.elim
   have hsep:=hr.sep id p hp;have hsz:=cE hi w;have hc0:c0.size≠0:=by
    have:0<xs.length*sz0:=Nat.mul_pos hpos m4;omega
   obtain⟨q1,-⟩:=ha hpe.symm
   suffices hh:(Extern.SlicesOverlaps.overlaps #[tS,tS] #[tR] #[.slice (some a) xs.length cap0,.slice (some b) len cap1]).run P w=.ok (.bool false) w by rw[hh];rfl
   generalize xs.length=la;change Sem.run P (α:=Value) (do
    let some t:=(#[tS,tS]:Array TypeId)[0]?|stuck "slices.overlaps: no parameter types"
    let .slice elem ←underlying t|stuck "slices.overlaps: slice type expected"
    let size ←sizeOf elem
    match(some a:Option Addr),(some b:Option Addr)with
    | some a,some b=>
     if la=0∨len=0∨size=0 then pure (Value.bool false)
     else if a.block !=b.block&&(←frozen a)&&(←frozen b)then unsupported .addressObserved
     else do
      if a.block !=b.block then do
       noView a;noView b
       if ←mayBeOne a b then return Value.bool ((←choose (.extern "sameAddr.stringBytes" 2))==1)
      pure (Value.bool (a.block==b.block&&a.off<b.off+len*size&&b.off<a.off+la*size))
    |_,_=>pure (Value.bool false)) w=_
   by_cases h0:la=0∨len=0∨n=0
   ·simp[run_underlying ht,hsz,h0]
   ·have hbk:b=⟨p.blk,off*p.sz,none⟩:=by grind
    subst hbk;have hnb:a.block≠p.blk:=fun e=>by grind
    have hnb1:(a.block !=p.blk)=true:=by grind
    have hnb2:(a.block==p.blk)=false:=by grind
    have f1:∀o,w.frozen? ⟨p.blk,o,none⟩=false:=fun o=>by grind[World.frozen?]
    have s1:w.shape? a.block=some (tA,c0.size):=by grind[World.shape?]
    have s2:w.shape? p.blk=some (tB,cB.size):=by grind[World.shape?]
    cases hsx:c0.size with
    |zero=>omega
    |succ kA=>
     rw[hsx]at s1;cases hfa:w.frozen? a<;>cases hfb:w.frozen? {block:=a.block,off:=kA+1}<;>
     simp[run_underlying ht,hsz,h0,hnb1,hnb2,frozen,noView,viewAt,mayBeOne,stringish,shape,Sem.run,s1,s2,f1,hfa,hfb]
def T9(rs:List Nat):AHeap→List AObj→Nat→AHeap
 |h,[],_=>h
 |h,o::r,i=>T9 rs (h.put (fP rs i) (kq (fP rs) o)) r (i+1)
def Yf(rs:List Nat)(h:AHeap):List AObj→Nat→Prop
 |[],_=>True
 |o::r,i=>h.get (fP rs i)=some (kq (fP rs) o)∧Yf rs h r (i+1)
def Ro(h:AHeap):List AObj→Nat→Prop
 |[],_=>True
 |o::r,i=>h.get i=some o∧Ro h r (i+1)
def DM(n:Nat):List AObj→Prop
 |[]=>True
 |o::r=>(ep0 o=true∧o.top≤n)∧DM n r
theorem QY(rs:List Nat):∀(l:List AObj)(h:AHeap)(i:Nat),(T9 rs h l i).n=h.n
 |[],_,_=>rfl
 |_::r,h,i=>QY rs r _ (i+1)
theorem M7{rs:List Nat}{h:AHeap}:∀{l:List AObj}{i j:Nat}{o:AObj},Yf rs h l i→l[j]?=some o→h.get (fP rs (i+j))=some (kq (fP rs) o)
 |x::r,i,0,o,a,e=>by simp at e;subst e;exact a.1
 |x::r,i,j+1,o,a,e=>by
  have:=M7 (i:=i+1) (j:=j) a.2 (by simpa using e);grind
theorem HU{h:AHeap}:∀{l:List AObj}{i j:Nat}{o:AObj},Ro h l i→l[j]?=some o→h.get (i+j)=some o
 |x::r,i,0,o,a,e=>by simp at e;subst e;exact a.1
 |x::r,i,j+1,o,a,e=>by
  have:=HU (i:=i+1) (j:=j) a.2 (by simpa using e);grind
theorem vu{n:Nat}:∀{l:List AObj},DM n l→∀o,o∈l→ep0 o=true∧o.top≤n
 |x::r,a,o,e=>by
  rcases fQ.1 e with rfl|e
  ·exact a.1
  ·exact vu a.2 o e
theorem Gq{rs:List Nat}:∀{l:List AObj}{h:AHeap}{i k:Nat}{o:AObj},(∀j,j<l.length→fP rs (i+j)<1000000)→(T9 rs h l i).get k=some o→
  (∃j o',l[j]?=some o'∧k=fP rs (i+j)∧o=kq (fP rs) o')∨((∀j,j<l.length→k≠fP rs (i+j))∧h.get k=some o)
 |[],h,i,k,o,_,e=>.inr ⟨fun j hj=>absurd hj (qx _),e⟩
 | x::r,h,i,k,o,hb,e=>by
  rcases Gq (l:=r) (i:=i+1) (fun j hj=>by have:=hb (j+1) (by simp_all);grind) e with⟨j,o',h1,h2,h3⟩|⟨h1,h2⟩
  ·exact .inl ⟨j+1,o',by simp_all,by grind,h3⟩
  ·rcases AHeap.get_put (by have:=hb 0 (Nat.zero_lt_succ _);omega) h2 with⟨h3,h4⟩|⟨h3,h4⟩
   ·exact .inl ⟨0,x,rfl,h3,h4⟩
   grind
theorem G9{q:Nat→Bool}:∀{rs:List Nat}{i:Nat},rs.all q=true→i<rs.length→q (fP rs i)=true
 |x::r,0,h,_=>by simp only[List.all_cons,bq]at h;exact h.1
 |x::r,i+1,h,hi=>by
  simp only[List.all_cons,bq]at h;exact G9 (rs:=r) (i:=i) h.2 (by simp_all)
theorem pA{P:Program}{G:eC}(hG:jW G){f:FuncId}{args args':List AV}{v v':AV}{L L' os os':List AObj}(rs:List Nat)
  (h0:aL P G f args (ab L) (fun v1 h1=>v1=v∧h1=ab L'))(ea:mQ (fP rs) args=args')(ev:Ev.ren (fP rs) v=v')
  (c:(zM rs&&(Nat.beq rs.length L.length&&(Nat.beq L'.length L.length&&rs.all fun x=>Nat.blt x 1000000)))=true)
  (hL:DM L.length L)(hL':DM L.length L')(ht:az args≤L.length)(hv:v.top≤L.length)
  (a1:Yf rs (ab os) L 0)(a2:Ro (ab L') L' 0)(a3:ab os'=T9 rs (ab os) L' 0):aL P G f args' (ab os) (fun v1 h1=>v1=v'∧h1=ab os'):=by
 simp only[bq,aE,decide_eq_true_eq]at c;obtain⟨c1,c2,c3,c4⟩:=c;subst ea;subst ev;rw[a3];refine aL.frame hG (fP rs) c3 (vu hL) (vu hL') (fun i o hi=>by have:=HU a2 hi;simp_all) ht hv (fun i j hi hj=>rA c1 i j (by omega) (by omega)) h0
  (fun i o hi=>by have:=M7 a1 hi;simp_all) (fun k o hk=>?_) (QY rs L' _ 0)
 rcases Gq (fun j hj=>by have:=G9 c4 (show 0+j<rs.length by omega);simp_all) hk with⟨j,o',h1,h2,h3⟩|⟨h1,h2⟩
 all_goals grind
theorem vL{ρ:Nat→Nat}{sz ep:Nat}{b:Bool}{xs:List AV}(h:az xs=0):kq ρ (.row sz b ep xs)=.row sz b ep xs:=by grind[kq,eS]
theorem fc{P:Program}{G:eC}(hG:jW G){f:FuncId}{args args':List AV}{v v':AV}{sz:Nat}{b b':Bool}{xs xs':List AV}{os os':List AObj}(id:Nat)(hx:az xs=0)(hx':az xs'=0)
  (h0:aL P G f args (ab [.row sz b 0 xs]) (fun v1 h1=>v1=v∧h1=ab [.row sz b' 0 xs']))(ea:mQ (fP [id]) args=args')(ev:Ev.ren (fP [id]) v=v')(c:Nat.blt id 1000000=true)
  (ht:Nat.ble (az args) 1=true)(hv:Nat.ble v.top 1=true)(a1:(ab os).get id=some (.row sz b 0 xs))(a3:ab os'=(ab os).put id (.row sz b' 0 xs')):aL P G f args' (ab os) (fun v1 h1=>v1=v'∧h1=ab os'):=
 pA hG [id] h0 ea ev (by simp only[zM,iR,List.all_cons,List.all_nil,c];rfl) ⟨⟨rfl,by grind[AObj.top]⟩,trivial⟩ ⟨⟨rfl,by grind[AObj.top]⟩,trivial⟩ (vi ht) (vi hv)
  ⟨by rw[vL hx];exact a1,trivial⟩ ⟨rfl,trivial⟩ (by rw[a3];show _=AHeap.put _ _ (kq _ _);rw[vL hx'];rfl)
end Go.Ev
namespace Go.Ev
open Go
def jH(u:TUnit)(ks:List TUnit):TUnit:=⟨u.act,u.item,u.n,u.kind,u.label,u.head,u.words,ks⟩
def mq(w:List PWord)(u:TUnit):TUnit:=⟨u.act,u.item,u.n,u.kind,u.label,u.head,w,u.kids⟩
def Ar(w:List PWord)(u:TUnit):TUnit:=⟨u.act,u.item,u.n,u.kind,u.label,w,u.words,u.kids⟩
def pb(s:aR)(u:TUnit):TUnit:=⟨u.act,u.item,u.n,u.kind,s,u.head,u.words,u.kids⟩
def xd(i:Nat)(x:TUnit)(l:List TUnit):List TUnit:=l.take i++(x::l.drop i)
def gI(i:Nat)(u:TUnit):TUnit:=jH u (u.kids.eraseIdx i)
def du(i:Nat)(x:TUnit)(u:TUnit):TUnit:=jH u (xd i x u.kids)
mutual
def dW(p:PId)(f:TUnit→TUnit):TUnit→TUnit
 |⟨a,i,n,k,l,h,w,ks⟩=>bif fO p ⟨a,i,n,k,l,h,w,ks⟩then f ⟨a,i,n,k,l,h,w,ks⟩else⟨a,i,n,k,l,h,w,ef p f ks⟩
def ef(p:PId)(f:TUnit→TUnit):List TUnit→List TUnit
 |[]=>[]
 |k::r=>bif cV p k then dW p f k::r else k::ef p f r
end
section
variable{p:PId}{f:TUnit→TUnit}{u w:TUnit}{l r:List TUnit}{i:Nat}
theorem Fm(p:PId)(f:TUnit→TUnit)(u:TUnit):dW p f u=bif fO p u then f u else jH u (ef p f u.kids):=by cases u;rw[dW];rfl
theorem sC:ef p f []=[]:=by rw[ef]
theorem jO(k:TUnit)(r:List TUnit):ef p f (k::r)=bif cV p k then dW p f k::r else k::ef p f r:=by rw[ef]
theorem re(h:fO p u=true):dW p f u=f u:=by rw[Fm,h];rfl
theorem kR(h:fO p u=false):dW p f u=jH u (ef p f u.kids):=by rw[Fm,h];rfl
def je(p:PId)(f:TUnit→TUnit)(l:List TUnit)(i:Nat)(r:List TUnit):Prop:=ef p f l=l.take i++ef p f r
theorem je.start:je p f l 0 l:=rfl
theorem je.skip(h:je p f l i (w::r))(hd:l.drop i=w::r)(hw:cV p w=false):je p f l (i+1) r:=by
 unfold je at *;have hi:i<l.length:=by grind[List.drop_eq_nil_of_le]
 have e:l[i]=w:=by
  have:=congrArg (·[0]?) hd;grind
 grind[jO]
theorem je.hit(h:je p f l i (w::r))(hd:l.drop i=w::r)(hw:cV p w=true):ef p f l=l.set i (dW p f w):=by
 unfold je at h;have hi:i<l.length:=by grind[List.drop_eq_nil_of_le]
 rw[h,jO,hw,List.set_eq_take_append_cons_drop,if_pos hi];have:l.drop (i+1)=r:=by rw[←yR,hd];rfl
 simp_all
theorem je.done(h:je p f l i [])(hd:l.drop i=[]):ef p f l=l:=by simp_all[je,sC,Cv]
theorem ID:∀(u:TUnit),cV p u=false→dW p f u=u:=TUnit.ind fun u ih h=>by
 have hw:=At h;rw[gm]at hw;cases hi:fO p u with
 |true=>grind
 | false=>
  rw[hi]at hw;simp only[cond_false]at hw;have key:∀(r:List TUnit),(∀k,k∈r→k∈u.kids)→cn p r=[]→ef p f r=r:=by
   intro r;induction r with
   |nil=>grind[sC]
   |cons k r ihr=>
    intro hm hr;cases hk:cV p k with
    |true=>grind[oQ,lj]
    |false=>simp_all[jJ,jO]
  have hk:cn p u.kids=[]:=by grind
  rw[kR hi,key u.kids (fun _ h=>h) hk];cases u;rfl
end
end Go.Ev
namespace Go.Ev
open Go
noncomputable def bc(n:Nat):AV:=.int .i64 (.ofNat n)
theorem X4(n:Nat):(bc n).top=0:=rfl
section
variable{l part:List aR}{i:Nat}{acc:List Nat}
def nj(l part:List aR)(i:Nat)(acc:List Nat):Prop:=acc.length≤i∧i≤l.length+part.length∧∃f,uc l part=acc++v8 part f l i∧l.length<i+f
theorem nj.start(hp:0<part.length):nj l part 0 []:=by
 refine⟨aB _,bL _,l.length+1,?_,by omega⟩;unfold uc;grind
theorem Lh{f:Nat}(hi:i+part.length≤l.length):v8 part (f+1) l i=bif cN eV ((l.take (i+part.length)).drop i) part then i::v8 part f l (i+part.length)else v8 part f l (i+1):=by
 have e:(l.take (i+part.length)).drop i=(l.drop i).take part.length:=by grind
 rw[v8,qb hi,e];rfl
theorem nj.skip(h:nj l part i acc)(hi:i+part.length≤l.length)(hp:0<part.length)(hm:cN eV ((l.take (i+part.length)).drop i) part=false):nj l part (i+1) acc:=by
 obtain⟨h1,h2,f,h3,h4⟩:=h;cases f with
 |zero=>omega
 |succ f=>rw[Lh hi,hm]at h3;exact⟨by omega,by omega,f,h3,by omega⟩
theorem nj.hit(h:nj l part i acc)(hi:i+part.length≤l.length)(hp:0<part.length)(hm:cN eV ((l.take (i+part.length)).drop i) part=true):nj l part (i+part.length) (acc++[i]):=by
 obtain⟨h1,h2,f,h3,h4⟩:=h;cases f with
 |zero=>omega
 |succ f=>
  rw[Lh hi,hm]at h3;exact⟨by grind,by omega,f,by simp_all,by omega⟩
theorem nj.done(h:nj l part i acc)(hi:l.length<i+part.length):uc l part=acc:=by
 obtain⟨h1,h2,f,h3,h4⟩:=h;cases f with
 |zero=>grind[v8]
 |succ f=>grind[v8,bU]
theorem nj.len(h:nj l part i acc):acc.length≤l.length+part.length:=bR h.1 h.2.1
end
def rb(g:Nat):List Nat→Nat→Nat→Prop
 |[],_,_=>True
 |p::r,lo,n=>lo≤p∧p+g≤n∧rb g r (p+g) n
theorem s6(part:List aR)(hp:0<part.length):∀(f:Nat)(l:List aR)(i:Nat),rb part.length (v8 part f l i) i l.length
 |0,l,i=>by rw[v8];trivial
 | f+1,l,i=>by
  rw[v8];have key:∀(m:List Nat)(a b n:Nat),a≤b→rb part.length m b n→rb part.length m a n:=by
   intro m;cases m with
   |nil=>intro _ _ _ _ _;trivial
   |cons p r=>intro a b n h ⟨h1,h2,h3⟩;exact⟨bR h h1,h2,h3⟩
  cases hb:Nat.ble (i+part.length) l.length with
  |false=>trivial
  |true=>
   rw[bU]at hb;have hb:=of_decide_eq_true hb;simp only[cond_true];cases cN eV ((l.drop i).take part.length) part with
   |true=>exact⟨aB _,hb,s6 part hp f l _⟩
   |false=>exact key _ _ _ _ (n8 i) (s6 part hp f l (i+1))
theorem C0(l part:List aR):rb part.length (uc l part) 0 l.length:=by
 unfold uc;cases part with
 |nil=>trivial
 |cons x r=>exact s6 (x::r) (yO _) _ l 0
def oI(g:Nat)(l:List Nat)(n:Nat):Prop:=∀i,i<l.length→gD l i+g≤n∧∀j,j<i→gD l j+g≤gD l i
theorem Bs{g n:Nat}:∀{l:List Nat}{lo:Nat},rb g l lo n→oI g l n
 |[],_,_=>fun i hi=>absurd hi (qx _)
 | p::r,lo,⟨h1,h2,h3⟩=>by
  have low:∀(m:List Nat)(a:Nat),rb g m a n→∀i,i<m.length→a≤gD m i:=by
   intro m;induction m with
   |nil=>simp_all
   |cons q m ih=>
    intro a ⟨k1,k2,k3⟩ i hi;cases i with
    |zero=>exact k1
    |succ i=>have:=ih _ k3 i (by simp_all);grind[gD]
  intro i hi;cases i with
  |zero=>exact⟨h2,fun j hj=>absurd hj (qx _)⟩
  |succ i=>
   have hi':i<r.length:=by simp_all
   obtain⟨k1,k2⟩:=Bs h3 i hi';refine⟨k1,fun j hj=>?_⟩;cases j with
   |zero=>exact low r _ h3 i hi'
   |succ j=>exact k2 j (by omega)
def gY(at_ g:Nat)(m l:List PWord):List PWord:=l.take at_++m++l.drop (at_+g)
def uK(a b:Int)(g:Nat)(ps:List Nat)(fresh:List aR):Nat→List PWord→List PWord
 |0,l=>l
 |i+1,l=>uK a b g ps fresh i (gY (gD ps i) g (cD a b fresh (i*fresh.length)) l)
theorem Nu{at_ g:Nat}{m l:List PWord}(h:at_+g≤l.length):(gY at_ g m l).length+g=l.length+m.length:=by grind[gY]
structure PutI(a b:Int)(g:Nat)(ps:List Nat)(fresh:List aR)(w:List PWord)(i:Nat)(l:List PWord):Prop where
 le:i≤ps.length
 all:uK a b g ps fresh ps.length w=uK a b g ps fresh i l
 room:∀j,j<i→gD ps j+g≤l.length
 small:l.length≤w.length+(ps.length-i)*fresh.length
theorem PutI.start{a b:Int}{g:Nat}{ps:List Nat}{fresh:List aR}{w:List PWord}(h:oI g ps w.length):PutI a b g ps fresh w ps.length w:=⟨aB _,rfl,fun j hj=>(h j hj).1,by omega⟩
theorem PutI.step{a b:Int}{g:Nat}{ps:List Nat}{fresh:List aR}{w l:List PWord}{i:Nat}(hg:oI g ps w.length)(h:PutI a b g ps fresh w (i+1) l):PutI a b g ps fresh w i (gY (gD ps i) g (cD a b fresh (i*fresh.length)) l):=by
 have hr:=h.room i (Nat.lt_succ_self i);have hl:=Nu (m:=cD a b fresh (i*fresh.length)) hr;rw[gX]at hl;have hle:=h.le;refine⟨by omega,h.all,fun j hj=>?_,?_⟩
 ·have:=(hg i (by omega)).2 j hj;grind
 ·have hs:=h.small;have e:(ps.length-i)*fresh.length=(ps.length-(i+1))*fresh.length+fresh.length:=by rw[show ps.length-i=(ps.length-(i+1))+1 by omega,qa]
  omega
theorem PutI.done{a b:Int}{g:Nat}{ps:List Nat}{fresh:List aR}{w l:List PWord}(h:PutI a b g ps fresh w 0 l):uK a b g ps fresh ps.length w=l:=h.all
theorem PutI.len{a b:Int}{g:Nat}{ps:List Nat}{fresh:List aR}{w l:List PWord}{i:Nat}(h:PutI a b g ps fresh w i l)(h1:w.length≤2^18)(h2:ps.length≤2^9)(h3:fresh.length≤2^9):l.length≤2^19:=by
 have:=h.small;have:(ps.length-i)*fresh.length≤2^9*2^9:=Nat.mul_le_mul (by omega) h3;omega
section
variable{sz b id n n' k l h m:Nat}{H:AHeap}{xs ys zs:List AV}{t:Bool}{x z:AV}{vl:Option AV}
theorem I5(hh:pd sz xs=true)(h1:jv 0 vl=some l)(h2:fH x=some h)(h3:fH z=some h)(q1:l≤h)(q2:h≤xs.length)(e:(xs.take h).drop l=ys):bb H (dY sz H (some (.ps xs t)) vl (some x) (some z))=some (.val (.ps ys true) H):=by simp_all[qb,dY,gK,uS,bb]
theorem P4(hh:pd sz xs=true)(h1:fH x=some l)(q1:l≤xs.length)(e:xs.drop l=ys):bb H (dY sz H (some (.ps xs false)) (some x) none none)=some (.val (.ps ys false) H):=by
 have p2:Nat.ble l xs.length=true:=qb q1;have p3:Nat.ble xs.length xs.length=true:=qb (aB _);simp only[dY,gK,hh,jv,h1,uS,p2,p3,wE,List.take_length,e,wt,bb]
theorem Z0(hf:dg sz xs=true)(hf2:dg sz ys=true)(hne:ys≠[])(hs:small (xs.length+ys.length) b=true)(e:xs++ys=zs)(e2:zs.length=n):eg (co sz b H (some (.ps xs true)) (some (.ls ys)))=some (.val (.slice H.n 0 0 n none) (H.push (.row sz true 0 zs))):=by
 cases ys with
 |nil=>simp_all
 |cons y r=>simp_all[co,fG,kX,ki,gk,hJ,eg]
theorem S5(e:ys=[]):eg (co sz b H (some (.ps xs true)) (some (.ls ys)))=some (.val (.ps xs true) H):=by subst e;rfl
def tH:List AV→Nat
 |[]=>0
 |_::_=>1
theorem V2(hg:H.get id=some (.row sz true 0 xs))(hp:H.put id (.row sz true 0 xs)=H)(hf:dg sz ys=true)(hl:xs.length=n)(hs:small (n+ys.length) b=true)(e:xs++ys=zs)(e2:zs.length=n'):
  eg (co sz b H (some (.slice id 0 0 n none)) (some (.ps ys t)))=some (.val (.slice id (tH ys) 0 n' none) (H.put id (.row sz true (tH ys) zs))):=by
 cases ys with
 |nil=>
  rw[dE]at e;subst e;simp only[tH,hp,←e2,hl];rfl
 |cons y r=>
  have p1:Nat.beq 0 0=true:=rfl;have p2:Nat.beq sz sz=true:=qz sz;have p4:xs.take n=xs:=Cv (by omega);have p5:n+(y::r).length=n':=by grind
  have p3:Nat.ble n' xs.length=false:=by grind[bU]
  rw[p5]at hs;simp only[co,fG,kX,ki,gk,hf,hg,p1,p2,hs,wE,p3,p4,e,p5,tH,eg,ei]
theorem S4(hf:dg sz xs=true)(hf2:dg sz ys=true)(hne:ys≠[])(hs:small (xs.length+ys.length) b=true)(e:xs++ys=zs)(e2:zs.length=n):eg (co sz b H (some (.ps xs true)) (some (.ps ys t)))=some (.val (.slice H.n 0 0 n none) (H.push (.row sz true 0 zs))):=by
 cases ys with
 |nil=>simp_all
 |cons y r=>simp_all[co,fG,kX,ki,gk,hJ,eg]
end
end Go.Ev
namespace Go.Ev
open Go
def nS(l:List Nat)(n:Int):List Nat:=bif af n 0 then l else bif aF (Int.ofNat l.length) n then[]else(l.take n.toNat).drop (n.toNat-1)
theorem VQ{l:List Nat}{a b i:Nat}(h:i<((l.take b).drop a).length):gD ((l.take b).drop a) i=gD l (a+i):=by grind[gD]
theorem OK{g n a b:Nat}{l:List Nat}(h:oI g l n):oI g ((l.take b).drop a) n:=by
 intro i hi;have hl:((l.take b).drop a).length≤l.length-a:=by grind
 obtain⟨h1,h2⟩:=h (a+i) (by omega);grind[VQ]
theorem Hz{g n:Nat}{l:List Nat}{k:Int}(h:oI g l n):oI g (nS l k) n:=by
 unfold nS;cases af k 0 with
 |true=>grind
 |false=>
  cases aF (Int.ofNat l.length) k with
  |true=>exact fun i hi=>absurd hi (qx _)
  |false=>exact OK h
theorem Gf(l:List Nat)(k:Int):(nS l k).length≤l.length:=by
 unfold nS;grind
theorem DD{g n:Nat}(hg:0<g):∀{l:List Nat}{lo:Nat},rb g l lo n→lo≤n→l.length+lo≤n
 |[],lo,_,h=>by simp_all
 |p::r,lo,⟨h1,h2,h3⟩,_=>by have:=DD hg h3 h2;grind
theorem Lg(l part:List aR):(uc l part).length≤l.length:=by
 cases part with
 |nil=>exact bL _
 |cons x r=>have:=DD (yO _) (C0 l (x::r)) (bL _);omega
theorem Ge(l part:List aR):oI part.length (uc l part) l.length:=Bs (C0 l part)
def yV(c i:Nat)(l:List Nat):List Nat:=(l.take i).map (· +c)++l.drop i
theorem TY(c i:Nat)(l:List Nat):(yV c i l).length=l.length:=by grind[yV]
theorem V7{c i:Nat}{l:List Nat}(h:i<l.length):gD (yV c i l) i=gD l i:=by
 unfold yV gD List.getD;grind
theorem O7{c i:Nat}{l:List Nat}(h:i<l.length):(yV c i l).set i (gD l i+c)=yV c (i+1) l:=by
 unfold yV;have h1:((l.take i).map (· +c)).length=i:=by grind
 rw[List.set_append_right _ _ (by omega),h1,Nat.sub_self,Pj h,List.set_cons_zero,Pk h,qY];grind[gD]
theorem O6{c n:Nat}{l m:List Nat}(h:l.length=n):(yV c n (l++m)).take n=l.map (· +c):=by grind[yV]
theorem JA{c i:Nat}{l:List Nat}(h:i<l.length):gD (l.map (· +c)) i=gD l i+c:=by grind[gD]
theorem Rs{c n:Nat}{l:List Nat}(h:oI c l n):oI 0 (l.map (· +c)) n:=by
 intro i hi;rw[cZ]at hi;obtain⟨h1,h2⟩:=h i hi;grind[JA]
def vN(l:List PWord):List PWord:=bif aF 256 (Int.ofNat l.length)then[]else l
def zE(l:List PWord):Int:=bif aF 256 (Int.ofNat l.length)then 6 else 0
def xT(a b:Int)(g:Nat)(ps:List Nat)(fresh:List aR)(w:List PWord):List PWord×Int:=(vN (uK a b g ps fresh ps.length w),zE (uK a b g ps fresh ps.length w))
def GJ(a b:Int)(w:List PWord)(old new:List aR)(n:Int):List PWord×Int:=bif af (Int.ofNat old.length) 0 then([],1)else bif af (Int.ofNat (nS (uc (b8 w) old) n).length) 0 then([],4)else xT a b old.length (nS (uc (b8 w) old) n) new w
def Ei(a b:Int)(w:List PWord)(part new:List aR)(n:Int):List PWord×Int:=
 bif af (Int.ofNat new.length) 0||(af (Int.ofNat part.length) 0&&ak (af n 0))then([],1)
 else bif af (Int.ofNat part.length) 0 then xT a b 0 [0] new w
 else bif af (Int.ofNat (nS (uc (b8 w) part) n).length) 0 then([],4)else xT a b 0 ((nS (uc (b8 w) part) n).map (· +part.length)) new w
end Go.Ev
namespace Go.Ev
open Go
def lQ(x k:TUnit):Bool:=af k.kind x.kind&&eV k.label x.label
def zz(p x:TUnit):Int:=bif jf p.kind x.kind then(bif p.kids.any (lQ x)then 10 else 0)else 9
def Sd(u:TUnit)(p:PId)(x:TUnit):Bool:=aF 8 (Int.ofNat ((qW p u).length+1+nZ x))
abbrev qJ:=TUnit×Int
def OZ(u:TUnit)(te:Int)(full cf:Bool)(u2:TUnit):qJ:=bif af te 0 then(bif full then(u,6)else bif cf then(u,5)else(u2,0))else(u,te)
def Fi(u:TUnit)(e:Int)(u2:TUnit):qJ:=bif af e 0 then(u2,0)else(u,e)
def T4(u:TUnit)(te:Int)(u2:TUnit):qJ:=bif af te 10 then(u,10)else(u2,0)
def QM(u:TUnit)(te:Int)(full:Bool)(u2:TUnit):qJ:=bif af te 0 then(bif full then(u,6)else(u2,0))else(u,te)
def HN(e1 e2:Int)(sp:PSpot)(e3:Int):PSpot×Int:=bif af e1 0 then(bif af e2 0 then(bif af e3 0 then(sp,0)else(dF,e3))else(dF,e2))else(dF,e1)
noncomputable def eF(r:qJ):AV:=.tuple [eU r.1,.int .i64 r.2]
end Go.Ev
namespace Go.Ev
open Go
theorem vO{p:PId}{u:TUnit}(h:cV p u=true):ee p u∈bu u∧bw (ee p u)=p:=by grind[Po,Tg,Dj]
theorem rH(l m:List TUnit):iD (l++m)=iD l++iD m:=by
 induction l with
 |nil=>rw[rG];rfl
 |cons k r ih=>grind[gc]
theorem qP(u:TUnit)(l:List TUnit):dz (jH u l)=bw u::iD l:=by rw[nr];rfl
theorem mX(u:TUnit):nU u=(dz u).length:=(uE u).symm
theorem xJ(u:TUnit)(l:List TUnit):bu (jH u l)=jH u l::dr l:=by rw[dj];rfl
theorem sB{q:PId}:∀(u:TUnit),cV q u=true→∃v C,v∈bu u∧bw v=q∧(dz u).Perm (C++dz v)∧∀f,(dz (dW q f u)).Perm (C++dz (f v))∧
  ∀x,x∈bu (dW q f u)→x∈bu (f v)∨∃y,y∈bu u∧bw x=bw y∧x.kids.length=y.kids.length∧x.head=y.head∧x.words=y.words:=TUnit.ind fun u ih h=>by
 cases hi:fO q u with
 |true=>
  refine⟨u,[],dU u,(gE q u).1 hi,List.Perm.refl _,fun f=>?_⟩;grind[re]
 | false=>
  have key:∀(r:List TUnit),(∀k,k∈r→k∈u.kids)→cn q r≠[]→∃v C,v∈dr r∧bw v=q∧(iD r).Perm (C++dz v)∧∀f,(iD (ef q f r)).Perm (C++dz (f v))∧(ef q f r).length=r.length∧
    ∀x,x∈dr (ef q f r)→x∈bu (f v)∨∃y,y∈dr r∧bw x=bw y∧x.kids.length=y.kids.length∧x.head=y.head∧x.words=y.words:=by
   intro r;induction r with
   |nil=>grind[kS]
   | cons k r ihr=>
    intro hm hw;cases hk:cV q k with
    | true=>
     obtain⟨v,C,h1,h2,h3,h4⟩:=ih k (hm k (dI ..)) hk;refine⟨v,C++iD r,by grind[bN],h2,?_,fun f=>?_⟩
     ·grind[gc]
     ·have e:ef q f (k::r)=dW q f k::r:=by rw[jO,hk];rfl
      rw[e];refine⟨?_,rfl,fun x hx=>?_⟩
      ·grind[gc]
      ·rw[bN]at hx;rcases iG.1 hx with hx|hx
       ·grind[bN]
       ·exact .inr ⟨x,by grind[bN],rfl,rfl,rfl,rfl⟩
    |false=>
     rw[jJ hk]at hw;obtain⟨v,C,h1,h2,h3,h4⟩:=ihr (fun x hx=>hm x (eW _ hx)) hw;refine⟨v,dz k++C,by grind[bN],h2,by grind[gc],fun f=>?_⟩;have e:ef q f (k::r)=k::ef q f r:=by rw[jO,hk];rfl
     rw[e];refine⟨by grind[gc],by simp_all,fun x hx=>?_⟩;rw[bN]at hx;rcases iG.1 hx with hx|hx
     ·exact .inr ⟨x,by grind[bN],rfl,rfl,rfl,rfl⟩
     grind[bN]
  have hw:cn q u.kids≠[]:=by
   intro e;have:=lj h;rw[gm,hi,e]at this;simp_all
  obtain⟨v,C,h1,h2,h3,h4⟩:=key u.kids (fun _ h=>h) hw;refine⟨v,bw u::C,by grind[dj],h2,by grind[nr],fun f=>?_⟩;rw[kR hi];refine⟨by grind[qP],fun x hx=>?_⟩;rw[xJ]at hx;rcases fQ.1 hx with rfl|hx
  ·exact .inr ⟨u,dU u,rfl,(h4 f).2.1,rfl,rfl⟩
  grind[dj]
theorem vR{p:PId}:∀(u:TUnit),iq p u=true→∃q i,q∈bu u∧sT p u=bw q∧qu p u=Int.ofNat i∧i<q.kids.length∧bw (gD q.kids i)=p:=TUnit.ind fun u ih h=>by
 have hh:cV p u=true:=by
  cases e:cV p u with
  |true=>rfl
  |false=>grind[Rh]
 cases hi:fO p u with
 |true=>
  unfold iq at h;rw[rf hi]at h;cases h
 | false=>
  have key:∀(r:List TUnit),cn p r≠[]→∃j k,j<r.length∧gD r j=k∧cV p k=true∧cn p r=aI p k∧∀n,dA (cV p) r n=Int.ofNat (n+j):=by
   intro r;induction r with
   |nil=>grind[kS]
   | cons k r ihr=>
    intro hw;cases hk:cV p k with
    |true=>
     refine⟨0,k,yO _,rfl,hk,oQ hk,fun n=>?_⟩;unfold dA;simp_all
    | false=>
     rw[jJ hk]at hw;obtain⟨j,k2,h1,h2,h3,h4,h5⟩:=ihr hw;refine⟨j+1,k2,by simp_all,h2,h3,by grind[jJ],fun n=>?_⟩;have e:dA (cV p) (k::r) n=dA (cV p) r (n+1):=by
      show(bif cV p k then _ else _)=_
      simp_all
     grind
  have hw:cn p u.kids≠[]:=by
   intro e;have:=lj hh;rw[gm,hi,e]at this;simp_all
  obtain⟨j,k,h1,h2,h3,h4,h5⟩:=key u.kids hw;obtain⟨y,t,e⟩:=wq h3;have hway:aI p u=u::aI p k:=by rw[gm,hi,h4,e];rfl
  have hkm:k∈u.kids:=h2▸fR h1;rw[Jq h,Jz h];cases hk:iq p k with
  | true=>
   obtain⟨q,i,q1,q2,q3,q4,q5⟩:=ih k hkm hk;rw[Jq hk]at q2;rw[Jz hk]at q3;have e2:IH p u=IH p k:=by
    unfold IH;rw[hway];have:2≤(aI p k).length:=by
     unfold iq at hk;cases hl:aF (Int.ofNat (aI p k).length) 2 with
     |true=>grind
     |false=>have:=aG hl;grind
    show gD (u::aI p k) ((aI p k).length+1-2)=_
    rw[show(aI p k).length+1-2=((aI p k).length -2)+1 by omega];rfl
   grind[bC]
  | false=>
   have hl:(aI p k).length=1:=by
    unfold iq at hk;cases hl:aF (Int.ofNat (aI p k).length) 2 with
    |false=>grind
    |true=>have:=ar hl;grind
   have hik:fO p k=true:=by
    cases hik:fO p k with
    |true=>rfl
    |false=>
     rw[gm,hik]at hl e;grind
   have e2:IH p u=u:=by
    unfold IH;rw[hway];show gD (u::aI p k) ((aI p k).length+1-2)=_
    rw[hl];rfl
   rw[e2,h5 0,ei];exact⟨u,j,dU u,rfl,rfl,h1,by grind[gE]⟩
theorem U7{p:PId}{u:TUnit}(h:cV p u=true)(hi:fO p u=false):iq p u=true:=by
 have hw:aI p u≠[]:=lj h;have e:aI p u=match cn p u.kids with|[]=>[]|y::t=>u::y::t:=by rw[gm,hi];rfl
 unfold iq;rw[e]at hw ⊢;cases ew:cn p u.kids with
 |nil=>simp_all
 |cons y t=>
  show ak (aF (Int.ofNat (u::y::t).length) 2)=true
  rw[iO (by grind)];rfl
theorem U3{v:TUnit}{i:Nat}(h:i<v.kids.length):(dz v).Perm (dz (gI i v)++dz (gD v.kids i)):=by
 unfold gI;rw[nr v,qP,Pz,rH];have e:v.kids=v.kids.take i++(gD v.kids i::v.kids.drop (i+1)):=by grind[gD,List.drop_eq_getElem_cons,List.take_append_drop]
 grind[rH,gc]
theorem U2{v x:TUnit}{i:Nat}:(dz (du i x v)).Perm (dz v++dz x):=by
 unfold du xd;rw[nr v,qP,rH,gc,yT];grind[List.take_append_drop,rH]
end Go.Ev
namespace Go.Ev
open Go
section
variable{P:Program}{G:eC}{call:cJ}{m:Nat}{c:Code}{d:D}{s s':St}{ops:Array Oper}{h h':AHeap}{o:AObj}{f:FuncId}{args:List AV}{v u:AV}{pl pl':Pl}{M M':dt}{w w':World}
theorem cG.psh(g2:cG pl M h w):cG pl M (h.push o) w:=
 ⟨fun id p hp=>Nat.lt_succ_of_lt (g2.dom id p hp),(fun id p o' hp hg=>by
  rcases dJ hg with⟨rfl,_⟩|⟨_,h2⟩
  ·exact absurd (g2.dom _ p hp) (wD _)
  ·exact g2.obj id p o' hp h2),g2.blk,g2.inj,g2.imm,g2.sep⟩
theorem c8.psh(g2:cG pl M h w)(g4:c8 h pl M w h' pl' M' w')(g2':cG pl' M' h' w'):c8 h pl M w (h'.push o) pl' M' w':=
 ⟨g4.ext,g4.new,g4.mem,g4.size,g4.kept,g4.blks,(fun id p hp hg=>by
  have:=g4.live id p hp hg;cases hh:(h'.push o).get id with
  |none=>rfl
  |some o'=>
   rcases dJ hh with⟨rfl,_⟩|⟨_,h2⟩
   ·obtain⟨p',e1,_⟩:=g4.ext _ p hp;exact absurd (g2'.dom _ p' e1) (wD _)
   simp_all),g4.stay,g4.memNew,g4.os,g4.tape,g4.out,g4.drawn⟩
theorem aL.psh(h0:aL P G f args h (fun v1 h1=>v1=v∧h1=h'))(hl:Le u v):aL P G f args h (fun v1 h1=>v1=u∧h1=h'.push o):=by
 intro pl M w vs hg hr hv;have key:∀{cv w'},iy pl M h w v h' cv w'→iy pl M h w u (h'.push o) cv w':=fun⟨pl',M',k1,k2,k3,k4⟩=>⟨pl',M',hl _ _ _ k1,cG.psh k2,c8.psh hr k3 k2,Nat.le_succ_of_le k4⟩
 rcases h0 pl M w vs hg hr hv with⟨h1,h2⟩|⟨cv,w',v',h'',h1,⟨rfl,rfl⟩,h3⟩
 ·exact .inl ⟨h1,Calls.mono h2 fun e w' ⟨cv,v',h'',k1,⟨k2,k2'⟩,k3⟩=>⟨cv,u,h'.push o,k1,⟨rfl,rfl⟩,by simp_all⟩⟩
 ·exact .inr ⟨cv,w',u,_,h1,⟨rfl,rfl⟩,key h3⟩
theorem Ki{Ψ Ψ':AV→AHeap→Prop}(o:AObj)(h0:aL P G f args h Ψ)(hΨ:∀v h',Ψ v h'→∃u,Le u v∧Ψ' u (h'.push o)):aL P G f args h Ψ':=by
 intro pl M w vs hg hr hv;have key:∀{v u h' cv w'},Le u v→iy pl M h w v h' cv w'→iy pl M h w u (h'.push o) cv w':=fun hl ⟨pl',M',k1,k2,k3,k4⟩=>⟨pl',M',hl _ _ _ k1,cG.psh k2,c8.psh hr k3 k2,Nat.le_succ_of_le k4⟩
 rcases h0 pl M w vs hg hr hv with⟨h1,h2⟩|⟨cv,w',v',h'',h1,h2,h3⟩
 ·refine .inl ⟨h1,Calls.mono h2 fun e w' ⟨cv,v',h'',k1,k2,k3⟩=>?_⟩;grind
 ·obtain⟨u,q1,q2⟩:=hΨ _ _ h2;exact .inr ⟨cv,w',u,_,h1,q2,key q1 h3⟩
theorem QW(pl:Pl)(M:dt)(p:Place)(x:Option Obj):bA pl M p .dead x:=by cases x<;>trivial
theorem aL.dead{i:Nat}{Ψ Ψ':AV→AHeap→Prop}(h0:aL P G f args h Ψ)(hi:h.n≤i)(hm:i<1000000)(hΨ:∀v h',Ψ v h'→Ψ' v (h'.put i .dead)):aL P G f args h Ψ':=by
 intro pl M w vs hg hr hv;have key:∀{v h' cv w'},iy pl M h w v h' cv w'→iy pl M h w v (h'.put i .dead) cv w':=fun⟨pl',M',k1,k2,k3,k4⟩=>⟨pl',M',k1,⟨k2.dom,(fun id p o hp hg=>by
  rcases AHeap.get_put hm hg with⟨_,rfl⟩|⟨_,h2⟩
  ·grind[QW]
  ·exact k2.obj id p o hp h2),k2.blk,k2.inj,k2.imm,k2.sep⟩,⟨k3.ext,k3.new,k3.mem,k3.size,k3.kept,k3.blks,(fun id p hp hg=>by
   have hl:=hr.dom id p hp;have hn:=k3.live id p hp hg;cases hh:AHeap.get (AHeap.put _ i .dead) id with
   |none=>rfl
   |some o'=>grind[AHeap.get_put]),k3.stay,k3.memNew,k3.os,k3.tape,k3.out,k3.drawn⟩,k4⟩
 rcases h0 pl M w vs hg hr hv with⟨h1,h2⟩|⟨cv,w',v',h'',h1,h2,h3⟩
 ·exact .inl ⟨h1,Calls.mono h2 fun e w' ⟨cv,v',h'',k1,k2,k3⟩=>⟨cv,v',h''.put i .dead,k1,hΨ _ _ k2,key k3⟩⟩
 ·exact .inr ⟨cv,w',v',_,h1,hΨ _ _ h2,key h3⟩
end
section
variable{P:Program}{G:eC}{ops:Array Oper}{o:Oper}{l:List Oper}{s:St}{b:Option Nat}
theorem xF{t tx e:TypeId}{i:TypeInfo}{sz bt:Nat}(hsz:i.size=sz)(hbt:i.bytes=bt){z z0:AV}{sO xO:Operand}{dst:Option Tmp}{ty:TypeId}{pos:String}{after:Array Edge}{guard:Option (Nat×Bool)}{xs:List AV}
  (ht:P.underlying t=some (.slice e))(hk:∃e',P.underlying tx=some (.slice e'))(hi:P.info? e=some i)(hz:jj P e=some z0)(hzl:Le z z0)
  (hs:(ct G sO).run s.tmps=some (.ps [] true))(hx:(ct G xO).run s.tmps=some (.ls xs))(hne:xs≠[])(hfit:dg sz xs=true)(hzf:dg sz [z]=true)(hsm:small xs.length bt=true)(hs0:0<sz)
  (pl:Pl)(M:dt)(a:Act)(w:World)(g1:pB G pl M)(g2:cG pl M s.heap w)(g3:FrRel pl M s.tmps a):
  ∃(k:Nat)(pl':Pl)(M':dt)(cv:Value)(w':World),k=0∧(execOp a.eval ⟨dst,.call ⟨.builtin .append,#[sO,xO],#[t,tx]⟩,ty,pos,after,guard⟩).run P w=.ok (.value cv) w'∧
   VRel pl' M' (.slice s.heap.n 0 0 xs.length none) cv∧cG pl' M' (s.heap.push (.row sz true 0 xs)) w'∧c8 s.heap pl M w (s.heap.push (.row sz true 0 xs)) pl' M' w'∧s.heap.n≤(s.heap.push (.row sz true 0 xs)).n:=by
 subst hsz;subst hbt;have hsr:=bV g1 g3 hs;have hxr:=bV g1 g3 hx;obtain⟨news,hsrc⟩:=zc (P:=P) g2 hxr (show kX s.heap (.ls xs)=some xs from rfl) hne hfit;obtain⟨i2,zv,hz1,hz2,hz3⟩:=mC hz;rw[hi]at hz1;cases hz1
 obtain⟨b1,b2⟩:=jE hsm;have hpos:0<xs.length:=qw.2 hne;generalize hq:a.eval sO=cs at hsr;generalize hq2:a.eval xO=cx at hxr hsrc;cases hsr with
 | ps hl htt hm hs2 hc=>
  rename_i ad cap sz c;have hcap:cap=0:=htt rfl;subst hcap;have hzr:=hzl _ _ _ (dO (pl:=pl) (M:=M) hz3);have hzt:=md hzf z (by simp);have hzsz:zv.cells.size=i.size:=by rw[←hzr.cells.len];omega
  have hrun:=run_append_grow_src (P:=P) w t tx ty e i zv ht hi hz2 (some ad) 0 0 [] (by simp[Builtin.firstCells,loadCells,loadCellsFrom]) cx xs.length news (hsrc.src (.inl hk)) (by omega) (by omega) (growslice_fits (by omega) (by grind));have hge:=grownCap_ge w (0+xs.length) 0 e;obtain⟨C,hC⟩:∃C,C=grownCap w (0+xs.length) 0 e:=⟨_,rfl⟩
  rw[←hC]at hrun hge;have hin:=e9 hzr hzt.2 (C-(0+xs.length)) hzt.1 hs0;have hzl:(Builtin.zeroCells zv.cells (C-(0+xs.length))).toList.toArray=(Array.range ((C-(0+xs.length))*i.size)).map (zv.cells[· %zv.cells.size]!):=by grind[Builtin.zeroCells]
  have hnl:(Builtin.zeroCells zv.cells (C-(0+xs.length))).toList.length=(List.replicate (C-(0+xs.length)) z).length *i.size:=by grind[Builtin.zeroCells]
  have hin2:=kc (news:=(Builtin.zeroCells zv.cells (C-(0+xs.length))).toList) hsrc.mem (by grind) hsrc.newsLen hnl #[];have hce:(news++(Builtin.zeroCells zv.cells (C-(0+xs.length))).toList).toArray++#[]=([]++news).toArray++Builtin.zeroCells zv.cells (C-(0+xs.length)):=by grind
  rw[hce]at hin2;have hcs:(([]++news).toArray++Builtin.zeroCells zv.cells (C-(0+xs.length))).size=(xs++List.replicate (C-(0+xs.length)) z).length *i.size:=by simp only[sj,Fe,Cc,hsrc.newsLen,size_zeroCells,hzsz,dL,pD,jN]
  obtain⟨cells,hcells⟩:∃cells,cells=([]++news).toArray++Builtin.zeroCells zv.cells (C-(0+xs.length)):=⟨_,rfl⟩
  rw[←hcells]at hrun hin2 hcs;have hxC:xs.length≤C:=by omega
  have hszc:cells.size=C*i.size:=by grind
  have hin3:InMem pl M cells 0 i.size xs:=⟨by rw[ei,hszc];exact eu _ hxC,fun x hx=>hin2.elem x (n6 _ hx),fun i x j y h1 h2=>hin2.cell i x j y (by grind) h2⟩
  let p:Place:=⟨w.heap.size,0,i.size,xs.length,C*i.size⟩
  have hwd:(w.drew.alloc (.cells cells e)).heap=w.heap.push (.cells cells e):=rfl;obtain⟨r1,r2⟩:=cG.alloc (o:=.row i.size true 0 xs) (p:=p) g2 hwd ⟨rfl,rfl,rfl,n8 _⟩ rfl
   ⟨rfl,rfl,rfl,hszc.symm,rfl,hs0,fun h=>(by grind),hin3.mono (fun id q hq=>⟨q,by rw[cO (by have:=g2.dom id q hq;omega)];omega,aB _,fun _=>rfl⟩) (fun _ _ h=>h)⟩
  refine⟨0,upd pl s.heap.n p,M,.slice (some ⟨w.heap.size,0,none⟩) (0+xs.length) C,w.drew.alloc (.cells cells e),rfl,?_,?_,r1,r2,n8 _⟩
  ·simp only[execOp,resolve,invoke,builtin,Sem.run_bind,Sem.run_pure,Result.andThen_ok,List.map_toArray,dn,yP,hq,hq2];show(Sem.run P (Builtin.append_ #[t,tx] ty #[Value.slice (some ad) 0 0,cx]) w).andThen _=_
   rw[hrun];rfl
  ·rw[ei]at hge ⊢;refine .slice (dM _ _ _) (aB _) hge (fun k hk=>by grind) (fun _=>⟨.inr (by grind),by grind,by grind,(fun _=>by grind),(fun k hk=>by grind)⟩)
end
end Go.Ev
namespace Go.Ev
open Go
theorem jq{s u:List UInt8}{H:AHeap}(h:s.length+u.length≤2^62):bb H (V6 (.str s) (.str u))=some (.val (.str (s++u)) H):=by grind[Nat.ble_eq_true_of_le,V6,bb]
def Od(s:aR):aR:=bif af (.ofNat (gD s 0).toNat) 124 then[92]else bif af (.ofNat (gD s 0).toNat) 92 then[92]else[]
def CU(s:aR)(w:PWord):aR:=s++[32]++Od w.text++w.text
def mV(s:aR)(l:List PWord):aR:=l.foldl CU s
theorem oE(s:aR)(w:PWord)(r:List PWord):mV s (w::r)=mV (CU s w) r:=rfl
theorem FJ{x:aR}{w:PWord}(h1:af (.ofNat (gD w.text 0).toNat) 124=true):CU x w=x++[32]++[92]++w.text:=by grind[CU,Od]
theorem FW{x:aR}{w:PWord}(h1:af (.ofNat (gD w.text 0).toNat) 124=false)(h2:af (.ofNat (gD w.text 0).toNat) 92=true):CU x w=x++[32]++[92]++w.text:=by grind[CU,Od]
theorem FX{x:aR}{w:PWord}(h1:af (.ofNat (gD w.text 0).toNat) 124=false)(h2:af (.ofNat (gD w.text 0).toNat) 92=false):CU x w=x++[32]++w.text:=by grind[CU,Od]
theorem Xz(d:Nat):aF (.ofNat d) 0=false:=rfl
def tT(u:TUnit):TUnit:=⟨0,0,0,u.kind,u.label,u.head,u.words,[]⟩
def Ea(u:TUnit)(d:Nat):Bool:=ak (aF (.ofNat d) 0)&&(ak (aF 8 (.ofNat d))&&kT (cH (tT u)))
def gz(u:TUnit)(d:Nat):aR:=
 bif ak (Ea u d)then[]else
  let a:=Lib.repeatL [32,32] d++c9 u.kind
  let b:=bif ak (af u.kind 0)then a++([32]++u.label)else a
  let c:=bif aF 0 (.ofNat u.head.length)then mV (b++[58]) u.head else b
  bif aF 0 (.ofNat u.words.length)then mV (c++[32,124]) u.words else c
mutual
def eY:Nat→TUnit→List aR
 |d,⟨a,i,n,k,l,h,w,ks⟩=>gz ⟨a,i,n,k,l,h,w,ks⟩ d::dX (d+1) ks
def dX:Nat→List TUnit→List aR
 |_,[]=>[]
 |d,k::r=>eY d k++dX d r
end
theorem C9(d:Nat)(u:TUnit):eY d u=gz u d::dX (d+1) u.kids:=by cases u;rw[eY];rfl
theorem xj(d:Nat):dX d []=[]:=by rw[dX]
theorem my(d:Nat)(k:TUnit)(r:List TUnit):dX d (k::r)=eY d k++dX d r:=by rw[dX]
def x9(u:TUnit):aR×Int:=
 bif ak (kT (cH u))then([],1)else
  bif aF 16384 (.ofNat (Lib.join (eY 0 u) [10]++[10]).length)then([],6)else(Lib.join (eY 0 u) [10]++[10],0)
theorem R7(s:aR):(Od s).length≤1:=by grind[Od]
theorem TU(s:aR)(w:PWord):(CU s w).length≤s.length+(w.text.length+2):=by grind[R7,CU]
theorem vd{l:List PWord}(h:∀w,w∈l→w.text.length≤24)(s:aR):(mV s l).length≤s.length+26*l.length:=by
 induction l generalizing s with
 |nil=>exact aB _
 |cons w r ih=>grind[TU,oE]
theorem Af(k:Int):(c9 k).length≤16:=by
 unfold c9;split<;>decide
theorem gC{a b:Int}(h:ak (aF a b)=true):b≤a:=aG (by cases q:aF a b<;>rw[q]at h<;>first|rfl|grind)
theorem Jg{s:aR}(h:ka s=true):s.length≤7:=by
 unfold ka at h;simp only[bq]at h;have h1:=gC h.2.1;have h2:=gC h.2.2.2.1;grind
theorem NU{s:aR}(h:sy s=true):1≤s.length∧s.length≤24:=by
 unfold sy at h;simp only[bq]at h;have h1:=gC h.1;have h2:=gC h.2.1;grind
theorem IB{l:List PWord}(h:oS l=true):l.length≤256∧∀w,w∈l→1≤w.text.length∧w.text.length≤24:=by
 unfold oS qp at h;simp only[bq,na]at h;have h1:=gC h.1;simp only[aP]at h1;exact⟨by omega,fun w hw=>NU (h.2.2 _ (ku.2 ⟨w,hw,rfl⟩))⟩
theorem O2{u:TUnit}(h:mK u=true):u.label.length≤7∧(u.head.length≤256∧∀w,w∈u.head→1≤w.text.length∧w.text.length≤24)∧(u.words.length≤256∧∀w,w∈u.words→1≤w.text.length∧w.text.length≤24):=by
 unfold mK at h;simp only[bq]at h;have h:=h.1;cases hk:af u.kind 0 with
 |true=>
  rw[hk]at h;simp only[cond_true,bq]at h;have h1:u.label=[]:=Hu h.1;have h2:=gC h.2;grind
 |false=>grind[Jg,IB]
theorem P8{q:TUnit→Bool}{u:TUnit}(h:wg q u=true):q u=true:=by grind[yM]
theorem Ls{u:TUnit}{d:Nat}(h:Ea u d=true):d≤8∧u.label.length≤7∧(u.head.length≤256∧∀w,w∈u.head→1≤w.text.length∧w.text.length≤24)∧(u.words.length≤256∧∀w,w∈u.words→1≤w.text.length∧w.text.length≤24):=by
 unfold Ea kT at h;simp only[bq]at h;have h1:=gC h.2.1;simp only[aP]at h1;have h2:=O2 (P8 h.2.2.1);rw[mf]at h2;obtain⟨e1,⟨e2,e3⟩,e4,e5⟩:=h2;refine⟨by omega,e1,⟨by grind[tT,TUnit.head],fun w hw=>?_⟩,⟨by grind[tT,TUnit.words],fun w hw=>?_⟩⟩
 ·exact e3 (g9 w) (ku.2 ⟨w,hw,rfl⟩)
 ·exact e5 (g9 w) (ku.2 ⟨w,hw,rfl⟩)
theorem E4{b:Bool}{x y:aR}{n:Nat}(h1:x.length≤n)(h2:y.length≤n):(bif b then x else y).length≤n:=by grind
theorem QT(u:TUnit)(d:Nat):(gz u d).length≤2^14:=by
 unfold gz;cases h:Ea u d with
 |false=>simp_all
 |true=>
  obtain⟨h1,h2,⟨h3,h4⟩,h5,h6⟩:=Ls h;have k:=Af u.kind;have r:=Lib.repeatL_length [32,32] d;simp only[cR,gN]at r;have ha:(Lib.repeatL [32,32] d++c9 u.kind).length≤32:=by grind
  have hh:∀w,w∈u.head→w.text.length≤24:=fun w hw=>(h4 w hw).2
  have hw:∀w,w∈u.words→w.text.length≤24:=fun w hw=>(h6 w hw).2
  simp only[ak,cond_false];have hb:∀x:aR,x.length≤32→(bif ak (af u.kind 0)then x++([32]++u.label)else x).length≤40:=fun x hx=>E4 (by grind) (by omega)
  have hc:∀x:aR,x.length≤40→(bif aF 0 (.ofNat u.head.length)then mV (x++[58]) u.head else x).length≤6700:=fun x hx=>E4 (by grind[vd]) (by omega)
  have hd:∀x:aR,x.length≤6700→(bif aF 0 (.ofNat u.words.length)then mV (x++[32,124]) u.words else x).length≤2^14:=fun x hx=>E4 (by have:=vd hw (x++[32,124]);grind) (by omega)
  grind
mutual
theorem lX(d:Nat):∀u:TUnit,(eY d u).length=nU u
 |⟨a,i,n,k,l,h,w,ks⟩=>by rw[eY,cR,xw (d+1) ks,nU];omega
theorem xw(d:Nat):∀l:List TUnit,(dX d l).length=eJ l
 |[]=>by rw[dX,eJ];rfl
 |k::r=>by rw[dX,eJ,dL,lX d k,xw d r]
end
mutual
theorem Ac(d:Nat):∀(u:TUnit)(s:aR),s∈eY d u→s.length≤2^14
 |⟨a,i,n,k,l,h,w,ks⟩,s,hs=>by
  rw[eY]at hs;rcases fQ.1 hs with rfl|hs
  ·exact QT _ _
  ·exact xk (d+1) ks s hs
theorem xk(d:Nat):∀(l:List TUnit)(s:aR),s∈dX d l→s.length≤2^14
 |[],s,hs=>by rw[dX]at hs;cases hs
 |k::r,s,hs=>by
  rw[dX]at hs;rcases iG.1 hs with hs|hs
  ·exact Ac d k s hs
  ·exact xk d r s hs
end
theorem uA{sep:aR}{B:Nat}:∀{l:List aR},(∀s,s∈l→s.length≤B)→(Lib.joinTail sep l).length≤l.length*(sep.length+B)
 |[],_=>bL _
 |x::r,h=>by
  have h1:=h x dI;have h2:=uA (sep:=sep) (l:=r) fun s hs=>h s (eW _ hs)
  grind[Lib.joinTail,Nat.succ_mul]
theorem Q7{sep:aR}{B:Nat}{l:List aR}(h:∀s,s∈l→s.length≤B):(Lib.join l sep).length≤l.length*(sep.length+B):=by
 cases l with
 |nil=>exact bL _
 |cons x r=>
  have h1:=h x dI;have h2:=uA (sep:=sep) (l:=r) fun s hs=>h s (eW _ hs)
  grind[Lib.join_cons,Nat.succ_mul]
theorem xQ:∀(l:List TUnit),(∀k,k∈l→nU (cH k)=nU k∧∀x,x∈bu (cH k)→∃y,y∈bu k∧x=cH y)→eJ (l.map cH)=eJ l∧∀x,x∈dr (l.map cH)→∃y,y∈dr l∧x=cH y
 |[],_=>⟨rfl,fun x hx=>by grind[gZ]⟩
 |k::r,h=>by
  obtain⟨a1,a2⟩:=h k dI;obtain⟨b1,b2⟩:=xQ r fun k hk=>h k (eW _ hk)
  grind[eJ,bN]
theorem Nc:∀u:TUnit,nU (cH u)=nU u∧∀x,x∈bu (cH u)→∃y,y∈bu u∧x=cH y:=by
 refine TUnit.ind fun u ih=>?_
 obtain⟨h1,h2⟩:=xQ u.kids ih;refine⟨?_,fun x hx=>?_⟩
 ·rw[jy (cH u),jy u,mf];exact congrArg (1+ ·) h1
 ·rw[dj,mf]at hx;rcases fQ.1 hx with rfl|hx
  ·grind[dj,List.mem_cons_self,mf]
  ·obtain⟨y,h3,h4⟩:=h2 x hx;grind[dj]
end Go.Ev
namespace Go.Ev
open Go
structure OkB(u:TUnit):Prop where
 nd:(dz u).Nodup
 n:nU u≤1024
 w:∀x,x∈bu u→x.head.length≤300∧x.words.length≤300
theorem OkB.uni{u v x:TUnit}(h:OkB u)(hv:v∈bu u)(hx:x∈bu u)(e:bw v=bw x):v=x:=C2 h.nd hv hx e
theorem tq{u x:TUnit}(hx:x∈bu u):cV (bw x) u=true:=L3 u ⟨x,hx,rfl⟩
theorem ml:∀{l:List TUnit}{x:TUnit},x∈dr l→∃k,k∈l∧x∈bu k
 |[],x,h=>by grind[gZ]
 |k::r,x,h=>by
  rw[bN]at h;rcases iG.1 h with h|h
  ·simp_all
  ·obtain⟨k',h1,h2⟩:=ml h;grind
theorem Cs{u:TUnit}:∀(p:List PStep)(l:List TUnit),(∀x,x∈l→x∈bu u)→∀x,x∈gp p l→x∈bu u
 |[],l,h,x,hx=>h x hx
 |s::r,l,h,x,hx=>by
  refine Cs r _ (fun y hy=>?_) x hx;grind[jY,bC,dU]
theorem OV{u:TUnit}{p:List PStep}{x:TUnit}(h:x∈dT u p):x∈bu u:=by
 unfold dT at h;grind[dU,Cs]
theorem rX{u:TUnit}{p:List PStep}(h:(aH u p).2=0):cV (aH u p).1 u=true:=by
 unfold aH at h ⊢;split at h
 ·omega
 ·rename_i x e;exact tq (OV (by rw[e];simp_all))
 omega
def Fx(u:TUnit)(sp:PSpot):Prop:=∃n:Nat,sp.at_=Int.ofNat n∧n≤2^20∧∀v,v∈bu u→fO sp.id v=true→n≤v.kids.length
theorem Qa{u:TUnit}(hu:OkB u){p:PId}(h:iq p u=true){n:Nat}(hn:n≤1):Fx u ⟨sT p u,qu p u+Int.ofNat n⟩:=by
 obtain⟨q,i,h1,h2,h3,h4,h5⟩:=vR u h;have hk:=bg q;have:=dN h1;have:=hu.n;refine⟨i+n,by simp_all,by omega,fun v hv hi=>?_⟩;have hi:fO (sT p u) v=true:=hi;rw[gE,h2]at hi;rw[hu.uni hv h1 hi];omega
theorem GF{u:TUnit}(hu:OkB u){p:PId}(hp:cV p u=true){w:Int}(he:(dw w u p).2=0):Fx u (dw w u p).1:=by
 unfold dw at he ⊢;cases h0:af w 0 with
 |true=>exact⟨0,rfl,bL _,fun v _ _=>bL _⟩
 | false=>
  rw[h0]at he;simp only[cond_false]at he ⊢;cases h1:af w 1 with
  |true=>
   obtain⟨a,b⟩:=vO hp;have hk:=bg (ee p u);have:=dN a;have:=hu.n;refine⟨_,rfl,by omega,fun v hv hi=>?_⟩;rw[gE]at hi;rw[hu.uni hv a (hi.trans b.symm)];omega
  |false=>
   rw[h1]at he;simp only[cond_false]at he ⊢;have key:∀n:Nat,n≤1→(nF u p (Int.ofNat n)).2=0→Fx u (nF u p (Int.ofNat n)).1:=fun n hn he=>by grind[nF,Qa]
   cases h2:af w 2 with
   |true=>grind
   |false=>rw[h2]at he;exact key 0 (bL _) he
theorem OkB.with{u:TUnit}(hu:OkB u){q:PId}{f:TUnit→TUnit}
  (hf:∀v C,v∈bu u→bw v=q→(dz u).Perm (C++dz v)→(C++dz (f v)).Nodup∧(C++dz (f v)).length≤1024∧∀x,x∈bu (f v)→x.head.length≤300∧x.words.length≤300):OkB (dW q f u):=by
 cases hq:cV q u with
 |false=>grind[ID]
 |true=>
  obtain⟨v,C,h1,h2,h3,h4⟩:=sB u hq;obtain⟨h5,h6⟩:=h4 f;obtain⟨a,b,c⟩:=hf v C h1 h2 h3;refine⟨h5.nodup_iff.2 a,by rw[mX,h5.length_eq];omega,fun x hx=>?_⟩;grind[cases OkB]
theorem OkB.keep{u:TUnit}(hu:OkB u){q:PId}{f:TUnit→TUnit}(h1:∀v,bw (f v)=bw v∧(f v).kids=v.kids)(h2:∀v,v∈bu u→(f v).head.length≤300∧(f v).words.length≤300):OkB (dW q f u):=by
 refine hu.with fun v C hv hq hp=>?_
 have e:dz (f v)=dz v:=by grind[nr]
 rw[e];refine⟨hp.nodup_iff.1 hu.nd,by rw[←hp.length_eq,←mX];exact hu.n,fun x hx=>?_⟩;rw[dj]at hx;rcases fQ.1 hx with rfl|hx
 ·simp_all
 ·rw[(h1 v).2]at hx;obtain⟨k,k1,k2⟩:=ml hx;grind[jY,bC,cases OkB]
theorem UX{v x y:TUnit}{i:Nat}(h:y∈bu (du i x v)):y=du i x v∨y∈bu x∨y∈bu v:=by
 rw[dj]at h;rcases fQ.1 h with rfl|h
 ·simp_all
 ·obtain⟨k,k1,k2⟩:=ml h;have k1:k∈v.kids.take i++(x::v.kids.drop i):=k1;rcases iG.1 k1 with q|q
  ·grind[bC]
  ·grind[bC]
theorem OkB.ins{u x:TUnit}(hu:OkB u){q:PId}{i:Nat}(hx:(dz x).Nodup)(hd:∀p,p∈dz x→p∉dz u)(hn:nU u+nU x≤1024)(hw:∀y,y∈bu x→y.head.length≤300∧y.words.length≤300):OkB (dW q (du i x) u):=by
 refine hu.with fun v C hv hq hp=>?_
 have h1:(C++dz (du i x v)).Perm (dz u++dz x):=((List.Perm.append_left C U2).trans (by grind))
 refine⟨h1.nodup_iff.2 (List.nodup_append.2 ⟨hu.nd,hx,fun a ha b hb e=>hd b hb (e▸ha)⟩),by rw[h1.length_eq,dL,←mX,←mX];omega,fun y hy=>?_⟩;rcases UX hy with rfl|h|h
 ·exact hu.w v hv
 all_goals grind[jY,cases OkB]
theorem Ly{v y:TUnit}{i:Nat}(h:y∈bu (gI i v)):y=gI i v∨y∈bu v:=by
 rw[dj]at h;rcases fQ.1 h with rfl|h
 ·simp_all
 ·obtain⟨k,k1,k2⟩:=ml h;exact .inr (bC (List.mem_of_mem_eraseIdx (show k∈v.kids.eraseIdx i from k1)) k2)
theorem OkB.del{u v:TUnit}(hu:OkB u){i:Nat}(hv:v∈bu u)(hi:i<v.kids.length):OkB (dW (bw v) (gI i) u)∧(dz u).Perm (dz (dW (bw v) (gI i) u)++dz (gD v.kids i)):=by
 obtain⟨v',C,h1,h2,h3,h4⟩:=sB u (tq hv);obtain rfl:=hu.uni h1 hv h2;obtain⟨h5,h6⟩:=h4 (gI i);have h7:(dz u).Perm (dz (dW (bw v') (gI i) u)++dz (gD v'.kids i)):=h3.trans ((List.Perm.append_left C (U3 hi)).trans (by grind));have hnd:=h7.nodup_iff.1 hu.nd;refine⟨⟨(List.nodup_append.1 hnd).1,?_,fun x hx=>?_⟩,h7⟩
 ·have:=h7.length_eq;grind[mX,cases OkB]
 ·rcases h6 x hx with h|⟨y,y1,y2,y3,y4,y5⟩
  ·rcases Ly h with rfl|h
   ·exact hu.w v' hv
   grind[jY,cases OkB]
  grind[cases OkB]
theorem Pd{q:PId}{f:TUnit→TUnit}:∀u:TUnit,cV q u=true→∃v,v∈bu u∧bw v=q∧f v∈bu (dW q f u):=by
 refine TUnit.ind fun u ih h=>?_
 cases hi:fO q u with
 |true=>grind[dU,gE,re]
 | false=>
  rw [kR hi];have key:∀r:List TUnit,(∀k,k∈r→k∈u.kids)→(∃k,k∈r∧cV q k=true)→∃v,v∈dr r∧bw v=q∧f v∈dr (ef q f r):=by
   intro r;induction r with
   |nil=>grind
   | cons k r ihr=>
    intro hs ⟨y,hy,hyq⟩;rw[jO,bN];cases hk:cV q k with
    |true=>grind[bN]
    |false=>
     rcases fQ.1 hy with rfl|hy
     ·grind
     ·obtain⟨v,a,b,c⟩:=ihr (fun k hk=>hs k (eW _ hk)) ⟨y,hy,hyq⟩;grind[bN]
  have hx:=vO h;have hne:ee q u≠u:=fun e=>by grind[gE]
  have hm:ee q u∈dr u.kids:=by grind[dj]
  obtain⟨k,k1,k2⟩:=ml hm;obtain⟨v,a,b,c⟩:=key u.kids (fun _ h=>h) ⟨k,k1,L3 k ⟨_,k2,hx.2⟩⟩;grind[dj,xJ]
theorem Rl{u q:TUnit}(hu:OkB u){i:Nat}(hq:q∈bu u)(hi:i<q.kids.length){p t:PId}{w:Int}{anc bs:Bool}(ht:cV t u=true){ok:Bool}
  (he:(n4 p t (bw q) (Int.ofNat i) ok anc bs (dw w u t).1 (dw w u t).2).2=0):
  Fx (dW (bw q) (gI i) u) (n4 p t (bw q) (Int.ofNat i) ok anc bs (dw w u t).1 (dw w u t).2).1:=by
 obtain⟨hr,_⟩:=hu.del hq hi;obtain⟨v',C,h1,h2,h3,h4⟩:=sB u (tq hq);obtain rfl:=hu.uni h1 hq h2;obtain⟨_,h6⟩:=h4 (gI i);have hlen:(gI i v').kids.length=v'.kids.length-1:=List.length_eraseIdx_of_lt hi;have own:∀v,v∈bu (dW (bw v') (gI i) u)→bw v=bw v'→v.kids.length=v'.kids.length-1:=fun v hv e=>by
  obtain⟨z,z1,z2,z3⟩:=Pd (q:=bw v') (f:=gI i) u (tq hq);obtain rfl:=hu.uni z1 hq z2;rw[hr.uni hv z3 (e.trans rfl)];omega
 have oth:∀v,v∈bu (dW (bw v') (gI i) u)→bw v≠bw v'→∃y,y∈bu u∧bw v=bw y∧v.kids.length=y.kids.length:=fun v hv hne=>by
  rcases h6 v hv with h|⟨y,y1,y2,y3,_⟩
  ·rcases Ly h with rfl|h
   ·exact absurd rfl hne
   ·exact⟨v,jY hq h,rfl,rfl⟩
  grind
 have hk:=bg v';have hb:=dN hq;have hn:=hu.n;unfold n4 at he ⊢;cases c1:(ak ok||((ak (bB t p)&&anc)||(bB t p&&ak bs)))with
 |true=>grind
 | false=>
  rw[c1]at he;simp only[cond_false]at he ⊢;cases c2:bB t p with
  |true=>
   refine⟨i,rfl,by omega,fun v hv hid=>?_⟩;grind[gE]
  | false=>
   rw[c2]at he;simp only[cond_false]at he ⊢;have e0:(dw w u t).2=0:=by grind
   obtain⟨n,n1,n2,n3⟩:=GF hu ht e0;rw[e0,n1];cases c4:bB (dw w u t).1.id (bw v')with
   |false=>
    have hne:(dw w u t).1.id≠bw v':=fun e=>by grind[lJ]
    rw[show(af 0 0&&(false&&aF (Int.ofNat i) (Int.ofNat n)))=false from rfl];refine⟨n,n1,n2,fun v hv hid=>?_⟩;grind[gE]
   | true=>
    have heq:=uL c4;have hn':=n3 v' hq ((gE _ v').2 heq.symm);cases c5:aF (Int.ofNat i) (Int.ofNat n)with
    |true=>
     have c5:=ar c5;simp only[aP]at c5;rw[show(af 0 0&&(true&&true))=true from rfl];refine⟨n-1,by grind,by omega,fun v hv hid=>?_⟩;grind[gE]
    |false=>
     have c5:=aG c5;simp only[aP]at c5;rw[show(af 0 0&&(true&&false))=false from rfl];refine⟨n,n1,n2,fun v hv hid=>?_⟩;grind[gE]
def za(a i:Int)(n k:Nat):List PId:=(List.range' (n+1) k).map fun j=>⟨a,i,Int.ofNat j⟩
mutual
theorem vA(a i:Int):∀(u:TUnit)(n w:Nat),dz (cS a i u n w)=za a i n (nU u)
 |⟨a',i',n',k,l,h,ws,ks⟩,n,w=>by
  rw[nr,cS,nU];show _::iD (fK a i ks (n+1) _)=_
  rw[zy a i ks (n+1)];unfold za;rw[Nat.add_comm 1 (eJ ks),Ca,dn];rfl
theorem zy(a i:Int):∀(l:List TUnit)(n w:Nat),iD (fK a i l n w)=za a i n (eJ l)
 |[],n,w=>by rw[fK,eJ,rG];rfl
 |k::r,n,w=>by
  rw[fK,eJ,gc,vA a i k n w,zy a i r (n+nU k)];unfold za;rw[←qY,show n+nU k+1=n+1+nU k by omega,←List.range'_append_1]
end
theorem P0(a i:Int)(n k:Nat):(za a i n k).Nodup:=by
 unfold za;exact List.Pairwise.map _ (fun x y hne e=>hne (Int.ofNat.inj (congrArg PId.n e))) List.nodup_range'
mutual
theorem K4(a i:Int)(B:Nat):∀(u:TUnit)(n w:Nat),(∀x,x∈bu u→x.head.length≤B∧x.words.length≤B)→∀x,x∈bu (cS a i u n w)→x.head.length≤B∧x.words.length≤B
 |⟨a',i',n',k,l,h,ws,ks⟩,n,w,hB,x,hx=>by
  rw[cS,bu]at hx;rcases fQ.1 hx with rfl|hx
  ·have:=hB _ (by rw[bu];exact dI);exact⟨by show(cD _ _ _ _).length≤B;rw[gX,b8,cZ];exact this.1,by show(cD _ _ _ _).length≤B;rw[gX,b8,cZ];exact this.2⟩
  ·exact FL a i B ks _ _ (fun y hy=>hB y (by rw[bu];exact eW _ hy)) x hx
theorem FL(a i:Int)(B:Nat):∀(l:List TUnit)(n w:Nat),(∀x,x∈dr l→x.head.length≤B∧x.words.length≤B)→∀x,x∈dr (fK a i l n w)→x.head.length≤B∧x.words.length≤B
 |[],n,w,hB,x,hx=>by rw[fK,dr]at hx;cases hx
 |k::r,n,w,hB,x,hx=>by
  rw[fK,dr]at hx;rcases iG.1 hx with hx|hx
  ·exact K4 a i B k _ _ (fun y hy=>hB y (by rw[dr];exact n6 _ hy)) x hx
  ·exact FL a i B r _ _ (fun y hy=>hB y (by rw[dr];exact qq _ hy)) x hx
end
theorem PS(a i:Int)(u:TUnit)(n w:Nat):nU (cS a i u n w)=nU u:=by grind[mX,vA,za]
end Go.Ev
namespace Go.Ev
open Go
def Rt(u v:TUnit):Prop:=jH v []=jH u []
variable{q:PId}{f:TUnit→TUnit}{u:TUnit}
theorem Lq(h:∀v,jH (f v) []=jH v [])(u:TUnit):Rt u (dW q f u):=by
 unfold Rt;cases hi:fO q u with
 |true=>grind[re]
 |false=>rw[kR hi];rfl
theorem LU(h:iq q u=true):Rt u (dW q f u):=by
 cases hi:fO q u with
 |true=>unfold iq at h;rw[rf hi]at h;cases h
 |false=>unfold Rt;rw[kR hi];rfl
end Go.Ev
