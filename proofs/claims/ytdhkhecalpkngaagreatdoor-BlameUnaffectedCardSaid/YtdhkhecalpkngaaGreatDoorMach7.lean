/- An abstract machine for runs of the program, proved sound against the model: part 7. No conditions. -/
import Derived.Test.YtdhkhecalpkngaaGreatDoorMach6
import Derived.Laws.Externs
import Derived.Lib.Join
import Derived.Lib.Repeat
namespace Go.Ev
open Go
def pY(w:PWord):Bool:=aj (ab w.act 0&&(ab w.item 0&&ab w.at_ 0))
def Dv(x:TUnit):Bool:=fD bM x&&(aj (x.head.any pY)&&aj (x.words.any pY))
def H4(u:TUnit):Bool:=kL u&&wX Dv u
def gG(w:PWord):PWord:=⟨w.text,0,0,0⟩
mutual
def cR:TUnit->TUnit
 |⟨_,_,_,k,l,h,w,ks⟩=>⟨0,0,0,k,l,h.map gG,w.map gG,tk ks⟩
def tk:List TUnit->List TUnit
 |[]=>[]
 |k::r=>cR k::tk r
end
theorem yH:∀(l:List TUnit),tk l=l.map cR
 |[]=>by rw[tk];rfl
 |k::r=>by rw[tk,yH r];rfl
theorem mh(u:TUnit):cR u=⟨0,0,0,u.kind,u.label,u.head.map gG,u.words.map gG,u.kids.map cR⟩:=by cases u;rw[cR,yH];rfl
theorem Q4{p:PId}{u:TUnit}(h:bp p u=false):jU p u=false:=by unfold jU;rw[Ax h];rfl
theorem Ws{p:PId}{u:TUnit}(h:jU p u=false):rE p u=bM:=by unfold rE;simp_all
theorem P0{p:PId}{u:TUnit}(h:jU p u=false):qg p u= -1:=by unfold qg;simp_all
theorem I4{p:PId}{u:TUnit}(h:jU p u=true):rE p u=aI (Ie p u):=by unfold rE;simp_all
theorem I5{p:PId}{u:TUnit}(h:jU p u=true):qg p u=dn (bp p) (Ie p u).kids 0:=by unfold qg;simp_all
def oC(p:PId)(u:TUnit)(k:Nat):List PId:=((((aC p u).take ((aC p u).length -1)).drop k).map aI).reverse
theorem EI(p:PId)(u:TUnit):oC p u 0=mg p u:=rfl
theorem Db(p:PId)(u:TUnit):oC p u ((aC p u).length -1)=[]:=by
 unfold oC;simp_all
theorem BX(p:PId)(u:TUnit){k:Nat}(h:k+1<(aC p u).length):oC p u k=oC p u (k+1)++[aI (gD (aC p u) k)]:=by
 unfold oC;have h1:k<((aC p u).take ((aC p u).length -1)).length:=by grind
 rw[OP h1,eb,List.reverse_cons];grind[gD]
theorem Da(p:PId)(u:TUnit)(k:Nat):(oC p u k).length<=(aC p u).length:=by grind[oC]
def ll(s:PStep)(u:TUnit):List TUnit:=(bU u).filter (bu s)
def dq(s:PStep)(l:List TUnit):List TUnit:=(dZ l).filter (bu s)
theorem zx(s:PStep)(u:TUnit):ll s u=(bif bu s u then[u]else[])++dq s u.kids:=by
 unfold ll dq;rw[ch,List.filter_cons];grind
theorem mR(s:PStep):dq s []=[]:=by unfold dq;rw[eH];rfl
theorem gu(s:PStep)(k:TUnit)(r:List TUnit):dq s (k::r)=ll s k++dq s r:=by grind[ll,dq,bw]
theorem mn(s:PStep)(u:TUnit):(ll s u).length<=nU u:=by grind[ll,GZ]
theorem sE:∀(l m:List TUnit),eQ (l++m)=eQ l+eQ m
 |[],m=>by rw[ma,yf,f8]
 |x::r,m=>by rw[yl,bf,bf,sE r m,Nat.add_assoc]
theorem zp(q:TUnit->Bool):∀(l:List TUnit),eQ (l.filter q)<=eQ l
 |[]=>by simp_all
 |x::r=>by
  rw[List.filter_cons,bf];have:=zp q r;cases q x with
  |true=>rw[if_pos rfl,bf];omega
  |false=>grind
theorem zo(q:TUnit->Bool):∀(l:List TUnit),eQ (l.flatMap fun x=>x.kids.filter q)<=eQ l
 |[]=>by simp_all
 |x::r=>by
  rw[BD,sE,bf];have:=zo q r;grind[zp,jQ]
theorem Lj{n:Nat}:∀(l:List TUnit),(∀x,x∈l->nU x<=n)->eQ l<=n*l.length
 |[],_=>by simp_all[ma]
 |x::r,h=>by
  rw[bf,cO,Nat.mul_add,Nat.mul_one];have:=h x (eF ..);have:=Lj r fun y hy=>h y (eG _ hy)
  omega
theorem Gy(s:PStep)(u:TUnit)(hp:∀x,x∈bU u->nU x<=nU u):eQ (ll s u)<=nU u*nU u:=by
 have h1:=Lj (n:=nU u) (ll s u) fun x hx=>hp x (yc.1 hx).1
 exact bH h1 (Nat.mul_le_mul_left _ (mn s u))
theorem Is(l:List TUnit):gy [] l=l:=rfl
theorem Jf{u:TUnit}{p:List PStep}(h:kH p=false):dO u p=[]:=by unfold dO;simp_all
theorem G7{u:TUnit}(h:kH []=true):dO u []=[u]:=by unfold dO;simp_all
theorem G8{u:TUnit}{s:PStep}{r:List PStep}(h:kH (s::r)=true)(hb:na s=true):dO u (s::r)=gy r [u]:=by
 unfold dO;simp_all
theorem wR{u:TUnit}{s:PStep}{r:List PStep}(h:kH (s::r)=true)(hb:na s=false):dO u (s::r)=gy r (ll s u):=by
 unfold dO;rw[h];show gy r (bif na s then[u]else(bU u).filter (bu s))=_
 rw[hb];rfl
def cn(s:PStep)(l:List TUnit):List TUnit:=l.flatMap fun x=>x.kids.filter (bu s)
section
variable{s:PStep}{l m r r1 X:List TUnit}{w w1:TUnit}{n N:Nat}{rs0:List PStep}{R at0:List TUnit}
theorem Jj:cn s []=[]:=rfl
theorem wL:cn s (w::r)=w.kids.filter (bu s)++cn s r:=by grind[cn]
theorem It(rs:List PStep):gy (s::rs) l=gy rs (cn s l):=rfl
theorem Ga:eQ (cn s l)<=eQ l:=zo _ l
theorem fA(h:R=gy (s::rs0) l/\eQ l<=N)(e:cn s []=cn s l):R=gy rs0 []/\eQ []<=N:=⟨by rw[h.1,It,<-e];rfl,by simp_all[ma]⟩
theorem fB(h:R=gy (s::rs0) l/\eQ l<=N)(e:m++cn s []=cn s l):R=gy rs0 m/\eQ m<=N:=by grind[Jj,It,Ga]
theorem gA(h:cn s (w1::r1)=X):w1.kids.filter (bu s)++cn s r1=X:=wL.symm.trans h
theorem gB(h:n=m.length/\m++cn s (w1::r1)=X/\m.length+eQ (w1::r1)<N):n=m.length/\m++(w1.kids.filter (bu s)++cn s r1)=X/\m.length+(eQ w1.kids+eQ r1)<N:=⟨h.1,wL (s:=s)▸h.2.1,by grind[bf,jQ]⟩
theorem hA0(h:(w::r).filter (bu s)++cn s r1=X)(q:bu s w=false):r.filter (bu s)++cn s r1=X:=by simp_all
theorem hB0(h:n=m.length/\m++((w::r).filter (bu s)++cn s r1)=X/\m.length+(eQ (w::r)+eQ r1)<N)(q:bu s w=false):n=m.length/\m++(r.filter (bu s)++cn s r1)=X/\m.length+(eQ r+eQ r1)<N:=⟨h.1,by simp_all,by grind[bf]⟩
theorem hB1(h:n=m.length/\m++((w::r).filter (bu s)++cn s r1)=X/\m.length+(eQ (w::r)+eQ r1)<N)(q:bu s w=true):n+1=(m++[w]).length/\(m++[w])++(r.filter (bu s)++cn s r1)=X/\(m++[w]).length+(eQ r+eQ r1)<N:=⟨by simp_all,by simp_all,by grind[JJ,bf]⟩
end
section
variable{p:PId}{u:TUnit}{i:Int}{l:List PId}
theorem Od(hn:i=Int.ofNat (aC p u).length -2)(h0:au i 0=false):[aI (gD (aC p u) i.toNat)]=oC p u (i-1+1).toNat:=by
 have h0:=aB h0;simp only[aL]at hn;have e:(i-1+1).toNat=i.toNat:=by omega
 rw[e,BX p u (k:=i.toNat) (by omega),show i.toNat+1=(aC p u).length -1 by omega,Db,yf]
theorem IQ(h:l=oC p u (i+1).toNat)(hi:i+2<=(aC p u).length)(h0:au i 0=false):l++[aI (gD (aC p u) i.toNat)]=oC p u (i-1+1).toNat:=by
 have h0:=aB h0;grind[BX]
theorem Sl(h:l=oC p u (i+1).toNat)(hi: -1<=i)(h0:au i 0=true):l=mg p u:=by
 have h0:=ap h0;rw[h,show(i+1).toNat=0 by omega,EI]
theorem Si(hn:i=Int.ofNat (aC p u).length -2)(h0:au i 0=true):mg p u=[]:=by
 have h0:=ap h0;simp only[aL]at hn;rw[<-EI];have:(aC p u).length -1=0:=by omega
 grind[Db]
end
theorem K9{s:PStep}{l m:List TUnit}(h:dq s l=m)(hm:m≠[]):l≠[]:=by grind[mR]
theorem Wv(l:List TUnit){z:AV}(hz:z.top=0):aq (l.map aU++[z])=0:=j8.2 fun x hx=>by grind[gT]
theorem o6{l x r:List TUnit}{w:TUnit}{j:Nat}(h1:l.drop j=x)(h2:x=w::r):nU w+eQ r<=eQ l:=by
 have e:l=l.take j++(w::r):=by grind[List.take_append_drop]
 grind[sE,bf]
end Go.Ev
namespace Go.Ev
open Go
def qa(l:List aP)(n:Int):Bool:=qc l&&aj (au (.ofNat l.length) n)
def Bo(n:Int):Bool:=aj (au n 0)&&aj (au 256 n)
theorem Je{u:TUnit}(p:List PStep)(h:nU u<=2^11):(dO u p).length<=2^22:=by
 have key:∀(rs:List PStep)(l:List TUnit),eQ (gy rs l)<=eQ l:=by
  intro rs;induction rs with
  |nil=>intro l;exact af _
  |cons s r ih=>grind[It,Ga]
 unfold dO;cases kH p with
 |false=>simp_all
 | true=>
  simp only[cond_true];cases p with
  |nil=>simp_all
  | cons s r=>
   simp only[];refine bH (x8 _) (bH (key r _) ?_);cases na s with
   |true=>grind[bf,ma]
   |false=>
    simp only[cond_false];have h1:=Gy s u fun x hx=>dA hx
    have h2:nU u*nU u<=2^11*2^11:=Nat.mul_le_mul h h;exact bH h1 h2
theorem HV{u:TUnit}{p:List PStep}(h:dO u p=[]):ar u p=(bM,7):=by grind[ar]
theorem HK{u x:TUnit}{p:List PStep}(h:dO u p=[x]):ar u p=(aI x,0):=by grind[ar]
theorem HJ{u x y:TUnit}{r:List TUnit}{p:List PStep}(h:dO u p=x::y::r):ar u p=(bM,8):=by grind[ar]
def xk(own:PId)(i:Int)(ok:Bool)(n:Int):PSpot×Int:=bif ok then(⟨own,i+n⟩,0)else(dF,9)
def Cy(e:Int)(sp:PSpot)(e2:Int):PSpot×Int:=bif ab e 0 then(bif ab e2 0 then(sp,0)else(dF,e2))else(dF,e)
def nb(p q own:PId)(at_:Int)(ok c bs:Bool)(sp:PSpot)(e:Int):PSpot×Int:=
 bif aj ok||((aj (bW q p)&&c)||(bW q p&&aj bs))then(dF,9)
 else bif bW q p then(⟨own,at_⟩,0)
 else bif ab e 0&&(bW sp.id own&&au at_ sp.at_)then(⟨sp.id,sp.at_-1⟩,e)else(sp,e)
section
variable{a i:Int}{l r x:List aP}{s:aP}{m:List PWord}{j n k:Nat}
theorem sG(h1:l.drop j=x)(h2:x=s::r)(h3:s::r=l):1=[(⟨s,a,i,.ofNat (n+j)⟩:PWord)].length/\0<[(⟨s,a,i,.ofNat (n+j)⟩:PWord)].length/\[(⟨s,a,i,.ofNat (n+j)⟩:PWord)]++cA a i r (n+[(⟨s,a,i,.ofNat (n+j)⟩:PWord)].length)=cA a i l n/\[(⟨s,a,i,.ofNat (n+j)⟩:PWord)].length+r.length=l.length:=by
 have e:=congrArg List.length (h1.trans h2);have e2:=congrArg List.length h3;simp only[yd,cO]at e e2;have:j=0:=by omega
 subst this;refine⟨rfl,Nat.one_pos,?_,by grind⟩;rw[<-h3,cA];rfl
theorem vt(h1:l.drop j=x)(h2:x=s::r)(h:k=m.length/\0<m.length/\m++cA a i (s::r) (n+m.length)=cA a i l n/\m.length+(s::r).length=l.length):
  k+1=(m++[(⟨s,a,i,.ofNat (n+j)⟩:PWord)]).length/\0<(m++[(⟨s,a,i,.ofNat (n+j)⟩:PWord)]).length/\(m++[(⟨s,a,i,.ofNat (n+j)⟩:PWord)])++cA a i r (n+(m++[(⟨s,a,i,.ofNat (n+j)⟩:PWord)]).length)=cA a i l n/\(m++[(⟨s,a,i,.ofNat (n+j)⟩:PWord)]).length+r.length=l.length:=by
 have e:=congrArg List.length (h1.trans h2);obtain⟨q1,q2,q3,q4⟩:=h;simp only[yd,cO]at e q4;have:j=m.length:=by omega
 subst this;simp only[dT,cO,gp];refine⟨by omega,by omega,?_,by omega⟩;rw[<-q3,cA,jj];rfl
end
theorem gE(l:List PWord):(bP l).length=l.length:=cX ..
structure StampI(a i:Int)(ks:List TUnit)(n0 w0:Nat)(k n w:Nat)(m:List TUnit):Prop where
 len:m.length=k
 le:k<=ks.length
 all:m++fJ a i (ks.drop k) n w=fJ a i ks n0 w0
 num:n+eQ (ks.drop k)=n0+eQ ks
 wd:w+(kG (ks.drop k)).length=w0+(kG ks).length
theorem StampI.start(a i:Int)(ks:List TUnit)(n0 w0:Nat):StampI a i ks n0 w0 0 n0 w0 []:=⟨rfl,bE _,rfl,rfl,rfl⟩
theorem StampI.step{a i:Int}{ks:List TUnit}{n0 w0 k n w:Nat}{m:List TUnit}(h:StampI a i ks n0 w0 k n w m)(hk:k<ks.length):
  StampI a i ks n0 w0 (k+1) (n+nU (gD ks k)) (w+(ny (gD ks k)).length) (m++[cD a i (gD ks k) n w]):=by
 have e:=yq hk;obtain⟨h1,h2,h3,h4,h5⟩:=h;rw[e,Dp]at h3;rw[e,bf]at h4;rw[e,s8,dT]at h5;exact⟨by simp_all,hk,by simp_all,by omega,by omega⟩
theorem StampI.done{a i:Int}{ks:List TUnit}{n0 w0 k n w:Nat}{m:List TUnit}(h:StampI a i ks n0 w0 k n w m)(hk:¬k<ks.length):m=fJ a i ks n0 w0/\n=n0+eQ ks/\w=w0+(kG ks).length:=by grind[Fp,ma,Dc,cases StampI]
theorem Xd{α:Type}[Inhabited α]{m r:List α}{k:Nat}(h:m.length=k):gD (m++r) k=gD r 0:=by grind[gD]
theorem Ur{α:Type}[Inhabited α]{l:List α}{k:Nat}:gD (l.drop k) 0=gD l k:=by simp_all[gD]
theorem TU{α:Type}{m r:List α}{k:Nat}{x y:α}(h:m.length=k):(m++x::r).set k y=(m++[y])++r:=by simp_all
def gq(a i:Int)(ks:List TUnit)(n0 w0 k n w:Nat)(L:List TUnit):Prop:=∃m,L=m++ks.drop k/\StampI a i ks n0 w0 k n w m
section
variable{a i:Int}{ks L:List TUnit}{n0 w0 k n w:Nat}
theorem gq.start(a i:Int)(ks:List TUnit)(n0 w0:Nat):gq a i ks n0 w0 0 n0 w0 ks:=⟨[],rfl,StampI.start ..⟩
theorem gq.len(h:gq a i ks n0 w0 k n w L):L.length=ks.length:=by
 obtain⟨m,rfl,hI⟩:=h;grind[cases StampI]
theorem gq.at_(h:gq a i ks n0 w0 k n w L):gD L k=gD ks k:=by
 obtain⟨m,rfl,hI⟩:=h;rw[Xd hI.len,Ur]
theorem gq.step(h:gq a i ks n0 w0 k n w L)(hk:k<ks.length):gq a i ks n0 w0 (k+1) (n+nU (gD L k)) (w+(ny (gD L k)).length) (L.set k (cD a i (gD L k) n w)):=by
 rw[h.at_];obtain⟨m,rfl,hI⟩:=h;exact⟨m++[cD a i (gD ks k) n w],by rw[yq hk,TU hI.len],hI.step hk⟩
theorem gq.num(h:gq a i ks n0 w0 k n w L):n+eQ (ks.drop k)=n0+eQ ks/\w+(kG (ks.drop k)).length=w0+(kG ks).length:=by
 obtain⟨m,rfl,hI⟩:=h;grind[cases StampI]
theorem gq.done(h:gq a i ks n0 w0 k n w L)(hk:¬k<ks.length):L=fJ a i ks n0 w0/\n=n0+eQ ks/\w=w0+(kG ks).length:=by
 obtain⟨m,rfl,hI⟩:=h;rw[BF (by omega),ej];exact hI.done hk
theorem gq.room(h:gq a i ks n0 w0 k n w L)(hk:k<ks.length):n+nU (gD L k)<=n0+eQ ks/\w+(ny (gD L k)).length<=w0+(kG ks).length:=by
 have h1:=h.num;rw[h.at_];grind[yq,bf,s8]
end
section
variable{α:Type}
structure TotB(lt:α->α->Bool):Prop where
 trans:∀x y z,lt y x=false->lt z y=false->lt z x=false
 asym:∀x y,lt x y=true->lt y x=false
variable{lt:α->α->Bool}
theorem TotB.down(T:TotB lt){x y z:α}(h1:lt z y=false)(h2:lt z x=true):lt y x=true:=by
 cases h:lt y x with
 |true=>rfl
 |false=>grind[cases TotB]
theorem TotB.up(T:TotB lt){x y z:α}(h1:lt x y=true)(h2:lt z y=false):lt x z=true:=by
 cases h:lt x z with
 |true=>rfl
 |false=>grind[cases TotB]
end
section
variable{α:Type}[Inhabited α]{lt:α->α->Bool}{l x y z w:List α}{a b m n i j k s e p d:Nat}
theorem vL(h:l.length<=i):gD l i=default:=by grind[gD]
theorem Xc{v:α}(h:i<l.length):gD (l.set i v) k=if k=i then v else gD l k:=by
 unfold gD;grind
theorem rK(hi:i<l.length)(hj:j<l.length):((l.set i (gD l j)).set j (gD l i)).Perm l:=by grind[gD,List.set_set_perm]
theorem xG(hi:i<l.length)(hj:j<l.length)(q:Nat):gD ((l.set i (gD l j)).set j (gD l i)) q=if q=j then gD l i else if q=i then gD l j else gD l q:=by grind[Xc]
def di(lt:α->α->Bool)(l:List α)(a b:Nat):Prop:=∀i j,a<=i->i<j->j<b->lt (gD l j) (gD l i)=false
structure SSeg(lt:α->α->Bool)(l x:List α)(a b:Nat):Prop where
 perm:x.Perm l
 out:∀i,i<a\/b<=i->gD x i=gD l i
 src:∀i,a<=i->i<b->∃j,a<=j/\j<b/\gD x i=gD l j
 srt:di lt x a b
theorem SSeg.len(h:SSeg lt l x a b):x.length=l.length:=h.perm.length_eq
theorem mA(h:di lt l a b):SSeg lt l l a b:=⟨.refl _,fun _ _=>rfl,fun i h1 h2=>⟨i,h1,h2,rfl⟩,h⟩
theorem SSeg.cast{p q:Nat}(h:SSeg lt l x p q)(hp:p=a)(hq:q=b):SSeg lt l x a b:=by simp_all
theorem di.nil(h:b<=a+1):di lt l a b:=fun i j _ _ _=>by omega
theorem di.sub(h:di lt l a b)(h1:a<=i)(h2:j<=b):di lt l i j:=fun p q e1 e2 e3=>h p q (by omega) e2 (by omega)
theorem di.le(T:TotB lt)(h:di lt l a b)(h1:a<=i)(h2:i<=j)(h3:j<b):lt (gD l j) (gD l i)=false:=by
 rcases eT i j with q|q
 ·exact h i j h1 q h3
 grind[cases TotB]
structure InsI(lt:α->α->Bool)(l x:List α)(a i j:Nat):Prop where
 perm:x.Perm l
 out:∀q,q<a\/i+1<=q->gD x q=gD l q
 src:∀q,a<=q->q<i+1->∃p,a<=p/\p<i+1/\gD x q=gD l p
 mid:∀p q,a<=p->p<q->q<=i->q≠j->lt (gD x q) (gD x p)=false
theorem InsI.start(h:SSeg lt l x a (min i b))(h1:i<b):InsI lt l x a i i:=by
 rw[show min i b=i by omega]at h;refine⟨h.perm,fun q hq=>h.out q (by omega),fun q h1 h2=>?_,fun p q h1 h2 h3 h4=>h.srt p q h1 h2 (by omega)⟩;grind[cases SSeg]
theorem InsI.step(T:TotB lt)(h:InsI lt l x a i j)(hi:i<l.length)(h1:a<j)(h2:j<=i)(hk:k+1=j)(hl:lt (gD x j) (gD x k)=true):InsI lt l ((x.set j (gD x k)).set k (gD x j)) a i k:=by
 have hx:x.length=l.length:=h.perm.length_eq;have hj:j<x.length:=by omega
 have hkx:k<x.length:=by omega
 have g:=xG hj hkx;refine⟨(rK hj hkx).trans h.perm,fun q hq=>?_,fun q q1 q2=>?_,fun p q h3 h4 h5 h6=>?_⟩
 ·rw[g,if_neg (by omega),if_neg (by omega)];exact h.out q hq
 ·rw[g];split
  ·grind[cases InsI]
  ·split
   ·grind[cases InsI]
   ·exact h.src q q1 q2
 ·rw[g,g];rw[if_neg (show ¬q=k by omega)];by_cases c1:q=j
  ·rw[if_pos c1];by_cases c2:p=k
   ·rw[if_pos c2];exact T.asym _ _ hl
   ·grind[cases InsI]
  ·rw[if_neg c1];by_cases c2:p=k
   ·grind[cases InsI]
   ·rw[if_neg c2];by_cases c3:p=j
    ·grind[cases InsI]
    ·rw[if_neg c3];exact h.mid p q h3 h4 h5 c1
theorem InsI.stop(T:TotB lt)(h:InsI lt l x a i j)(ha:a<=j)(h2:j<=i)(hb:i<b)(hs:s=i+1)(hl:j=a\/∃k,k+1=j/\lt (gD x j) (gD x k)=false):SSeg lt l x a (min s b):=by
 rw[show min s b=i+1 by omega];refine⟨h.perm,h.out,h.src,fun p q h3 h4 h5=>?_⟩;grind[cases TotB,cases InsI]
theorem NF(hab:a<=b):SSeg lt l l a (min (a+1) b):=mA (di.nil (by omega))
theorem QL(h:SSeg lt l x a (min i b))(hi:b<=i):SSeg lt l x a b:=by simp_all
def sw(a b m i:Nat):Nat:=if a<=i/\i<a+m then i-a+b else if b<=i/\i<b+m then i-b+a else i
structure SwP(l x:List α)(a b m:Nat):Prop where
 perm:x.Perm l
 at_:∀i,i<l.length->gD x i=gD l (sw a b m i)
theorem SwP.len(h:SwP l x a b m):x.length=l.length:=h.perm.length_eq
theorem SwP.start:SwP l l a b 0:=⟨.refl _,fun i _=>by simp_all[sw,if_neg]⟩
theorem SwP.step(h:SwP l x a b k)(hk:k<m)(ha:a+m<=b)(hb:b+m<=l.length)(hi:i=a+k)(hj:j=b+k)(hs:s=k+1):SwP l ((x.set i (gD x j)).set j (gD x i)) a b s:=by
 subst hi hj hs;have hx:x.length=l.length:=h.perm.length_eq;have h1:a+k<x.length:=by omega
 have h2:b+k<x.length:=by omega
 refine⟨(rK h1 h2).trans h.perm,fun q hq=>?_⟩;rw[xG h1 h2];by_cases c1:q=b+k
 ·rw[if_pos c1,h.at_ _ (by omega)];congr 1;unfold sw;grind
 ·rw[if_neg c1];by_cases c2:q=a+k
  ·rw[if_pos c2,h.at_ _ (by omega)];congr 1;unfold sw;grind
  ·rw[if_neg c2,h.at_ _ (by omega)];congr 1;unfold sw;grind
theorem SwP.done(h:SwP l x a b k)(hk:k=m):SwP l x a b m:=hk▸h
def ro(a m b i:Nat):Nat:=if a<=i/\i<a+(b-m)then i-a+m else if a+(b-m)<=i/\i<b then i-(b-m)else i
structure RoP(l x:List α)(a m b:Nat):Prop where
 perm:x.Perm l
 at_:∀q,q<l.length->gD x q=gD l (ro a m b q)
theorem RoP.len(h:RoP l x a m b):x.length=l.length:=h.perm.length_eq
theorem RoP.cast{p q r:Nat}(h:RoP l x p q r)(hp:p=a)(hq:q=m)(hr:r=b):RoP l x a m b:=by simp_all
structure RoI(l x:List α)(a m b i j:Nat):Prop where
 perm:x.Perm l
 i0:0<i
 j0:0<j
 im:i<=m
 jn:m+j<=l.length
 at_:∀q,q<l.length->gD x (ro (m-i) m (m+j) q)=gD l (ro a m b q)
theorem RoI.len(h:RoI l x a m b i j):x.length=l.length:=h.perm.length_eq
theorem RoI.start(ha:a<m)(hm:m<b)(hb:b<=l.length)(hi:i=m-a)(hj:j=b-m):RoI l l a m b i j:=by
 subst hi hj;refine⟨.refl _,by omega,by omega,by omega,by omega,fun q _=>?_⟩;grind
theorem VD(ham:a<=m)(hmb:m<=b)(hb:b<=n)(hi:i<n):ro a m b i<n:=by grind[ro]
theorem RoI.left{p q r:Nat}(h:RoI l x a m b i j)(hs:SwP x y p q r)(hp:p=m-i)(hq:q=m)(hr:r=j)(hij:j<i)(hk:k=i-j):RoI l y a m b k j:=by
 subst hk;subst hp;have hq:=hq.symm;subst hq;have hr:=hr.symm;subst hr;have hi:=h.im;have hj:=h.jn;have h0:=h.j0;refine⟨hs.perm.trans h.perm,by omega,h0,by omega,hj,fun q hq=>?_⟩;rw[hs.at_ _ (by rw[h.len];simp_all[VD]),<-h.at_ q hq];congr 1;unfold sw ro;grind
theorem RoI.right{p q r:Nat}(h:RoI l x a m b i j)(hs:SwP x y p q r)(hp:p=m-i)(hq:q=m+j-i)(hr:r=i)(hij:i<j)(hk:k=j-i):RoI l y a m b i k:=by
 subst hk;subst hp;have hq:=hq.symm;subst hq;have hr:=hr.symm;subst hr;have hi:=h.im;have hj:=h.jn;have h0:=h.i0;refine⟨hs.perm.trans h.perm,h0,by omega,hi,by omega,fun q hq=>?_⟩;rw[hs.at_ _ (by rw[h.len];exact VD (by omega) (by omega) (by omega) hq),<-h.at_ q hq];congr 1;unfold sw ro;by_cases c1:m-i<=q/\q<m-i+(m+(j-i)-m)
 ·grind
 ·rw[if_neg c1];by_cases c2:m-i+(m+(j-i)-m)<=q/\q<m+(j-i)
  ·grind
  ·rw[if_neg c2];grind
theorem RoI.stop{p q r:Nat}(h:RoI l x a m b i j)(hs:SwP x y p q r)(hp:p=m-i)(hq:q=m)(hr:r=i)(hij:i=j):RoP l y a m b:=by
 subst hij;subst hp;have hq:=hq.symm;subst hq;have hr:=hr.symm;subst hr;have hi:=h.im;have hj:=h.jn;refine⟨hs.perm.trans h.perm,fun q hq=>?_⟩;rw[hs.at_ _ (by rw[h.len];omega),<-h.at_ q hq];congr 1;unfold sw ro;grind
theorem RoP.none(h:m<=a\/b<=m)(ham:a<=m)(hmb:m<=b):RoP l l a m b:=⟨.refl _,fun q _=>by
 congr 1;unfold ro;grind⟩
structure FstI(lt:α->α->Bool)(l:List α)(a m b i j:Nat):Prop where
 mi:m<=i
 ij:i<=j
 jb:j<=b
 lo:∀q,m<=q->q<i->lt (gD l q) (gD l a)=true
 hi:∀q,j<=q->q<b->lt (gD l q) (gD l a)=false
theorem FstI.start(h:m<=b):FstI lt l a m b m b:=⟨by omega,by omega,by omega,fun q _ _=>by omega,fun q _ _=>by omega⟩
theorem FstI.more(T:TotB lt)(h:FstI lt l a m b i j)(hs:di lt l m b)(hl:lt (gD l k) (gD l a)=true)(h1:i<=k)(h2:k<j)(hk:e=k+1):FstI lt l a m b e j:=by
 subst hk;have:=h.mi;have:=h.jb;refine⟨by omega,by omega,h.jb,fun q q1 q2=>?_,h.hi⟩;exact T.down (hs.le T q1 (by omega) (by omega)) hl
theorem FstI.less(T:TotB lt)(h:FstI lt l a m b i j)(hs:di lt l m b)(hl:lt (gD l k) (gD l a)=false)(h1:i<=k)(h2:k<j):FstI lt l a m b i k:=by
 have:=h.mi;have:=h.jb;refine⟨h.mi,by omega,by omega,h.lo,fun q q1 q2=>?_⟩;exact T.trans _ _ _ hl (hs.le T (by omega) q1 q2)
structure UpI(l x:List α)(a k:Nat):Prop where
 perm:x.Perm l
 at_:∀q,q<l.length->gD x q=gD l (if a<=q/\q<k then q+1 else if q=k then a else q)
theorem UpI.len(h:UpI l x a k):x.length=l.length:=h.perm.length_eq
theorem UpI.start:UpI l l a a:=⟨.refl _,fun q _=>by grind⟩
theorem UpI.step(h:UpI l x a k)(hk:a<=k)(hn:k+1<l.length)(he:e=k+1):UpI l ((x.set k (gD x e)).set e (gD x k)) a e:=by
 subst he;have hx:=h.len;have h1:k<x.length:=by omega
 have h2:k+1<x.length:=by omega
 refine⟨(rK h1 h2).trans h.perm,fun q hq=>?_⟩;rw[xG h1 h2];by_cases c1:q=k+1
 ·rw[if_pos c1,h.at_ _ (by omega),if_neg (by omega),if_pos rfl,if_neg (by omega),if_pos c1]
 ·rw[if_neg c1];by_cases c2:q=k
  ·rw[if_pos c2,h.at_ _ (by omega),if_neg (by omega),if_neg (by omega),if_pos (by omega),c2]
  ·rw[if_neg c2,h.at_ _ hq];grind
theorem UpI.stop(T:TotB lt)(h:UpI l x a k)(hf:FstI lt l a m b i j)(hs:di lt l m b)(hma:m=a+1)(hij:j<=i)(hk:k+1=i)(hb:b<=l.length):SSeg lt l x a b:=by
 have q1:=hf.mi;have q2:=hf.ij;have q3:=hf.jb;refine⟨h.perm,fun q hq=>?_,fun q h1 h2=>?_,fun p q h1 h2 h3=>?_⟩
 ·rcases eT q l.length with c|c
  ·rw[h.at_ q c,if_neg (by omega),if_neg (by omega)]
  ·rw[vL (by rw[h.len];omega),vL c]
 ·rw[h.at_ q (by omega)];grind
 ·rw[h.at_ p (by omega),h.at_ q (by omega)];by_cases c1:p<k
  ·rw[if_pos (show a<=p/\p<k by omega)];by_cases c2:q<k
   ·rw[if_pos (show a<=q/\q<k by omega)];exact hs _ _ (by omega) (by omega) (by omega)
   ·rw[if_neg (show ¬(a<=q/\q<k) by omega)];by_cases c3:q=k
    ·grind[cases TotB,cases FstI]
    ·grind[cases TotB,cases FstI]
  ·rw[if_neg (show ¬(a<=p/\p<k) by omega),if_neg (show ¬(a<=q/\q<k) by omega),if_neg (show ¬q=k by omega)];by_cases c3:p=k
   ·rw[if_pos c3];exact hf.hi _ (by omega) (by omega)
   ·rw[if_neg c3];exact hs _ _ (by omega) (by omega) (by omega)
structure LstI(lt:α->α->Bool)(l:List α)(a m i j:Nat):Prop where
 ai:a<=i
 ij:i<=j
 jm:j<=m
 lo:∀q,a<=q->q<i->lt (gD l m) (gD l q)=false
 hi:∀q,j<=q->q<m->lt (gD l m) (gD l q)=true
theorem LstI.start(h:a<=m):LstI lt l a m a m:=⟨by omega,by omega,by omega,fun q _ _=>by omega,fun q _ _=>by omega⟩
theorem LstI.more(T:TotB lt)(h:LstI lt l a m i j)(hs:di lt l a m)(hl:lt (gD l m) (gD l k)=false)(h1:i<=k)(h2:k<j)(hk:e=k+1):LstI lt l a m e j:=by
 subst hk;have:=h.ai;have:=h.jm;refine⟨by omega,by omega,h.jm,fun q q1 q2=>?_,h.hi⟩;exact T.trans _ _ _ (hs.le T q1 (by omega) (by omega)) hl
theorem LstI.less(T:TotB lt)(h:LstI lt l a m i j)(hs:di lt l a m)(hl:lt (gD l m) (gD l k)=true)(h1:i<=k)(h2:k<j):LstI lt l a m i k:=by
 have:=h.ai;have:=h.jm;refine⟨h.ai,by omega,by omega,h.lo,fun q q1 q2=>?_⟩;exact T.up hl (hs.le T (by omega) q1 q2)
structure DnI(l x:List α)(m k:Nat):Prop where
 perm:x.Perm l
 at_:∀q,q<l.length->gD x q=gD l (if k<q/\q<=m then q-1 else if q=k then m else q)
theorem DnI.len(h:DnI l x m k):x.length=l.length:=h.perm.length_eq
theorem DnI.start:DnI l l m m:=⟨.refl _,fun q _=>by grind⟩
theorem DnI.step(h:DnI l x m k)(hk:k<=m)(hn:m<l.length)(he:e+1=k):DnI l ((x.set k (gD x e)).set e (gD x k)) m e:=by
 subst he;have hx:=h.len;have h1:e+1<x.length:=by omega
 have h2:e<x.length:=by omega
 refine⟨(rK h1 h2).trans h.perm,fun q hq=>?_⟩;rw[xG h1 h2];by_cases c1:q=e
 ·rw[if_pos c1,h.at_ _ (by omega),if_neg (by omega),if_pos rfl,if_neg (by omega),if_pos c1]
 ·rw[if_neg c1];by_cases c2:q=e+1
  ·rw[if_pos c2,h.at_ _ (by omega),if_neg (by omega),if_neg (by omega),if_pos (by omega)];simp_all
  ·rw[if_neg c2,h.at_ _ hq];grind
theorem DnI.stop(T:TotB lt)(h:DnI l x m k)(hf:LstI lt l a m i j)(hs:di lt l a m)(hmb:b=m+1)(hij:j<=i)(hk:k=i)(hb:b<=l.length):SSeg lt l x a b:=by
 have q1:=hf.ai;have q2:=hf.ij;have q3:=hf.jm;refine⟨h.perm,fun q hq=>?_,fun q h1 h2=>?_,fun p q h1 h2 h3=>?_⟩
 ·rcases eT q l.length with c|c
  ·rw[h.at_ q c,if_neg (by omega),if_neg (by omega)]
  ·rw[vL (by rw[h.len];omega),vL c]
 ·rw[h.at_ q (by omega)];grind
 ·rw[h.at_ p (by omega),h.at_ q (by omega)];by_cases c1:q<=k
  ·rw[if_neg (show ¬(k<q/\q<=m) by omega),if_neg (show ¬(k<p/\p<=m) by omega),if_neg (show ¬p=k by omega)];by_cases c3:q=k
   ·rw[if_pos c3];exact hf.lo _ h1 (by omega)
   ·rw[if_neg c3];exact hs _ _ h1 h2 (by omega)
  ·rw[if_pos (show k<q/\q<=m by omega)];by_cases c2:k<p
   ·rw[if_pos (show k<p/\p<=m by omega)];exact hs _ _ (by omega) (by omega) (by omega)
   ·rw[if_neg (show ¬(k<p/\p<=m) by omega)];by_cases c3:p=k
    ·grind[cases TotB,cases LstI]
    ·rw[if_neg c3];exact hs _ _ h1 (by omega) (by omega)
structure CutI(lt:α->α->Bool)(l:List α)(lo hi p i j:Nat):Prop where
 li:lo<=i
 ij:i<=j
 jh:j<=hi
 low:∀c,lo<=c->c<i->lt (gD l (p-c)) (gD l c)=false
 high:∀c,j<=c->c<hi->lt (gD l (p-c)) (gD l c)=true
variable{lo hi:Nat}
theorem CutI.start(h:lo<=hi):CutI lt l lo hi p lo hi:=⟨by omega,by omega,by omega,fun q _ _=>by omega,fun q _ _=>by omega⟩
theorem CutI.more(T:TotB lt)(h:CutI lt l lo hi p i j)(hA:di lt l a m)(hB:di lt l m b)(hl:lt (gD l s) (gD l k)=false)(b1:a<=lo)(b2:hi<=m)(b3:m+hi<=p+1)(b4:p<b+lo)(h1:i<=k)(h2:k<j)(hk:e=k+1)(hs:s=p-k):CutI lt l lo hi p e j:=by
 subst hk hs;have:=h.li;have:=h.jh;refine⟨by omega,by omega,h.jh,fun c c1 c2=>?_,h.high⟩;exact T.trans _ _ _ (hA.le T (i:=c) (j:=k) (by omega) (by omega) (by omega)) (T.trans _ _ _ hl (hB.le T (i:=p-k) (j:=p-c) (by omega) (by omega) (by omega)))
theorem CutI.less(T:TotB lt)(h:CutI lt l lo hi p i j)(hA:di lt l a m)(hB:di lt l m b)(hl:lt (gD l s) (gD l k)=true)(b1:a<=lo)(b2:hi<=m)(b3:m+hi<=p+1)(b4:p<b+lo)(h1:i<=k)(h2:k<j)(hs:s=p-k):CutI lt l lo hi p i k:=by
 subst hs;have:=h.li;have:=h.jh;refine⟨h.li,by omega,by omega,h.low,fun c c1 c2=>?_⟩;exact T.down (hB.le T (i:=p-c) (j:=p-k) (by omega) (by omega) (by omega)) (T.up hl (hA.le T (i:=k) (j:=c) (by omega) (by omega) (by omega)))
theorem OK(T:TotB lt)(h:CutI lt l lo hi p s s)(hA:di lt l a m)(hB:di lt l m b)(hr:RoP l y s m e)(hab:b<=l.length)
  (d1:d+m=p+1)(e1:e+s=p+1)(f1:a<=s)(f2:s<=m)(f3:m<=e)(f4:e<=b)(f5:lo<s\/s=a\/e=b)(f6:s<hi\/s=m\/e=m):
  ∀i j,a<=i->i<d->d<=j->j<b->lt (gD y j) (gD y i)=false:=by
 intro i j h1 h2 h3 h4;rw[hr.at_ i (by omega),hr.at_ j (by omega)];unfold ro;by_cases c1:i<s
 ·rw[if_neg (show ¬(s<=i/\i<s+(e-m)) by omega),if_neg (show ¬(s+(e-m)<=i/\i<e) by omega)];rw[if_neg (show ¬(s<=j/\j<s+(e-m)) by omega)];by_cases c2:j<e
  ·rw[if_pos (show s+(e-m)<=j/\j<e by omega)];exact hA.le T h1 (by omega) (by omega)
  ·rw[if_neg (show ¬(s+(e-m)<=j/\j<e) by omega)];have hc:=h.low (s-1) (by omega) (by omega);rw[show p-(s-1)=e by omega]at hc;exact T.trans _ _ _ (hA.le T (i:=i) (j:=s-1) h1 (by omega) (by omega)) (T.trans _ _ _ hc (hB.le T (i:=e) (j:=j) (by omega) (by omega) h4))
 ·rw[if_pos (show s<=i/\i<s+(e-m) by omega),if_neg (show ¬(s<=j/\j<s+(e-m)) by omega)];by_cases c2:j<e
  ·rw[if_pos (show s+(e-m)<=j/\j<e by omega)];have hc:=h.high s (by omega) (by omega);rw[show p-s=e-1 by omega]at hc;refine T.asym _ _ (T.up (T.down (hB.le T (i:=i-s+m) (j:=e-1) (by omega) (by omega) (by omega)) hc) (hA.le T (i:=s) (j:=j-(e-m)) (by omega) (by omega) (by omega)))
  ·rw[if_neg (show ¬(s+(e-m)<=j/\j<e) by omega)];exact hB.le T (by omega) (by omega) h4
theorem RoP.left(hr:RoP l y s m e)(hA:di lt l a m)(f2:s<=m)(f3:m<=e)(f4:e<=l.length):di lt y a s:=fun i j h1 h2 h3=>by
 rw[hr.at_ i (by omega),hr.at_ j (by omega)];unfold ro;rw[if_neg (by omega),if_neg (by omega),if_neg (by omega),if_neg (by omega)];exact hA i j h1 h2 (by omega)
theorem RoP.mid1(hr:RoP l y s m e)(hB:di lt l m b)(f3:m<=e)(f4:e<=b)(f2:s<=m)(hb:b<=l.length)(hd:d=s+(e-m)):di lt y s d:=fun i j h1 h2 h3=>by
 rw[hr.at_ i (by omega),hr.at_ j (by omega)];unfold ro;rw[if_pos (by omega),if_pos (by omega)];exact hB _ _ (by omega) (by omega) (by omega)
theorem RoP.mid2(hr:RoP l y s m e)(hA:di lt l a m)(f1:a<=s)(f2:s<=m)(f3:m<=e)(f4:e<=l.length)(hd:d=s+(e-m)):di lt y d e:=fun i j h1 h2 h3=>by
 rw[hr.at_ i (by omega),hr.at_ j (by omega)];unfold ro;rw[if_neg (by omega),if_pos (by omega),if_neg (by omega),if_pos (by omega)];exact hA _ _ (by omega) (by omega) (by omega)
theorem RoP.right(hr:RoP l y s m e)(hB:di lt l m b)(f2:s<=m)(f3:m<=e)(hb:b<=l.length):di lt y e b:=fun i j h1 h2 h3=>by
 rw[hr.at_ i (by omega),hr.at_ j (by omega)];unfold ro;rw[if_neg (by omega),if_neg (by omega),if_neg (by omega),if_neg (by omega)];exact hB i j (by omega) h2 h3
theorem RoP.lower(hr:RoP l y s m e)(hA:di lt l a m)(hB:di lt l m b)(hd:d+m=s+e)(h:s<=a\/d<=s)(f1:a<=s)(f2:s<=m)(f3:m<=e)(f4:e<=b)(hb:b<=l.length):di lt y a d:=by
 rcases h with h|h
 ·have:=hr.mid1 hB f3 f4 f2 hb (d:=d) (by omega);grind
 ·have:=hr.left hA f2 f3 (by omega);grind
theorem RoP.upper(hr:RoP l y s m e)(hA:di lt l a m)(hB:di lt l m b)(hd:d+m=s+e)(h:b<=e\/e<=d)(f1:a<=s)(f2:s<=m)(f3:m<=e)(f4:e<=b)(hb:b<=l.length):di lt y d b:=by
 rcases h with h|h
 ·have:=hr.mid2 hA f1 f2 f3 (by omega) (d:=d) (by omega);grind
 ·have:=hr.right hB f2 f3 hb;grind
theorem Xy(hr:RoP l y s m e)(hz:SSeg lt y z a d)(hw:SSeg lt z w d b)(had:a<=d)(hdb:d<=b)(hb:b<=l.length)(f1:a<=s)(f2:s<=m)(f3:m<=e)(f4:e<=b)
  (hx:∀i j,a<=i->i<d->d<=j->j<b->lt (gD y j) (gD y i)=false):SSeg lt l w a b:=by
 have hro:∀q,a<=q->q<b->a<=ro s m e q/\ro s m e q<b:=fun q h1 h2=>by grind[ro]
 have hy:∀q,q<a\/b<=q->gD y q=gD l q:=fun q hq=>by
  rcases eT q l.length with c|c
  ·rw[hr.at_ q c];congr 1;unfold ro;grind
  ·rw[vL (by rw[hr.len];omega),vL c]
 refine⟨hw.perm.trans (hz.perm.trans hr.perm),fun q hq=>?_,fun q h1 h2=>?_,fun i j h1 h2 h3=>?_⟩
 ·grind[cases SSeg]
 ·rcases eT q d with c|c
  ·obtain⟨j,j1,j2,j3⟩:=hz.src q h1 c;have:=hro j j1 (by omega);exact⟨_,this.1,this.2,by rw[hw.out q (.inl c),j3,hr.at_ j (by omega)]⟩
  ·obtain⟨j,j1,j2,j3⟩:=hw.src q c h2;have:=hro j (by omega) j2;exact⟨_,this.1,this.2,by rw[j3,hz.out j (.inr j1),hr.at_ j (by omega)]⟩
 ·rcases eT j d with c|c
  ·rw[hw.out i (.inl (by omega)),hw.out j (.inl c)];exact hz.srt i j h1 h2 c
  ·rcases eT i d with c2|c2
   ·obtain⟨i',i1,i2,i3⟩:=hz.src i h1 c2;obtain⟨j',j1,j2,j3⟩:=hw.src j c h3;rw[hw.out i (.inl c2),i3,j3,hz.out j' (.inr j1)];simp_all
   ·exact hw.srt i j c2 h2 h3
theorem vp(T:TotB lt)(h:CutI lt l lo hi p i s)(hA:di lt l a m)(hB:di lt l m b)(hr:RoP l y i m e)(hz:SSeg lt y z a d)(hw:SSeg lt z w d b)(his:s<=i)(hd:d+m=p+1)(he:e+i=p+1)(had:a<=d)(hdb:d<=b)(hb:b<=l.length)(f1:a<=i)(f2:i<=m)(f3:m<=e)(f4:e<=b)(f5:lo<i\/i=a\/e=b)(f6:i<hi\/i=m\/e=m):SSeg lt l w a b:=by
 have:i=s:=Nat.le_antisymm h.ij his;grind[Xy,OK]
theorem SSeg.keep(h:SSeg lt l x a b)(hs:di lt l i j)(hd:j<=a\/b<=i):di lt x i j:=fun p q h1 h2 h3=>by rw[h.out p (by omega),h.out q (by omega)];exact hs p q h1 h2 h3
def OD(lt:α->α->Bool)(x:List α)(s n:Nat):Prop:=∀c,di lt x (c*s) (min ((c+1)*s) n)
theorem rn{t c d:Nat}(h:a=d*t):(c+1)*t<=a\/c=d\/a+t<=c*t:=by
 subst h;rcases Nat.lt_trichotomy c d with q|q|q
 ·exact .inl (ef _ q)
 ·omega
 ·refine .inr (.inr ?_);have:=ef t q;grind
structure BlkA(lt:α->α->Bool)(l x:List α)(s a:Nat):Prop where
 perm:x.Perm l
 dv:∃c,a=c*s
 ok:∀c,di lt x (c*s) (min ((c+1)*s) a)
theorem BlkA.len(h:BlkA lt l x s a):x.length=l.length:=h.perm.length_eq
theorem BlkA.start:BlkA lt l l s 0:=⟨.refl _,⟨0,by omega⟩,fun c=>di.nil (by omega)⟩
theorem BlkA.step(h:BlkA lt l x s a)(hy:SSeg lt x y a b)(hb:b=a+s):BlkA lt l y s b:=by
 obtain⟨d,hd⟩:=h.dv;subst hb;refine⟨hy.perm.trans h.perm,⟨d+1,by grind⟩,fun c=>?_⟩;rcases rn (c:=c) hd with q|q|q
 ·have:=h.ok c;rw[show min ((c+1)*s) a=(c+1)*s by omega]at this;rw[show min ((c+1)*s) (a+s)=(c+1)*s by omega];exact hy.keep this (.inl q)
 all_goals grind[di.nil,cases SSeg]
theorem BlkA.last(h:BlkA lt l x s a)(hy:SSeg lt x y a n)(hn:n<a+s)(ha:a<=n):y.Perm l/\OD lt y s n:=by
 obtain⟨d,hd⟩:=h.dv;refine⟨hy.perm.trans h.perm,fun c=>?_⟩;rcases rn (c:=c) hd with q|q|q
 ·have:=h.ok c;rw[show min ((c+1)*s) a=(c+1)*s by omega]at this;rw[show min ((c+1)*s) n=(c+1)*s by omega];exact hy.keep this (.inl q)
 all_goals grind[di.nil,cases SSeg]
structure BlkB(lt:α->α->Bool)(l x:List α)(s a n:Nat):Prop where
 perm:x.Perm l
 dv:∃c,a=c*(2*s)
 ok:∀c,di lt x (c*(2*s)) (min ((c+1)*(2*s)) a)
 rest:∀c,a<=c*s->di lt x (c*s) (min ((c+1)*s) n)
theorem BlkB.len(h:BlkB lt l x s a n):x.length=l.length:=h.perm.length_eq
theorem BlkB.start(h:x.Perm l/\OD lt x s n):BlkB lt l x s 0 n:=⟨h.1,⟨0,by omega⟩,fun c=>di.nil (by omega),fun c _=>h.2 c⟩
theorem BlkB.pre1(h:BlkB lt l x s a n)(hm:m=a+s)(hn:m<=n):di lt x a m:=by
 obtain⟨d,hd⟩:=h.dv;have e:a=(d*2)*s:=by grind
 have:=h.rest (d*2) (by omega);grind
theorem BlkB.pre2(h:BlkB lt l x s a n)(hm:m=a+s)(hb:b<=m+s)(hn:b<=n):di lt x m b:=by
 obtain⟨d,hd⟩:=h.dv;have e:a=(d*2)*s:=by grind
 have e2:m=(d*2+1)*s:=by grind
 have:=h.rest (d*2+1) (by omega);rw[<-e2,qK,<-e2]at this;exact this.sub (af _) (by omega)
theorem BlkB.step(h:BlkB lt l x s a n)(hy:SSeg lt x y a b)(hb:b=a+2*s):BlkB lt l y s b n:=by
 obtain⟨d,hd⟩:=h.dv;subst hb;refine⟨hy.perm.trans h.perm,⟨d+1,by grind⟩,fun c=>?_,fun c hc=>hy.keep (h.rest c (by omega)) (.inr hc)⟩;rcases rn (c:=c) hd with q|q|q
 ·have:=h.ok c;rw[show min ((c+1)*(2*s)) a=(c+1)*(2*s) by omega]at this;rw[show min ((c+1)*(2*s)) (a+2*s)=(c+1)*(2*s) by omega];exact hy.keep this (.inl q)
 all_goals grind[di.nil,cases SSeg]
theorem BlkB.last(h:BlkB lt l x s a n)(hy:SSeg lt x y a n)(hn:n<a+2*s)(ht:d=2*s)(ha:a<=n):y.Perm l/\OD lt y d n:=by
 subst ht;obtain⟨d,hd⟩:=h.dv;refine⟨hy.perm.trans h.perm,fun c=>?_⟩;rcases rn (c:=c) hd with q|q|q
 ·have:=h.ok c;rw[show min ((c+1)*(2*s)) a=(c+1)*(2*s) by omega]at this;rw[show min ((c+1)*(2*s)) n=(c+1)*(2*s) by omega];exact hy.keep this (.inl q)
 all_goals grind[di.nil,cases SSeg]
theorem BlkB.one(h:BlkB lt l x s a n)(hn:n<=a+s):SSeg lt x x a n:=by
 obtain⟨d,hd⟩:=h.dv;have e:a=(d*2)*s:=by grind
 have:=h.rest (d*2) (by omega);simp_all[qK,mA]
theorem OD.all(h:OD lt x s n)(hn:n<=s):di lt x 0 n:=by
 have:=h 0;simp_all
theorem di.pair:∀{x:List α},di lt x 0 x.length->x.Pairwise fun u v=>lt v u=false
 |[],_=>.nil
 | u::r,h=>jE.2 ⟨fun v hv=>by
   obtain⟨i,hi,rfl⟩:=BI hv;have:=h 0 (i+1) (by omega) (by omega) (by simp_all);have e:gD (u::r) (i+1)=r[i]:=by grind[gD]
   rw[e]at this;exact this,di.pair fun i j _ h2 h3=>h (i+1) (j+1) (by omega) (by omega) (by simp_all)⟩
end
section
variable{α:Type}{lt:α->α->Bool}
theorem Cd:∀{x y:List α},x.Pairwise (fun u v=>lt v u=false)->y.Pairwise (fun u v=>lt v u=false)->x.Perm y->(∀u v,u∈x->v∈x->lt u v=false->lt v u=false->u=v)->x=y
 |[],y,_,_,hp,_=>hp.nil_eq
 |u::r,[],_,_,hp,_=>by simp_all
 |u::r,v::t,hx,hy,hp,H=>by
  obtain⟨x1,x2⟩:=jE.1 hx;obtain⟨y1,y2⟩:=jE.1 hy;have hv:v∈u::r:=hp.mem_iff.2 (eF ..);have hu:u∈v::t:=hp.mem_iff.1 (eF ..);have e:u=v:=by grind
  subst e;rw[Cd x2 y2 ((List.perm_cons u).1 hp) fun a b ha hb=>H a b (eG _ ha) (eG _ hb)]
def EV(lt:α->α->Bool)(a:α):List α->List α
 |[]=>[a]
 |b::r=>match lt b a with|true=>b::EV lt a r|false=>a::b::r
def Pg(lt:α->α->Bool)(l:List α):List α:=l.foldl (fun o a=>EV lt a o) []
theorem vF(a:α):∀(l:List α),(EV lt a l).Perm (a::l)
 |[]=>.refl _
 |b::r=>by
  unfold EV;cases lt b a with
  |true=>exact((vF a r).cons b).trans (.swap a b r)
  |false=>simp_all
theorem CI(T:TotB lt)(a:α):∀{l:List α},l.Pairwise (fun u v=>lt v u=false)->(EV lt a l).Pairwise (fun u v=>lt v u=false)
 |[],_=>List.pairwise_singleton ..
 | b::r,h=>by
  obtain⟨h1,h2⟩:=jE.1 h;unfold EV;cases q:lt b a with
  |true=>
   refine jE.2 ⟨fun v hv=>?_,CI T a h2⟩;grind[vF,cases TotB]
  |false=>
   refine jE.2 ⟨fun v hv=>?_,h⟩;grind[cases TotB]
theorem tv(T:TotB lt):∀(l o:List α),o.Pairwise (fun u v=>lt v u=false)->((l.foldl (fun o a=>EV lt a o) o).Perm (o++l)/\(l.foldl (fun o a=>EV lt a o) o).Pairwise fun u v=>lt v u=false)
 |[],o,h=>⟨by simp_all,h⟩
 |a::r,o,h=>by
  obtain⟨h1,h2⟩:=tv T r (EV lt a o) (CI T a h);refine⟨h1.trans ?_,h2⟩;exact((vF a o).append_right r).trans (List.perm_middle.symm)
theorem yT(T:TotB lt)(l:List α):(Pg lt l).Perm l:=(tv T l [] .nil).1
theorem Pe(T:TotB lt){l x:List α}(hp:x.Perm l)(hs:x.Pairwise fun u v=>lt v u=false)(H:∀u v,u∈l->v∈l->lt u v=false->lt v u=false->u=v):x=Pg lt l:=Cd hs (tv T l [] .nil).2 (hp.trans (yT T l).symm) fun u v hu hv=>H u v (hp.mem_iff.1 hu) (hp.mem_iff.1 hv)
end
theorem VRel.unren{ρ:Nat->Nat}{n:Nat}{pl pl2:Pl}{M:dg}{v:AV}{x:Value}(h:VRel pl2 M v x)(hp:∀id p,id<n->pl2 id=some p->pl (ρ id)=some p)(ht:v.top<=n):VRel pl M (Ev.ren ρ v) x:=by
 have gt:∀{xs:List AV}{i:Nat}{z:AV},(xs.map (Ev.ren ρ))[i]?=some z->∃y,xs[i]?=some y/\z=Ev.ren ρ y:=by grind
 have tp:∀{xs:List AV}{i j:Nat}{z y:AV},aq xs<=n->xs[i]?=some z->z.cells[j]?=some y->y.top<=n:=by
  intro xs i j x y h1 h2 h3;exact lX (du.1 h1 x (bh h2)) (bh h3)
 have sc:∀{xs:List AV}{sz:Nat},(∀x,x∈xs->x.cells.length=sz/\Sc x)->∀x,x∈xs.map (Ev.ren ρ)->x.cells.length=sz/\Sc x:=by
  intro xs sz h x hx;obtain⟨y,hy,rfl⟩:=iS.1 hx;obtain⟨h1,h2⟩:=h y hy;rw[fR];refine⟨by simp_all,fun u hu=>?_⟩;rw[fR]at hu;obtain⟨z,hz,rfl⟩:=iS.1 hu;rw[oW];exact h2 z hz
 have cel:∀{xs:List AV}{c:Array Value}{o sz:Nat},aq xs<=n->(∀i x j y,xs[i]?=some x->x.cells[j]?=some y->y.top<=n->VRel pl M (Ev.ren ρ y) (c.getD (o+i*sz+j) undef))->
   ∀i x j y,(xs.map (Ev.ren ρ))[i]?=some x->x.cells[j]?=some y->VRel pl M y (c.getD (o+i*sz+j) undef):=by
  intro xs c o sz ht h i x j y h1 h2;obtain⟨x0,e1,rfl⟩:=gt h1;rw[fR]at h2;grind
 induction h with
 |bool b=>exact .bool b
 |int k n=>exact .int k n
 |str s=>exact .str s
 |nilp=>exact .nilp
 |ptr h1 h2 h3=>simp only[AV.top]at ht;exact .ptr (hp _ _ (by omega) h1) h2 h3
 |pptr hm hs hi hc ih=>
  simp only[AV.top]at ht;simp only[Ev.ren,fQ];exact .pptr ⟨hm.1,hm.2.1,by simp_all,hm.2.2.2⟩ (sc hs) (by simp_all) (cel ht fun i x j y h1 h2 h3=>ih i x j y h1 h2 h3)
 |nils=>exact .nils
 |slice h1 h2 h3 h4 h5=>simp only[AV.top]at ht;exact .slice (hp _ _ (by omega) h1) h2 h3 h4 h5
 |sl0n _ ih=>exact .sl0n (ih (bE _))
 |sl0s _ ih=>exact .sl0s (ih ht)
 |ps hl ht' hm hs hc ih=>
  simp only[AV.top]at ht;simp only[Ev.ren,fQ];have:=VRel.ps (pl:=pl) (xs:=_) (by simpa using hl) (by simpa using ht') (by simp_all) (sc hs) (cel ht fun i x j y h1 h2 h3=>ih i x j y h1 h2 h3);simp_all
 |lsn=>exact .lsn
 |lsp h ht0 ih=>
  have:=ih (by grind[AV.top]);simp only[Ev.ren,eP ρ _ ht0]at this;exact .lsp this ht0
 |nilm=>exact .nilm
 |map h1 h2=>simp only[AV.top]at ht;exact .map (hp _ _ (by omega) h1) h2
 |func h1 h2 _ _ ih1 ih2=>
  simp only[AV.top,qp]at ht;simp only[Ev.ren,fQ];refine .func (by simp_all) (by simp_all) (fun j y hj=>?_) (fun j y hj=>?_)
  ·obtain⟨z,e,rfl⟩:=gt hj;exact ih1 j z e (du.1 ht.1 z (bh e))
  ·obtain⟨z,e,rfl⟩:=gt hj;exact ih2 j z e (du.1 ht.2 z (bh e))
 |nilf=>exact .nilf
 |iface _ ih=>simp only[AV.top]at ht;exact .iface (ih ht)
 |nili=>exact .nili
 |agg h1 h2 _ ih=>
  simp only[AV.top]at ht;simp only[Ev.ren,fQ];refine .agg (by simp_all) (fun y hy=>?_) (fun j y hj=>?_)
  ·grind[oW]
  ·obtain⟨z,e,rfl⟩:=gt hj;exact ih j z e (du.1 ht z (bh e))
 |tuple h1 _ ih=>
  simp only[AV.top]at ht;simp only[Ev.ren,fQ];refine .tuple (by simp_all) (fun j y hj=>?_);obtain⟨z,e,rfl⟩:=gt hj;exact ih j z e (du.1 ht z (bh e))
def ep0:AObj->Bool
 | .row _ _ e _=>Nat.beq e 0
 | .map _ _=>true
 |_=>false
theorem bc.ep0{pl:Pl}{M:dg}{p:Place}{o:AObj}{x:Option Obj}(h:bc pl M p o x)(he:Ev.ep0 o=true):p.ep=0:=by
 match o,x with
 | .row sz op ep xs,some (.cells c t fr)=>rw[h.1];exact pC he
 | .map es clock,some (.map entries clock')=>exact h.1
theorem UM{ρ:Nat->Nat}{o:AObj}:ep0 (kW ρ o)=ep0 o:=by cases o<;>rfl
theorem bc.unren{ρ:Nat->Nat}{n:Nat}{pl pl2:Pl}{M:dg}{o:AObj}{p:Place}{x:Option Obj}(h:bc pl2 M p o x)(he:Ev.ep0 o=true)(hp:∀id p,id<n->pl2 id=some p->pl (ρ id)=some p)(ht:o.top<=n):bc pl M p (kW ρ o) x:=by
 match o,x with
 | .row sz op ep xs,some (.cells c t fr)=>
  obtain⟨h1,h2,h3,h4,h5,h6,h7,h8⟩:=h;simp only[AObj.top]at ht;have gt:∀{xs:List AV}{i:Nat}{z:AV},(xs.map (Ev.ren ρ))[i]?=some z->∃y,xs[i]?=some y/\z=Ev.ren ρ y:=by grind
  simp only[kW,fQ];refine⟨h1,h2,by simp_all,h4,h5,h6,by simp_all,⟨by simpa using h8.fit,fun y hy=>?_,fun i z j y k1 k2=>?_⟩⟩
  ·obtain⟨z,hz,rfl⟩:=iS.1 hy;obtain⟨q1,q2⟩:=h8.elem z hz;rw[fR];refine⟨by simp_all,fun u hu=>?_⟩;rw[fR]at hu;obtain⟨z,hz,rfl⟩:=iS.1 hu;rw[oW];exact q2 z hz
  ·obtain⟨z0,e1,rfl⟩:=gt k1;rw[fR]at k2;obtain⟨y0,e2,rfl⟩:=gt k2;exact(h8.cell i z0 j y0 e1 e2).unren hp (lX (du.1 ht z0 (bh e1)) (bh e2))
 | .map es clock,some (.map entries clock')=>
  obtain⟨h1,h2,h3,h4⟩:=h;simp only[AObj.top]at ht;simp only[kW,qf];refine⟨h1,h2,by simp_all,fun i e hi=>?_⟩;rw[qJ]at hi;cases hx:es[i]? with
  |none=>grind
  |some e0=>
   rw[hx]at hi;cases hi
   obtain⟨e',k1,k2,k3,k4⟩:=h4 i e0 hx;have:=pg.1 ht e0 (bh hx);exact⟨e',k1,k2.unren hp this.1,k3.unren hp this.2,k4⟩
theorem aF.frame{P:Program}{G:eh}(hG:iL G){f:FuncId}{args:List AV}{v:AV}(ρ:Nat->Nat){L L':List AObj}(hl:L'.length=L.length)
  (hL:∀o,o∈L->ep0 o=true/\o.top<=L.length)(hL':∀o,o∈L'->ep0 o=true/\o.top<=L.length)(hm:∀i o,L'[i]?=some o->(aa L').get i=some o)(ht:aq args<=L.length)(hv:v.top<=L.length)
  (hi:∀i j,i<L.length->j<L.length->ρ i=ρ j->i=j)
  (h0:aF P G f args (aa L) (fun v1 h1=>v1=v/\h1=aa L')){h h':AHeap}(hg:∀i o,L[i]?=some o->h.get (ρ i)=some (kW ρ o))
  (hg':∀k o,h'.get k=some o->(∃i o',L'[i]?=some o'/\k=ρ i/\o=kW ρ o')\/((∀i,i<L.length->k≠ρ i)/\h.get k=some o))(hn:h'.n=h.n):
  aF P G f (mX ρ args) h (fun v1 h1=>v1=Ev.ren ρ v/\h1=h'):=by
 intro pl M w vs hG1 hr hvs;obtain⟨n,en⟩:∃n,n=L.length:=⟨_,rfl⟩
 rw[<-en]at hL hL' ht hi hg' hv;have hat:∀i,i<n->∃o,L[i]?=some o/\o∈L:=fun i h=>⟨L[i],ko (by omega),De _⟩
 have hat':∀i,i<n->∃o,L'[i]?=some o/\o∈L':=fun i h=>⟨L'[i]'(by omega),ko (by omega),De _⟩
 have hpl1:∀k q,jL ρ n pl k=some q->k<n/\pl (ρ k)=some q:=fun k q hk=>by grind[jL]
 have hnH:(aa L).n=n:=en.symm;have hnH':(aa L').n=n:=hl.trans en.symm;have hr1:ce (jL ρ n pl) M (aa L) w:=by
  refine⟨fun k q hk=>?_,fun k q o hk hgo=>?_,fun k q hk=>?_,fun k k' q q' hk hk' e=>?_,hr.imm,fun k q hk=>?_⟩
  ·simp_all
  ·obtain⟨hk1,hk2⟩:=hpl1 k q hk;have:=nE hgo;exact(hr.obj (ρ k) q _ hk2 (hg k o this)).ren (hL o (bh this)).2
  ·exact hr.blk _ q (hpl1 k q hk).2
  ·obtain⟨a1,a2⟩:=hpl1 k q hk;obtain⟨b1,b2⟩:=hpl1 k' q' hk';exact hi k k' a1 b1 (hr.inj _ _ q q' a2 b2 e)
  ·exact hr.sep _ q (hpl1 k q hk).2
 have hvs1:VRels (jL ρ n pl) M args vs:=⟨by rw[<-hvs.len,fQ,cX],fun j y hj=>(hvs.at_ j (Ev.ren ρ y) (by grind[fQ])).ren rfl (du.1 ht y (bh hj))⟩
 have hG1':pu G (jL ρ n pl) M:=hG1.none hG;have fin:∀cv w',g0 (jL ρ n pl) M (aa L) w v (aa L') cv w'->g0 pl M h w (Ev.ren ρ v) h' cv w':=by
  intro cv w' ⟨pl2,M2,k1,k2,k3,k4⟩;have kept:∀b,b<w.heap.size->(∀i q,i<n->pl (ρ i)=some q->q.blk≠b)->w'.heap[b]?=w.heap[b]?:=fun b hb hne=>k3.kept b hb fun k q hk _=>hne k q (hpl1 k q hk).1 (hpl1 k q hk).2
  have same:∀i,i<n->pl2 i=pl (ρ i):=by
   intro i hin;cases hp:pl (ρ i)with
   |none=>exact k3.new i (by omega) (by simp_all[jL])
   |some p=>
    obtain⟨p2,e1,e2,e3⟩:=k3.ext i p (th hin hp);obtain⟨o,h1,h2⟩:=hat i hin;obtain⟨o',h1',h2'⟩:=hat' i hin;have q1:p.ep=0:=(hr.obj (ρ i) p _ hp (hg i o h1)).ep0 (by grind[UM]);have q2:p2.ep=0:=(k2.obj i p2 o' e1 (hm i o' h1')).ep0 (hL' o' h2').1;simp_all
  have hun:∀id p,id<n->pl2 id=some p->pl (ρ id)=some p:=fun id p h1 h2=>by simp_all
  refine⟨pl,M2,k1.unren hun hv,⟨fun k q hk=>by rw[hn];exact hr.dom k q hk,fun k q o hk hgo=>?_,fun k q hk=>FJ (hr.blk k q hk) k3.size,hr.inj,k2.imm,fun k q hk=>?_⟩,⟨ni.refl _,fun _ _ h=>h,k3.mem,k3.size,fun b hb hk=>kept b hb fun i q hin hp e=>?_,fun k q hk=>.inl ⟨q,hk,rfl⟩,fun k q hk hno=>?_,fun _ _ h _=>h,k3.memNew,k3.os,k3.tape,k3.out,k3.drawn⟩,wY hn.symm⟩
  ·rcases hg' k o hgo with⟨i,o',h1,rfl,rfl⟩|⟨hne,hgo⟩
   ·have hin:i<n:=by grind
    have hm':=bh h1;exact(k2.obj i q o' (by simp_all) (hm i o' h1)).unren (hL' o' hm').1 hun (hL' o' hm').2
   ·rw[kept _ (hr.blk k q hk) fun i q' hin hp e=>hne i hin (hr.inj _ _ q q' hk hp e.symm)];exact(hr.obj k q o hk hgo).mono (ni.refl _) k3.mem
  ·cases hM:M2 q.blk with
   |none=>rfl
   |some c2=>
    rcases k3.memNew _ c2 hM with k5|k5
    ·rw[hr.sep k q hk]at k5;grind
    ·have:=hr.blk k q hk;omega
  ·grind
  ·cases hq:h'.get k with
   |none=>rfl
   |some o=>grind
 rcases h0 (jL ρ n pl) M w vs hG1' hr1 hvs1 with⟨h1,h2⟩|⟨cv,w',v1,h1,q1,⟨q2,q3⟩,q4⟩
 ·exact .inl ⟨h1,Calls.mono h2 fun e w' ⟨cv,v1,h1,k1,⟨k2,k3⟩,k4⟩=>⟨cv,Ev.ren ρ v,h',k1,⟨rfl,rfl⟩,by simp_all⟩⟩
 ·exact .inr ⟨cv,w',Ev.ren ρ v,h',q1,⟨rfl,rfl⟩,by simp_all⟩
section
variable{P:Program}{G:eh}{call:cZ}{m:Nat}{c:Code}{d:D}{s s':St}{ops:Array Oper}
theorem EU(hm:P.follows .mixedOrders=true)(hG:iL G)(hc:cw P G call)(d:D)(e:(WP P G call m c).run d s (fun e _ s=>e=.normal/\s=s')=(AExit.normal=.normal/\s'=s')):ah P G (some m) c s (fun e s=>e=.normal/\s=s'):=WZ hm hG hc c d s _ _ (e▸⟨rfl,rfl⟩) fun _ _ _ _ h=>h
theorem xR(hG:iL G)(hc:cw P G call){id:Nat}{Ψ:St->Prop}(d:D){W:Prop}(p:W)(e:YV P G call m ops ops.toList d s (fun _ s=>Ψ s)=W):ah P G (some m) (.region id ops false) s (fun e s=>e=.normal/\Ψ s):=ah.region (fx hG hc _ d s _ (e▸p) fun _ _ _ h=>⟨rfl,h⟩)
end
section
variable{P:Program}{G:eh}{ops:Array Oper}{o:Oper}{l:List Oper}{s:St}{b:Option Nat}
theorem rC{Y:Type}{I:Y->Prop}{r:Y->AV}{H:Y->AHeap}{Φ:St->Prop}(hg:eW s.tmps (dN ops o)=some true)
  (hO:∀(pl:Pl)(M:dg)(a:Act)(w:World),pu G pl M->ce pl M s.heap w->FrRel pl M s.tmps a->∃y pl' M' cv w',I y/\(execOp a.eval o).run P w=.ok (.value cv) w'/\VRel pl' M' (r y) cv/\ce pl' M' (H y) w'/\cN s.heap pl M w (H y) pl' M' w'/\s.heap.n<=(H y).n)
  (h:∀y,I y->∃A',iw s.tmps o.dst (r y)=some A'/\b7 P G b ops l ⟨A',H y⟩ Φ):b7 P G b ops (o::l) s Φ:=by
 intro i N h0' pl0 M0 w0 a w Q hb hl' hs hQ;have ho:ops[i]?=some o:=by simpa using hl' 0
 obtain⟨pl,M,g1,g2,g3,g4,g5⟩:=hs.ex;simp only[cO,ye,wpOps,ho];rw[eN g3 hg];simp only[if_true];left;obtain⟨y,pl',M',cv,w',i1,i2,i3,i4,i5,i6⟩:=hO pl M a w g1 g2 g3;obtain⟨A',e1,e2⟩:=h y i1;obtain⟨p1,p2⟩:=lU (g3.mono i5.ext i5.mem) i3 (by rw[hs.n];exact hs.small) e1;have nxt:=e2 (i+1) N h0' pl0 M0 w0 (a.put o.dst cv) w' Q hb (fun j=>by have:=hl' (j+1);grind)
  ⟨⟨pl',M',g1.mono i5.ext i5.mem,i4,p1,g4.trans i5 g5,bH g5 i6⟩,by rw[<-hs.n];omega,hs.small⟩ hQ
 unfold Oper.wp;rw[i2];exact nxt
theorem uP{t tx e:TypeId}{i:TypeInfo}{sz bt:Nat}(hsz:i.size=sz)(hbt:i.bytes=bt){z z0:AV}{sO xO:Operand}{dst:Option Tmp}{ty:TypeId}{pos:String}{after:Array Edge}{guard:Option (Nat×Bool)}{xs:List AV}
  (ht:P.underlying t=some (.slice e))(hk:∃e',P.underlying tx=some (.slice e'))(hi:P.info? e=some i)(hz:iU P e=some z0)(hzl:Le z z0)
  (hs:(cK G sO).run s.tmps=some (.ps [] true))(hx:(cK G xO).run s.tmps=some (.ls xs))(hne:xs≠[])(hfit:dr sz xs=true)(hzf:dr sz [z]=true)(hsm:small xs.length bt=true)(hs0:0<sz)
  (pl:Pl)(M:dg)(a:Act)(w:World)(g1:pu G pl M)(g2:ce pl M s.heap w)(g3:FrRel pl M s.tmps a):
  ∃(k:Nat)(pl':Pl)(M':dg)(cv:Value)(w':World),True/\(execOp a.eval ⟨dst,.call ⟨.builtin .append,#[sO,xO],#[t,tx]⟩,ty,pos,after,guard⟩).run P w=.ok (.value cv) w'/\
   VRel pl' M' (.slice s.heap.n 0 0 xs.length (some (xs.length+k))) cv/\ce pl' M' (s.heap.push (.row sz false 0 (xs++List.replicate k z))) w'/\cN s.heap pl M w (s.heap.push (.row sz false 0 (xs++List.replicate k z))) pl' M' w'/\s.heap.n<=(s.heap.push (.row sz false 0 (xs++List.replicate k z))).n:=by
 subst hsz;subst hbt;have hsr:=aR g1 g3 hs;have hxr:=aR g1 g3 hx;obtain⟨news,hsrc⟩:=yS (P:=P) g2 hxr (show kp s.heap (.ls xs)=some xs from rfl) hne hfit;obtain⟨i2,zv,hz1,hz2,hz3⟩:=mC hz;rw[hi]at hz1;cases hz1
 obtain⟨b1,b2⟩:=jl hsm;have hpos:0<xs.length:=qW.2 hne;generalize hq:a.eval sO=cs at hsr;generalize hq2:a.eval xO=cx at hxr hsrc;cases hsr with
 | ps hl htt hm hs2 hc=>
  rename_i ad cap sz c;have hcap:cap=0:=htt rfl;subst hcap;have hzr:=hzl _ _ _ (dz (pl:=pl) (M:=M) hz3);have hzt:=mf hzf z (by simp);have hzsz:zv.cells.size=i.size:=by rw[<-hzr.cells.len];omega
  have hrun:=run_append_grow_src (P:=P) w t tx ty e i zv ht hi hz2 (some ad) 0 0 [] (by simp[Builtin.firstCells,loadCells,loadCellsFrom]) cx xs.length news (hsrc.src (.inl hk)) (by omega) (by omega) (growslice_fits (by omega) (by grind));have hge:=grownCap_ge w (0+xs.length) 0 e;obtain⟨C,hC⟩:∃C,C=grownCap w (0+xs.length) 0 e:=⟨_,rfl⟩
  rw[<-hC]at hrun hge;have hin:=eS hzr hzt.2 (C-(0+xs.length)) hzt.1 hs0;have hzl:(Builtin.zeroCells zv.cells (C-(0+xs.length))).toList.toArray=(Array.range ((C-(0+xs.length))*i.size)).map (zv.cells[· %zv.cells.size]!):=by grind[Builtin.zeroCells]
  have hnl:(Builtin.zeroCells zv.cells (C-(0+xs.length))).toList.length=(List.replicate (C-(0+xs.length)) z).length *i.size:=by grind[Builtin.zeroCells]
  have hin2:=kx (news:=(Builtin.zeroCells zv.cells (C-(0+xs.length))).toList) hsrc.mem (by grind) hsrc.newsLen hnl #[];have hce:(news++(Builtin.zeroCells zv.cells (C-(0+xs.length))).toList).toArray++#[]=([]++news).toArray++Builtin.zeroCells zv.cells (C-(0+xs.length)):=by grind
  rw[hce]at hin2;have hcs:(([]++news).toArray++Builtin.zeroCells zv.cells (C-(0+xs.length))).size=(xs++List.replicate (C-(0+xs.length)) z).length *i.size:=by simp only[yf,FK,BR,hsrc.newsLen,size_zeroCells,hzsz,dT,qX,jF]
  obtain⟨cells,hcells⟩:∃cells,cells=([]++news).toArray++Builtin.zeroCells zv.cells (C-(0+xs.length)):=⟨_,rfl⟩
  rw[<-hcells]at hrun hin2 hcs;have hxl:(xs++List.replicate (C-(0+xs.length)) z).length=C:=by grind
  let p:Place:=⟨w.heap.size,0,i.size,C,C*i.size⟩
  have hwd:(w.drew.alloc (.cells cells e)).heap=w.heap.push (.cells cells e):=rfl;obtain⟨r1,r2⟩:=ce.alloc (o:=.row i.size false 0 (xs++List.replicate (C-(0+xs.length)) z)) (p:=p) g2 hwd ⟨rfl,rfl,rfl,np _⟩ rfl
   ⟨rfl,rfl,hxl.symm,by grind,rfl,hs0,fun _=>hcs,hin2.mono (fun id q hq=>⟨q,by rw[c8 (by have:=g2.dom id q hq;omega)];omega,af _,fun _=>rfl⟩) (fun _ _ h=>h)⟩
  refine⟨C-(0+xs.length),upd pl s.heap.n p,M,.slice (some ⟨w.heap.size,0,none⟩) (0+xs.length) C,w.drew.alloc (.cells cells e),trivial,?_,?_,r1,r2,np _⟩
  ·simp only[execOp,resolve,invoke,builtin,Sem.run_bind,Sem.run_pure,Result.andThen_ok,List.map_toArray,eb,wK,hq,hq2];show(Sem.run P (Builtin.append_ #[t,tx] ty #[Value.slice (some ad) 0 0,cx]) w).andThen _=_
   rw[hrun];rfl
  ·rw[f8]at hge ⊢;refine .slice (dI _ _ _) (af _) hge (fun k hk=>by grind) (fun _=>⟨.inr (by grind),by grind,by grind,(fun hk=>by grind),(fun k hk=>by grind)⟩)
end
section
variable{s id ep off len c l h m a b d sz bt i n k:Nat}{hp H:AHeap}{xs ys zs new:List AV}{lo hi mx cap:Option Nat}{op:Bool}{x z:AV}{vl vh vm:Option AV}
theorem iW(hg:qw s hp id ep=some xs)(h1:i9 0 vl=some l)(h2:i9 len vh=some h)(q1:l<=h)(q2:h<=c)(q3:c≠l)(e1:off+l=a)(e2:h-l=b)(e3:c-l=d):
  bj H (dY s hp (some (.slice id ep off len (some c))) vl vh none)=some (.val (.slice id ep a b (some d)) H):=by
 have p1:Nat.ble l h=true:=tV q1;have p2:Nat.ble h c=true:=tV q2;have p3:Nat.beq c l=false:=by grind[an]
 simp only[dY,f9,hg,h1,h2,room,pM,p1,p2,p3,yg,e1,e2,e3,bj]
theorem DA(hg:qw s hp id ep=some xs)(h1:i9 0 vl=some l)(h2:fG x=some h)(h3:fG z=some m)(q1:l<=h)(q2:h<=m)(q3:m<=c)(q4:m≠l)(e1:off+l=a)(e2:h-l=b)(e3:m-l=d):
  bj H (dY s hp (some (.slice id ep off len (some c))) vl (some x) (some z))=some (.val (.slice id ep a b (some d)) H):=by
 have p1:Nat.ble l h=true:=tV q1;have p2:Nat.ble h m=true:=tV q2;have p3:Nat.beq m l=false:=by grind[an]
 simp_all[tV,dY,f9,room,pM,bj]
theorem KH(hg:qw s hp id ep=some xs)(h1:i9 0 vl=some l)(h2:i9 len vh=some h)(q1:l=h)(q3:c=l):
  bj H (dY s hp (some (.slice id ep off len (some c))) vl vh none)=some (.val (.slice id ep 0 0 (some 0)) H):=by
 subst q1;subst q3;have p1:Nat.ble c c=true:=tV (af _);have p3:Nat.beq c c=true:=qQ _;simp only[dY,f9,hg,h1,h2,room,pM,p1,p3,yg,bj]
theorem Du(hg:qw s hp id ep=some xs)(h1:i9 0 vl=some l)(h2:i9 len vh=some h)(q1:l<=h)(q2:h+off<=xs.length)(e1:off+l=a)(e2:h-l=b):
  bj H (dY s hp (some (.slice id ep off len none)) vl vh none)=some (.val (.slice id ep a b none) H):=by
 grind[Nat.ble_eq_true_of_le,dY,f9,room,pM,bj]
theorem yR(hg:H.get id=some (.row sz op ep xs))(e:(xs.drop off).take len=zs):kp H (.slice id ep off len cap)=some zs:=by grind[Nat.beq_refl,kp,ke]
theorem KA{xs ys:List AV}{n:Nat}(h:xs.length=n):((xs++ys).drop 0).take n=xs:=by simp_all
theorem wa{xs:List AV}{t:Bool}{n:Nat}(h:aq xs=0):Nat.ble (AV.ps xs t).top n=true:=by simp_all[AV.top]
theorem MY(hg:H.get id=some (.row sz op ep xs))(hx:kp H x=some new)(hf:dr sz new=true)(hne:new≠[])(hc:len+new.length<=c)(hl:off+len+new.length<=xs.length)(hs:small (len+new.length) bt=true)(e1:len+new.length=n)(e2:bF xs (off+len) new=ys):
  fK (da sz bt H (some (.slice id ep off len (some c))) (some x))=some (.val (.slice id ep off n (some c)) (H.put id (.row sz op ep ys))):=by
 subst e1;cases new with
 |nil=>simp_all
 |cons y r=>simp_all[tV,da,gk,gO,fK]
theorem Sf(hx:kp H x=some []):fK (da sz bt H (some (.slice id ep off len cap)) (some x))=some (.val (.slice id ep off len cap) H):=by grind[da,gk,gO,fK]
theorem Vw(hg:H.get id=some (.row sz op ep xs))(hx:kp H x=some new)(hf:dr sz new=true)(hne:new≠[])(hc:c<len+new.length)(hs:small (len+new.length) bt=true)(e1:(xs.drop off).take len++new=ys)(e2:ys.length=n):
  fK (da sz bt H (some (.slice id ep off len (some c))) (some x))=some (.val (.slice H.n 0 0 n none) (H.push (.row sz true 0 ys))):=by
 cases new with
 |nil=>simp_all
 |cons y r=>
  have p1:Nat.beq ep ep=true:=qQ ep;have p2:Nat.beq sz sz=true:=qQ sz;have p3:Nat.ble (len+(y::r).length) c=false:=by grind[bY]
  simp_all[da,gk,gO,iz,fK]
theorem TP(hg:H.get id=some (.row sz op ep xs))(hk:0<k)(hc:c<len+k)(hf:dr sz [z]=true)(hs:small (len+k) bt=true)(hs2:small k bt=true)(e1:(xs.drop off).take len++List.replicate k z=ys)(e2:ys.length=n):
  fK (CC sz bt z H (some (.slice id ep off len (some c))) (some (.int .i64 (.ofNat k))))=some (.val (.slice H.n 0 0 n none) (H.push (.row sz true 0 ys))):=by
 have p1:Nat.beq ep ep=true:=qQ ep;have p2:Nat.beq sz sz=true:=qQ sz;grind[Nat.ble_eq_true_of_le,Nat.blt,CC,Lv,iz,fK]
theorem L7(hg:H.get id=some (.row sz op ep xs))(hx:kp H x=some zs)(hf:dr sz (zs.take len)=true)(e1:min zs.length len=k)(e2:bF xs off (zs.take len)=ys):
  fK (uF sz H (some (.slice id ep off len cap)) (some x))=some (.val (.int .i64 (.ofNat k)) (H.put id (.row sz op ep ys))):=by
 grind[Nat.beq_refl,uF,L8,fK]
theorem Eu(hg:H.get id=some (.row sz op ep xs))(hf:dr sz [z]=true)(e2:bF xs off (List.replicate len z)=ys):
  fK (v8 sz z H (some (.slice id ep off len cap)))=some (.val gV (H.put id (.row sz op ep ys))):=by
 grind[Nat.beq_refl,v8,fK]
theorem rf{sz:Nat}:∀{xs:List AV}{n:Nat},dr sz xs=true->dr sz (xs.take n)=true
 |[],n,h=>by simp_all
 |x::r,0,_=>rfl
 |x::r,n+1,h=>by
  simp only[List.take_succ_cons,dr,bq]at h ⊢;exact⟨h.1,rf h.2⟩
theorem rg{sz:Nat}:∀{xs:List AV}{n:Nat},dr sz xs=true->dr sz (xs.drop n)=true
 |[],n,h=>by simp_all
 |x::r,0,h=>h
 |x::r,n+1,h=>by
  simp only[List.drop_succ_cons,dr,bq]at h ⊢;exact rg h.2
end
theorem Bl{P:Program}{G:eh}{f:FuncId}{fn:Func}{tS tR e:TypeId}{n:Nat}(hf:P.funcs[f]?=some fn)(hname:(fn.name== "runtime.NumGoroutine")=false)(hb:fn.body.isNone=true)(hn:Extern.findNext fn=none)(he:Extern.find fn=some (Extern.SlicesOverlaps.overlaps #[tS,tS] #[tR]))
  (ht:P.underlying tS=some (.slice e))(hi:cP P e=some n){xs ys:List AV}{t:Bool}{id off len c sz:Nat}{op:Bool}{h:AHeap}(hne:xs≠[])(hgo:h.get id=some (.row sz op 0 ys)):
  aF P G f [.ps xs t,.slice id 0 off len (some c)] h (fun v h'=>v=.bool false/\h'=h):=by
 intro pl M w vs hG hr hv;right;refine⟨.bool false,w,.bool false,h,?_,⟨rfl,rfl⟩,pl,M,.bool false,hr,cN.refl _ _ _ _,af _⟩;have v0:=hv.at_ 0 _ rfl;have v1:=hv.at_ 1 _ rfl;have hvs:vs=#[vs.getD 0 undef,vs.getD 1 undef]:=by
  have hl:vs.size=2:=hv.len.symm;apply Array.ext
  ·omega
  ·intro i h1 h2
   match i,h2 with
   |0,_=>simp_all
   |1,_=>simp_all
 rw[run_callFunc_extern hf hname hb hn he,hvs];generalize vs.getD 0 undef=x0 at v0;generalize vs.getD 1 undef=x1 at v1;cases v0 with
 | ps hl htt hm hs hc=>
  rename_i a cap0 sz0 c0;obtain⟨m1,m2,m3,m4⟩:=hm hne;have hpos:0<xs.length:=qW.2 hne;cases v1 with
  | slice hp hep hl1 hk ha=>
   rename_i cap1 b p;have hcap:=hk c rfl;subst hcap;obtain⟨tA,frA,hA⟩:=hr.imm _ _ m2;have ho:=hr.obj id p _ hp hgo;obtain⟨cB,tB,hB,hpe⟩:∃cB tB,w.heap[p.blk]?=some (.cells cB tB (0,0))/\p.ep=0:=by
    cases hb2:w.heap[p.blk]? with
    |none=>rw[hb2]at ho;exact ho.elim
    |some ob=>
     rw[hb2]at ho;cases ob with
     |cells cB tB fr=>obtain⟨h1,_,_,_,h5,_⟩:=ho;grind
     |_=>exact ho.elim
   have hsep:=hr.sep id p hp;have hsz:=cE hi w;have hc0:c0.size≠0:=by
    have:0<xs.length*sz0:=Nat.mul_pos hpos m4;omega
   obtain⟨q1,-⟩:=ha hpe.symm
   suffices hh:(Extern.SlicesOverlaps.overlaps #[tS,tS] #[tR] #[.slice (some a) xs.length cap0,.slice (some b) len cap1]).run P w=.ok (.bool false) w by rw[hh];rfl
   generalize xs.length=la;change Sem.run P (α:=Value) (do
    let some t:=(#[tS,tS]:Array TypeId)[0]?|stuck "slices.overlaps: no parameter types"
    let .slice elem <-underlying t|stuck "slices.overlaps: slice type expected"
    let size <-sizeOf elem
    match(some a:Option Addr),(some b:Option Addr)with
    | some a,some b=>
     if la=0\/len=0\/size=0 then pure (Value.bool false)
     else if a.block !=b.block&&(<-frozen a)&&(<-frozen b)then unsupported .addressObserved
     else do
      if a.block !=b.block then do
       noView a;noView b
       if <-mayBeOne a b then return Value.bool ((<-choose (.extern "sameAddr.stringBytes" 2))==1)
      pure (Value.bool (a.block==b.block&&a.off<b.off+len*size&&b.off<a.off+la*size))
    |_,_=>pure (Value.bool false)) w=_
   by_cases h0:la=0\/len=0\/n=0
   ·simp[run_underlying ht,hsz,h0]
   ·have hbk:b=⟨p.blk,off*p.sz,none⟩:=by grind
    subst hbk;have hnb:a.block≠p.blk:=fun e=>by grind
    have hnb1:(a.block !=p.blk)=true:=by grind
    have hnb2:(a.block==p.blk)=false:=by grind
    have f1:∀o,w.frozen? ⟨p.blk,o,none⟩=false:=fun o=>by grind[World.frozen?]
    have s1:w.shape? a.block=some (tA,c0.size):=by grind[World.shape?]
    have s2:w.shape? p.blk=some (tB,cB.size):=by grind[World.shape?]
    cases hsx:c0.size with
    |zero=>omega
    |succ kA=>
     rw[hsx]at s1;cases hfa:w.frozen? a<;>cases hfb:w.frozen? {block:=a.block,off:=kA+1}<;>
     simp[run_underlying ht,hsz,h0,hnb1,hnb2,frozen,noView,viewAt,mayBeOne,stringish,shape,Sem.run,s1,s2,f1,hfa,hfb]
def Ti(rs:List Nat):AHeap->List AObj->Nat->AHeap
 |h,[],_=>h
 |h,o::r,i=>Ti rs (h.put (fL rs i) (kW (fL rs) o)) r (i+1)
def X9(rs:List Nat)(h:AHeap):List AObj->Nat->Prop
 |[],_=>True
 |o::r,i=>h.get (fL rs i)=some (kW (fL rs) o)/\X9 rs h r (i+1)
def RQ(h:AHeap):List AObj->Nat->Prop
 |[],_=>True
 |o::r,i=>h.get i=some o/\RQ h r (i+1)
def Dm(n:Nat):List AObj->Prop
 |[]=>True
 |o::r=>(ep0 o=true/\o.top<=n)/\Dm n r
theorem PF(rs:List Nat):∀(l:List AObj)(h:AHeap)(i:Nat),(Ti rs h l i).n=h.n
 |[],_,_=>rfl
 |_::r,h,i=>PF rs r _ (i+1)
theorem MW{rs:List Nat}{h:AHeap}:∀{l:List AObj}{i j:Nat}{o:AObj},X9 rs h l i->l[j]?=some o->h.get (fL rs (i+j))=some (kW (fL rs) o)
 |x::r,i,0,o,a,e=>by simp at e;subst e;exact a.1
 |x::r,i,j+1,o,a,e=>by
  have:=MW (i:=i+1) (j:=j) a.2 (by simpa using e);grind
theorem G2{h:AHeap}:∀{l:List AObj}{i j:Nat}{o:AObj},RQ h l i->l[j]?=some o->h.get (i+j)=some o
 |x::r,i,0,o,a,e=>by simp at e;subst e;exact a.1
 |x::r,i,j+1,o,a,e=>by
  have:=G2 (i:=i+1) (j:=j) a.2 (by simpa using e);grind
theorem vY{n:Nat}:∀{l:List AObj},Dm n l->∀o,o∈l->ep0 o=true/\o.top<=n
 |x::r,a,o,e=>by
  rcases eu.1 e with rfl|e
  ·exact a.1
  ·exact vY a.2 o e
theorem F9{rs:List Nat}:∀{l:List AObj}{h:AHeap}{i k:Nat}{o:AObj},(∀j,j<l.length->fL rs (i+j)<1000000)->(Ti rs h l i).get k=some o->
  (∃j o',l[j]?=some o'/\k=fL rs (i+j)/\o=kW (fL rs) o')\/((∀j,j<l.length->k≠fL rs (i+j))/\h.get k=some o)
 |[],h,i,k,o,_,e=>.inr ⟨fun j hj=>absurd hj (qZ _),e⟩
 | x::r,h,i,k,o,hb,e=>by
  rcases F9 (l:=r) (i:=i+1) (fun j hj=>by have:=hb (j+1) (by simp_all);grind) e with⟨j,o',h1,h2,h3⟩|⟨h1,h2⟩
  ·exact .inl ⟨j+1,o',by simp_all,by grind,h3⟩
  ·rcases AHeap.get_put (by have:=hb 0 (Nat.zero_lt_succ _);omega) h2 with⟨h3,h4⟩|⟨h3,h4⟩
   ·exact .inl ⟨0,x,rfl,h3,h4⟩
   grind
theorem GO{q:Nat->Bool}:∀{rs:List Nat}{i:Nat},rs.all q=true->i<rs.length->q (fL rs i)=true
 |x::r,0,h,_=>by simp only[List.all_cons,bq]at h;exact h.1
 |x::r,i+1,h,hi=>by
  simp only[List.all_cons,bq]at h;exact GO (rs:=r) (i:=i) h.2 (by simp_all)
theorem pt{P:Program}{G:eh}(hG:iL G){f:FuncId}{args args':List AV}{v v':AV}{L L' os os':List AObj}(rs:List Nat)
  (h0:aF P G f args (aa L) (fun v1 h1=>v1=v/\h1=aa L'))(ea:mX (fL rs) args=args')(ev:Ev.ren (fL rs) v=v')
  (c:(zy rs&&(Nat.beq rs.length L.length&&(Nat.beq L'.length L.length&&rs.all fun x=>Nat.blt x 1000000)))=true)
  (hL:Dm L.length L)(hL':Dm L.length L')(ht:aq args<=L.length)(hv:v.top<=L.length)
  (a1:X9 rs (aa os) L 0)(a2:RQ (aa L') L' 0)(a3:aa os'=Ti rs (aa os) L' 0):aF P G f args' (aa os) (fun v1 h1=>v1=v'/\h1=aa os'):=by
 simp only[bq,an,decide_eq_true_eq]at c;obtain⟨c1,c2,c3,c4⟩:=c;subst ea;subst ev;rw[a3];refine aF.frame hG (fL rs) c3 (vY hL) (vY hL') (fun i o hi=>by have:=G2 a2 hi;simp_all) ht hv (fun i j hi hj=>rz c1 i j (by omega) (by omega)) h0
  (fun i o hi=>by have:=MW a1 hi;simp_all) (fun k o hk=>?_) (PF rs L' _ 0)
 rcases F9 (fun j hj=>by have:=GO c4 (show 0+j<rs.length by omega);simp_all) hk with⟨j,o',h1,h2,h3⟩|⟨h1,h2⟩
 all_goals grind
theorem va{ρ:Nat->Nat}{sz ep:Nat}{b:Bool}{xs:List AV}(h:aq xs=0):kW ρ (.row sz b ep xs)=.row sz b ep xs:=by grind[kW,eP]
theorem fj{P:Program}{G:eh}(hG:iL G){f:FuncId}{args args':List AV}{v v':AV}{sz:Nat}{b b':Bool}{xs xs':List AV}{os os':List AObj}(id:Nat)(hx:aq xs=0)(hx':aq xs'=0)
  (h0:aF P G f args (aa [.row sz b 0 xs]) (fun v1 h1=>v1=v/\h1=aa [.row sz b' 0 xs']))(ea:mX (fL [id]) args=args')(ev:Ev.ren (fL [id]) v=v')(c:Nat.blt id 1000000=true)
  (ht:Nat.ble (aq args) 1=true)(hv:Nat.ble v.top 1=true)(a1:(aa os).get id=some (.row sz b 0 xs))(a3:aa os'=(aa os).put id (.row sz b' 0 xs')):aF P G f args' (aa os) (fun v1 h1=>v1=v'/\h1=aa os'):=
 pt hG [id] h0 ea ev (by simp only[zy,jX,List.all_cons,List.all_nil,c];rfl) ⟨⟨rfl,by grind[AObj.top]⟩,trivial⟩ ⟨⟨rfl,by grind[AObj.top]⟩,trivial⟩ (vX ht) (vX hv)
  ⟨by rw[va hx];exact a1,trivial⟩ ⟨rfl,trivial⟩ (by rw[a3];show _=AHeap.put _ _ (kW _ _);rw[va hx'];rfl)
def jr(u:TUnit)(ks:List TUnit):TUnit:=⟨u.act,u.item,u.n,u.kind,u.label,u.head,u.words,ks⟩
def mz(w:List PWord)(u:TUnit):TUnit:=⟨u.act,u.item,u.n,u.kind,u.label,u.head,w,u.kids⟩
def Aq(w:List PWord)(u:TUnit):TUnit:=⟨u.act,u.item,u.n,u.kind,u.label,w,u.words,u.kids⟩
def pj(s:aP)(u:TUnit):TUnit:=⟨u.act,u.item,u.n,u.kind,s,u.head,u.words,u.kids⟩
def uv(i:Nat)(x:TUnit)(l:List TUnit):List TUnit:=l.take i++(x::l.drop i)
def dR(i:Nat)(u:TUnit):TUnit:=jr u (u.kids.eraseIdx i)
def dV(i:Nat)(x:TUnit)(u:TUnit):TUnit:=jr u (uv i x u.kids)
mutual
def cW(p:PId)(f:TUnit->TUnit):TUnit->TUnit
 |⟨a,i,n,k,l,h,w,ks⟩=>bif fD p ⟨a,i,n,k,l,h,w,ks⟩then f ⟨a,i,n,k,l,h,w,ks⟩else⟨a,i,n,k,l,h,w,eZ p f ks⟩
def eZ(p:PId)(f:TUnit->TUnit):List TUnit->List TUnit
 |[]=>[]
 |k::r=>bif bp p k then cW p f k::r else k::eZ p f r
end
section
variable{p:PId}{f:TUnit->TUnit}{u w:TUnit}{l r:List TUnit}{i:Nat}
theorem Fj(p:PId)(f:TUnit->TUnit)(u:TUnit):cW p f u=bif fD p u then f u else jr u (eZ p f u.kids):=by cases u;rw[cW];rfl
theorem sk:eZ p f []=[]:=by rw[eZ]
theorem gr(k:TUnit)(r:List TUnit):eZ p f (k::r)=bif bp p k then cW p f k::r else k::eZ p f r:=by rw[eZ]
theorem rZ(h:fD p u=true):cW p f u=f u:=by rw[Fj,h];rfl
theorem mD(h:fD p u=false):cW p f u=jr u (eZ p f u.kids):=by rw[Fj,h];rfl
def jW(p:PId)(f:TUnit->TUnit)(l:List TUnit)(i:Nat)(r:List TUnit):Prop:=eZ p f l=l.take i++eZ p f r
theorem jW.start:jW p f l 0 l:=rfl
theorem jW.skip(h:jW p f l i (w::r))(hd:l.drop i=w::r)(hw:bp p w=false):jW p f l (i+1) r:=by
 unfold jW at *;have hi:i<l.length:=by grind[List.drop_eq_nil_of_le]
 have e:l[i]=w:=by
  have:=congrArg (·[0]?) hd;grind
 grind[gr]
theorem jW.hit(h:jW p f l i (w::r))(hd:l.drop i=w::r)(hw:bp p w=true):eZ p f l=l.set i (cW p f w):=by
 unfold jW at h;have hi:i<l.length:=by grind[List.drop_eq_nil_of_le]
 rw[h,gr,hw,List.set_eq_take_append_cons_drop,if_pos hi];have:l.drop (i+1)=r:=by rw[<-BL,hd];rfl
 simp_all
theorem jW.done(h:jW p f l i [])(hd:l.drop i=[]):eZ p f l=l:=by simp_all[jW,sk,tW]
theorem sy:∀(u:TUnit),bp p u=false->cW p f u=u:=TUnit.ind fun u ih h=>by
 have hw:=Ax h;rw[ft]at hw;cases hi:fD p u with
 |true=>grind
 | false=>
  rw[hi]at hw;simp only[cond_false]at hw;have key:∀(r:List TUnit),(∀k,k∈r->k∈u.kids)->b9 p r=[]->eZ p f r=r:=by
   intro r;induction r with
   |nil=>grind[sk]
   |cons k r ihr=>
    intro hm hr;cases hk:bp p k with
    |true=>grind[mE,jg]
    |false=>simp_all[gv,gr]
  have hk:b9 p u.kids=[]:=by grind
  rw[mD hi,key u.kids (fun _ h=>h) hk];cases u;rfl
end
end Go.Ev
namespace Go.Ev
open Go
noncomputable def be(n:Nat):AV:=.int .i64 (.ofNat n)
theorem XC(n:Nat):(be n).top=0:=rfl
section
variable{l part:List aP}{i:Nat}{acc:List Nat}
def nh(l part:List aP)(i:Nat)(acc:List Nat):Prop:=acc.length<=i/\i<=l.length+part.length/\∃f,uQ l part=acc++vi part f l i/\l.length<i+f
theorem nh.start(hp:0<part.length):nh l part 0 []:=by
 refine⟨af _,bE _,l.length+1,?_,by omega⟩;unfold uQ;grind
theorem LU{f:Nat}(hi:i+part.length<=l.length):vi part (f+1) l i=bif dU dP ((l.take (i+part.length)).drop i) part then i::vi part f l (i+part.length)else vi part f l (i+1):=by
 have e:(l.take (i+part.length)).drop i=(l.drop i).take part.length:=by grind
 rw[vi,tV hi,e];rfl
theorem nh.skip(h:nh l part i acc)(hi:i+part.length<=l.length)(hp:0<part.length)(hm:dU dP ((l.take (i+part.length)).drop i) part=false):nh l part (i+1) acc:=by
 obtain⟨h1,h2,f,h3,h4⟩:=h;cases f with
 |zero=>omega
 |succ f=>rw[LU hi,hm]at h3;exact⟨by omega,by omega,f,h3,by omega⟩
theorem nh.hit(h:nh l part i acc)(hi:i+part.length<=l.length)(hp:0<part.length)(hm:dU dP ((l.take (i+part.length)).drop i) part=true):nh l part (i+part.length) (acc++[i]):=by
 obtain⟨h1,h2,f,h3,h4⟩:=h;cases f with
 |zero=>omega
 |succ f=>
  rw[LU hi,hm]at h3;exact⟨by grind,by omega,f,by simp_all,by omega⟩
theorem nh.done(h:nh l part i acc)(hi:l.length<i+part.length):uQ l part=acc:=by
 obtain⟨h1,h2,f,h3,h4⟩:=h;cases f with
 |zero=>grind[vi]
 |succ f=>grind[vi,bY]
theorem nh.len(h:nh l part i acc):acc.length<=l.length+part.length:=bH h.1 h.2.1
end
def rQ(g:Nat):List Nat->Nat->Nat->Prop
 |[],_,_=>True
 |p::r,lo,n=>lo<=p/\p+g<=n/\rQ g r (p+g) n
theorem sB(part:List aP)(hp:0<part.length):∀(f:Nat)(l:List aP)(i:Nat),rQ part.length (vi part f l i) i l.length
 |0,l,i=>by rw[vi];trivial
 | f+1,l,i=>by
  rw[vi];have key:∀(m:List Nat)(a b n:Nat),a<=b->rQ part.length m b n->rQ part.length m a n:=by
   intro m;cases m with
   |nil=>intro _ _ _ _ _;trivial
   |cons p r=>intro a b n h ⟨h1,h2,h3⟩;exact⟨bH h h1,h2,h3⟩
  cases hb:Nat.ble (i+part.length) l.length with
  |false=>trivial
  |true=>
   rw[bY]at hb;have hb:=of_decide_eq_true hb;simp only[cond_true];cases dU dP ((l.drop i).take part.length) part with
   |true=>exact⟨af _,hb,sB part hp f l _⟩
   |false=>exact key _ _ _ _ (np i) (sB part hp f l (i+1))
theorem Cn(l part:List aP):rQ part.length (uQ l part) 0 l.length:=by
 unfold uQ;cases part with
 |nil=>trivial
 |cons x r=>exact sB (x::r) (yb _) _ l 0
def oI(g:Nat)(l:List Nat)(n:Nat):Prop:=∀i,i<l.length->gD l i+g<=n/\∀j,j<i->gD l j+g<=gD l i
theorem BZ{g n:Nat}:∀{l:List Nat}{lo:Nat},rQ g l lo n->oI g l n
 |[],_,_=>fun i hi=>absurd hi (qZ _)
 | p::r,lo,⟨h1,h2,h3⟩=>by
  have low:∀(m:List Nat)(a:Nat),rQ g m a n->∀i,i<m.length->a<=gD m i:=by
   intro m;induction m with
   |nil=>simp_all
   |cons q m ih=>
    intro a ⟨k1,k2,k3⟩ i hi;cases i with
    |zero=>exact k1
    |succ i=>have:=ih _ k3 i (by simp_all);grind[gD]
  intro i hi;cases i with
  |zero=>exact⟨h2,fun j hj=>absurd hj (qZ _)⟩
  |succ i=>
   have hi':i<r.length:=by simp_all
   obtain⟨k1,k2⟩:=BZ h3 i hi';refine⟨k1,fun j hj=>?_⟩;cases j with
   |zero=>exact low r _ h3 i hi'
   |succ j=>exact k2 j (by omega)
def gQ(at_ g:Nat)(m l:List PWord):List PWord:=l.take at_++m++l.drop (at_+g)
def tu(a b:Int)(g:Nat)(ps:List Nat)(fresh:List aP):Nat->List PWord->List PWord
 |0,l=>l
 |i+1,l=>tu a b g ps fresh i (gQ (gD ps i) g (cA a b fresh (i*fresh.length)) l)
theorem Nq{at_ g:Nat}{m l:List PWord}(h:at_+g<=l.length):(gQ at_ g m l).length+g=l.length+m.length:=by grind[gQ]
structure PutI(a b:Int)(g:Nat)(ps:List Nat)(fresh:List aP)(w:List PWord)(i:Nat)(l:List PWord):Prop where
 le:i<=ps.length
 all:tu a b g ps fresh ps.length w=tu a b g ps fresh i l
 room:∀j,j<i->gD ps j+g<=l.length
 small:l.length<=w.length+(ps.length-i)*fresh.length
theorem PutI.start{a b:Int}{g:Nat}{ps:List Nat}{fresh:List aP}{w:List PWord}(h:oI g ps w.length):PutI a b g ps fresh w ps.length w:=⟨af _,rfl,fun j hj=>(h j hj).1,by omega⟩
theorem PutI.step{a b:Int}{g:Nat}{ps:List Nat}{fresh:List aP}{w l:List PWord}{i:Nat}(hg:oI g ps w.length)(h:PutI a b g ps fresh w (i+1) l):PutI a b g ps fresh w i (gQ (gD ps i) g (cA a b fresh (i*fresh.length)) l):=by
 have hr:=h.room i (Nat.lt_succ_self i);have hl:=Nq (m:=cA a b fresh (i*fresh.length)) hr;rw[fS]at hl;have hle:=h.le;refine⟨by omega,h.all,fun j hj=>?_,?_⟩
 ·have:=(hg i (by omega)).2 j hj;grind
 ·have hs:=h.small;have e:(ps.length-i)*fresh.length=(ps.length-(i+1))*fresh.length+fresh.length:=by rw[show ps.length-i=(ps.length-(i+1))+1 by omega,qK]
  omega
theorem PutI.done{a b:Int}{g:Nat}{ps:List Nat}{fresh:List aP}{w l:List PWord}(h:PutI a b g ps fresh w 0 l):tu a b g ps fresh ps.length w=l:=h.all
theorem PutI.len{a b:Int}{g:Nat}{ps:List Nat}{fresh:List aP}{w l:List PWord}{i:Nat}(h:PutI a b g ps fresh w i l)(h1:w.length<=2^18)(h2:ps.length<=2^9)(h3:fresh.length<=2^9):l.length<=2^19:=by
 have:=h.small;have:(ps.length-i)*fresh.length<=2^9*2^9:=Nat.mul_le_mul (by omega) h3;omega
section
variable{sz b id n n' k l h m:Nat}{H:AHeap}{xs ys zs:List AV}{t:Bool}{x z:AV}{vl:Option AV}
theorem IC(hh:pv sz xs=true)(h1:i9 0 vl=some l)(h2:fG x=some h)(h3:fG z=some h)(q1:l<=h)(q2:h<=xs.length)(e:(xs.take h).drop l=ys):bj H (dY sz H (some (.ps xs t)) vl (some x) (some z))=some (.val (.ps ys true) H):=by simp_all[tV,dY,f9,uA,bj]
theorem Ph(hh:pv sz xs=true)(h1:fG x=some l)(q1:l<=xs.length)(e:xs.drop l=ys):bj H (dY sz H (some (.ps xs false)) (some x) none none)=some (.val (.ps ys false) H):=by
 have p2:Nat.ble l xs.length=true:=tV q1;have p3:Nat.ble xs.length xs.length=true:=tV (af _);simp only[dY,f9,hh,i9,h1,uA,p2,p3,yg,List.take_length,e,Bool.false_and,bj]
theorem Ze(hf:dr sz xs=true)(hf2:dr sz ys=true)(hne:ys≠[])(hs:small (xs.length+ys.length) b=true)(e:xs++ys=zs)(e2:zs.length=n):fK (da sz b H (some (.ps xs true)) (some (.ls ys)))=some (.val (.slice H.n 0 0 n none) (H.push (.row sz true 0 zs))):=by
 cases ys with
 |nil=>simp_all
 |cons y r=>simp_all[da,gk,kp,ke,gO,iz,fK]
theorem Se(e:ys=[]):fK (da sz b H (some (.ps xs true)) (some (.ls ys)))=some (.val (.ps xs true) H):=by subst e;rfl
def tj:List AV->Nat
 |[]=>0
 |_::_=>1
theorem Vk(hg:H.get id=some (.row sz true 0 xs))(hp:H.put id (.row sz true 0 xs)=H)(hf:dr sz ys=true)(hl:xs.length=n)(hs:small (n+ys.length) b=true)(e:xs++ys=zs)(e2:zs.length=n'):
  fK (da sz b H (some (.slice id 0 0 n none)) (some (.ps ys t)))=some (.val (.slice id (tj ys) 0 n' none) (H.put id (.row sz true (tj ys) zs))):=by
 cases ys with
 |nil=>
  rw[ej]at e;subst e;simp only[tj,hp,<-e2,hl];rfl
 |cons y r=>
  have p1:Nat.beq 0 0=true:=rfl;have p2:Nat.beq sz sz=true:=qQ sz;have p4:xs.take n=xs:=tW (by omega);have p5:n+(y::r).length=n':=by grind
  have p3:Nat.ble n' xs.length=false:=by grind[bY]
  rw[p5]at hs;simp only[da,gk,kp,ke,gO,hf,hg,p1,p2,hs,yg,p3,p4,e,p5,tj,fK,f8]
theorem Sd(hf:dr sz xs=true)(hf2:dr sz ys=true)(hne:ys≠[])(hs:small (xs.length+ys.length) b=true)(e:xs++ys=zs)(e2:zs.length=n):fK (da sz b H (some (.ps xs true)) (some (.ps ys t)))=some (.val (.slice H.n 0 0 n none) (H.push (.row sz true 0 zs))):=by
 cases ys with
 |nil=>simp_all
 |cons y r=>simp_all[da,gk,kp,ke,gO,iz,fK]
end
def n5(l:List Nat)(n:Int):List Nat:=bif ab n 0 then l else bif au (Int.ofNat l.length) n then[]else(l.take n.toNat).drop (n.toNat-1)
theorem Uo{l:List Nat}{a b i:Nat}(h:i<((l.take b).drop a).length):gD ((l.take b).drop a) i=gD l (a+i):=by grind[gD]
theorem NM{g n a b:Nat}{l:List Nat}(h:oI g l n):oI g ((l.take b).drop a) n:=by
 intro i hi;have hl:((l.take b).drop a).length<=l.length-a:=by grind
 obtain⟨h1,h2⟩:=h (a+i) (by omega);grind[Uo]
theorem G5{g n:Nat}{l:List Nat}{k:Int}(h:oI g l n):oI g (n5 l k) n:=by
 unfold n5;cases ab k 0 with
 |true=>grind
 |false=>
  cases au (Int.ofNat l.length) k with
  |true=>exact fun i hi=>absurd hi (qZ _)
  |false=>exact NM h
theorem Gz(l:List Nat)(k:Int):(n5 l k).length<=l.length:=by
 unfold n5;grind
theorem Dy{g n:Nat}(hg:0<g):∀{l:List Nat}{lo:Nat},rQ g l lo n->lo<=n->l.length+lo<=n
 |[],lo,_,h=>by simp_all
 |p::r,lo,⟨h1,h2,h3⟩,_=>by have:=Dy hg h3 h2;grind
theorem LY(l part:List aP):(uQ l part).length<=l.length:=by
 cases part with
 |nil=>exact bE _
 |cons x r=>have:=Dy (yb _) (Cn l (x::r)) (bE _);omega
theorem Gq(l part:List aP):oI part.length (uQ l part) l.length:=BZ (Cn l part)
def xt(c i:Nat)(l:List Nat):List Nat:=(l.take i).map (· +c)++l.drop i
theorem SA(c i:Nat)(l:List Nat):(xt c i l).length=l.length:=by grind[xt]
theorem Vg{c i:Nat}{l:List Nat}(h:i<l.length):gD (xt c i l) i=gD l i:=by
 unfold xt gD List.getD;grind
theorem Ol{c i:Nat}{l:List Nat}(h:i<l.length):(xt c i l).set i (gD l i+c)=xt c (i+1) l:=by
 unfold xt;have h1:((l.take i).map (· +c)).length=i:=by grind
 rw[List.set_append_right _ _ (by omega),h1,Nat.sub_self,OP h,List.set_cons_zero,OR h,pA];grind[gD]
theorem Oi{c n:Nat}{l m:List Nat}(h:l.length=n):(xt c n (l++m)).take n=l.map (· +c):=by grind[xt]
theorem Jd{c i:Nat}{l:List Nat}(h:i<l.length):gD (l.map (· +c)) i=gD l i+c:=by grind[gD]
theorem RW{c n:Nat}{l:List Nat}(h:oI c l n):oI 0 (l.map (· +c)) n:=by
 intro i hi;rw[cX]at hi;obtain⟨h1,h2⟩:=h i hi;grind[Jd]
def vc(l:List PWord):List PWord:=bif au 256 (Int.ofNat l.length)then[]else l
def zq(l:List PWord):Int:=bif au 256 (Int.ofNat l.length)then 6 else 0
def xn(a b:Int)(g:Nat)(ps:List Nat)(fresh:List aP)(w:List PWord):List PWord×Int:=(vc (tu a b g ps fresh ps.length w),zq (tu a b g ps fresh ps.length w))
def F4(a b:Int)(w:List PWord)(old new:List aP)(n:Int):List PWord×Int:=bif ab (Int.ofNat old.length) 0 then([],1)else bif ab (Int.ofNat (n5 (uQ (bP w) old) n).length) 0 then([],4)else xn a b old.length (n5 (uQ (bP w) old) n) new w
def EK(a b:Int)(w:List PWord)(part new:List aP)(n:Int):List PWord×Int:=
 bif ab (Int.ofNat new.length) 0||(ab (Int.ofNat part.length) 0&&aj (ab n 0))then([],1)
 else bif ab (Int.ofNat part.length) 0 then xn a b 0 [0] new w
 else bif ab (Int.ofNat (n5 (uQ (bP w) part) n).length) 0 then([],4)else xn a b 0 ((n5 (uQ (bP w) part) n).map (· +part.length)) new w
def kN(x k:TUnit):Bool:=ab k.kind x.kind&&dP k.label x.label
def yF(p x:TUnit):Int:=bif jV p.kind x.kind then(bif p.kids.any (kN x)then 10 else 0)else 9
def RS(u:TUnit)(p:PId)(x:TUnit):Bool:=au 8 (Int.ofNat ((mg p u).length+1+nJ x))
abbrev oG:=TUnit×Int
def NG(u:TUnit)(te:Int)(full cf:Bool)(u2:TUnit):oG:=bif ab te 0 then(bif full then(u,6)else bif cf then(u,5)else(u2,0))else(u,te)
def Fq(u:TUnit)(e:Int)(u2:TUnit):oG:=bif ab e 0 then(u2,0)else(u,e)
def Tf(u:TUnit)(te:Int)(u2:TUnit):oG:=bif ab te 10 then(u,10)else(u2,0)
def Qb(u:TUnit)(te:Int)(full:Bool)(u2:TUnit):oG:=bif ab te 0 then(bif full then(u,6)else(u2,0))else(u,te)
def Hu(e1 e2:Int)(sp:PSpot)(e3:Int):PSpot×Int:=bif ab e1 0 then(bif ab e2 0 then(bif ab e3 0 then(sp,0)else(dF,e3))else(dF,e2))else(dF,e1)
noncomputable def eC(r:oG):AV:=.tuple [eU r.1,.int .i64 r.2]
theorem jK{p:PId}{u:TUnit}(h:bp p u=true):bT p u∈bU u/\aI (bT p u)=p:=by grind[PW,SP,C1]
theorem rb(l m:List TUnit):gS (l++m)=gS l++gS m:=by
 induction l with
 |nil=>rw[ra];rfl
 |cons k r ih=>grind[fm]
theorem qA(u:TUnit)(l:List TUnit):cH (jr u l)=aI u::gS l:=by rw[me];rfl
theorem kY(u:TUnit):nU u=(cH u).length:=(ub u).symm
theorem wm(u:TUnit)(l:List TUnit):bU (jr u l)=jr u l::dZ l:=by rw[ch];rfl
theorem sj{q:PId}:∀(u:TUnit),bp q u=true->∃v C,v∈bU u/\aI v=q/\(cH u).Perm (C++cH v)/\∀f,(cH (cW q f u)).Perm (C++cH (f v))/\
  ∀x,x∈bU (cW q f u)->x∈bU (f v)\/∃y,y∈bU u/\aI x=aI y/\x.kids.length=y.kids.length/\x.head=y.head/\x.words=y.words:=TUnit.ind fun u ih h=>by
 cases hi:fD q u with
 |true=>
  refine⟨u,[],cS u,(fh q u).1 hi,List.Perm.refl _,fun f=>?_⟩;grind[rZ]
 | false=>
  have key:∀(r:List TUnit),(∀k,k∈r->k∈u.kids)->b9 q r≠[]->∃v C,v∈dZ r/\aI v=q/\(gS r).Perm (C++cH v)/\∀f,(gS (eZ q f r)).Perm (C++cH (f v))/\(eZ q f r).length=r.length/\
    ∀x,x∈dZ (eZ q f r)->x∈bU (f v)\/∃y,y∈dZ r/\aI x=aI y/\x.kids.length=y.kids.length/\x.head=y.head/\x.words=y.words:=by
   intro r;induction r with
   |nil=>grind[jG]
   | cons k r ihr=>
    intro hm hw;cases hk:bp q k with
    | true=>
     obtain⟨v,C,h1,h2,h3,h4⟩:=ih k (hm k (eF ..)) hk;refine⟨v,C++gS r,by grind[bw],h2,?_,fun f=>?_⟩
     ·grind[fm]
     ·have e:eZ q f (k::r)=cW q f k::r:=by rw[gr,hk];rfl
      rw[e];refine⟨?_,rfl,fun x hx=>?_⟩
      ·grind[fm]
      ·rw[bw]at hx;rcases iy.1 hx with hx|hx
       ·grind[bw]
       ·exact .inr ⟨x,by grind[bw],rfl,rfl,rfl,rfl⟩
    |false=>
     rw[gv hk]at hw;obtain⟨v,C,h1,h2,h3,h4⟩:=ihr (fun x hx=>hm x (eG _ hx)) hw;refine⟨v,cH k++C,by grind[bw],h2,by grind[fm],fun f=>?_⟩;have e:eZ q f (k::r)=k::eZ q f r:=by rw[gr,hk];rfl
     rw[e];refine⟨by grind[fm],by simp_all,fun x hx=>?_⟩;rw[bw]at hx;rcases iy.1 hx with hx|hx
     ·exact .inr ⟨x,by grind[bw],rfl,rfl,rfl,rfl⟩
     grind[bw]
  have hw:b9 q u.kids≠[]:=by
   intro e;have:=jg h;rw[ft,hi,e]at this;simp_all
  obtain⟨v,C,h1,h2,h3,h4⟩:=key u.kids (fun _ h=>h) hw;refine⟨v,aI u::C,by grind[ch],h2,by grind[me],fun f=>?_⟩;rw[mD hi];refine⟨by grind[qA],fun x hx=>?_⟩;rw[wm]at hx;rcases eu.1 hx with rfl|hx
  ·exact .inr ⟨u,cS u,rfl,(h4 f).2.1,rfl,rfl⟩
  grind[ch]
theorem rU{p:PId}:∀(u:TUnit),jU p u=true->∃q i,q∈bU u/\rE p u=aI q/\qg p u=Int.ofNat i/\i<q.kids.length/\aI (gD q.kids i)=p:=TUnit.ind fun u ih h=>by
 have hh:bp p u=true:=by
  cases e:bp p u with
  |true=>rfl
  |false=>grind[Q4]
 cases hi:fD p u with
 |true=>
  unfold jU at h;rw[tU hi]at h;cases h
 | false=>
  have key:∀(r:List TUnit),b9 p r≠[]->∃j k,j<r.length/\gD r j=k/\bp p k=true/\b9 p r=aC p k/\∀n,dn (bp p) r n=Int.ofNat (n+j):=by
   intro r;induction r with
   |nil=>grind[jG]
   | cons k r ihr=>
    intro hw;cases hk:bp p k with
    |true=>
     refine⟨0,k,yb _,rfl,hk,mE hk,fun n=>?_⟩;unfold dn;simp_all
    | false=>
     rw[gv hk]at hw;obtain⟨j,k2,h1,h2,h3,h4,h5⟩:=ihr hw;refine⟨j+1,k2,by simp_all,h2,h3,by grind[gv],fun n=>?_⟩;have e:dn (bp p) (k::r) n=dn (bp p) r (n+1):=by
      show(bif bp p k then _ else _)=_
      simp_all
     grind
  have hw:b9 p u.kids≠[]:=by
   intro e;have:=jg hh;rw[ft,hi,e]at this;simp_all
  obtain⟨j,k,h1,h2,h3,h4,h5⟩:=key u.kids hw;obtain⟨y,t,e⟩:=vG h3;have hway:aC p u=u::aC p k:=by rw[ft,hi,h4,e];rfl
  have hkm:k∈u.kids:=h2▸gY h1;rw[I4 h,I5 h];cases hk:jU p k with
  | true=>
   obtain⟨q,i,q1,q2,q3,q4,q5⟩:=ih k hkm hk;rw[I4 hk]at q2;rw[I5 hk]at q3;have e2:Ie p u=Ie p k:=by
    unfold Ie;rw[hway];have:2<=(aC p k).length:=by
     unfold jU at hk;cases hl:au (Int.ofNat (aC p k).length) 2 with
     |true=>grind
     |false=>have:=aB hl;grind
    show gD (u::aC p k) ((aC p k).length+1-2)=_
    rw[show(aC p k).length+1-2=((aC p k).length -2)+1 by omega];rfl
   grind[bv]
  | false=>
   have hl:(aC p k).length=1:=by
    unfold jU at hk;cases hl:au (Int.ofNat (aC p k).length) 2 with
    |false=>grind
    |true=>have:=ap hl;grind
   have hik:fD p k=true:=by
    cases hik:fD p k with
    |true=>rfl
    |false=>
     rw[ft,hik]at hl e;grind
   have e2:Ie p u=u:=by
    unfold Ie;rw[hway];show gD (u::aC p k) ((aC p k).length+1-2)=_
    rw[hl];rfl
   rw[e2,h5 0,f8];exact⟨u,j,cS u,rfl,rfl,h1,by grind[fh]⟩
theorem Ul{p:PId}{u:TUnit}(h:bp p u=true)(hi:fD p u=false):jU p u=true:=by
 have hw:aC p u≠[]:=jg h;have e:aC p u=match b9 p u.kids with|[]=>[]|y::t=>u::y::t:=by rw[ft,hi];rfl
 unfold jU;rw[e]at hw ⊢;cases ew:b9 p u.kids with
 |nil=>simp_all
 |cons y t=>
  show aj (au (Int.ofNat (u::y::t).length) 2)=true
  rw[kq (by grind)];rfl
theorem Uf{v:TUnit}{i:Nat}(h:i<v.kids.length):(cH v).Perm (cH (dR i v)++cH (gD v.kids i)):=by
 unfold dR;rw[me v,qA,ON,rb];have e:v.kids=v.kids.take i++(gD v.kids i::v.kids.drop (i+1)):=by grind[gD,List.drop_eq_getElem_cons,List.take_append_drop]
 grind[rb,fm]
theorem Ue{v x:TUnit}{i:Nat}:(cH (dV i x v)).Perm (cH v++cH x):=by
 unfold dV uv;rw[me v,qA,rb,fm,yl];grind[List.take_append_drop,rb]
section
variable{P:Program}{G:eh}{call:cZ}{m:Nat}{c:Code}{d:D}{s s':St}{ops:Array Oper}{h h':AHeap}{o:AObj}{f:FuncId}{args:List AV}{v u:AV}{pl pl':Pl}{M M':dg}{w w':World}
theorem ce.psh(g2:ce pl M h w):ce pl M (h.push o) w:=
 ⟨fun id p hp=>Nat.lt_succ_of_lt (g2.dom id p hp),(fun id p o' hp hg=>by
  rcases dJ hg with⟨rfl,_⟩|⟨_,h2⟩
  ·exact absurd (g2.dom _ p hp) (wU _)
  ·exact g2.obj id p o' hp h2),g2.blk,g2.inj,g2.imm,g2.sep⟩
theorem cN.psh(g2:ce pl M h w)(g4:cN h pl M w h' pl' M' w')(g2':ce pl' M' h' w'):cN h pl M w (h'.push o) pl' M' w':=
 ⟨g4.ext,g4.new,g4.mem,g4.size,g4.kept,g4.blks,(fun id p hp hg=>by
  have:=g4.live id p hp hg;cases hh:(h'.push o).get id with
  |none=>rfl
  |some o'=>
   rcases dJ hh with⟨rfl,_⟩|⟨_,h2⟩
   ·obtain⟨p',e1,_⟩:=g4.ext _ p hp;exact absurd (g2'.dom _ p' e1) (wU _)
   simp_all),g4.stay,g4.memNew,g4.os,g4.tape,g4.out,g4.drawn⟩
theorem aF.psh(h0:aF P G f args h (fun v1 h1=>v1=v/\h1=h'))(hl:Le u v):aF P G f args h (fun v1 h1=>v1=u/\h1=h'.push o):=by
 intro pl M w vs hg hr hv;have key:∀{cv w'},g0 pl M h w v h' cv w'->g0 pl M h w u (h'.push o) cv w':=fun⟨pl',M',k1,k2,k3,k4⟩=>⟨pl',M',hl _ _ _ k1,ce.psh k2,cN.psh hr k3 k2,Nat.le_succ_of_le k4⟩
 rcases h0 pl M w vs hg hr hv with⟨h1,h2⟩|⟨cv,w',v',h'',h1,⟨rfl,rfl⟩,h3⟩
 ·exact .inl ⟨h1,Calls.mono h2 fun e w' ⟨cv,v',h'',k1,⟨k2,k2'⟩,k3⟩=>⟨cv,u,h'.push o,k1,⟨rfl,rfl⟩,by simp_all⟩⟩
 ·exact .inr ⟨cv,w',u,_,h1,⟨rfl,rfl⟩,key h3⟩
theorem J7{Ψ Ψ':AV->AHeap->Prop}(o:AObj)(h0:aF P G f args h Ψ)(hΨ:∀v h',Ψ v h'->∃u,Le u v/\Ψ' u (h'.push o)):aF P G f args h Ψ':=by
 intro pl M w vs hg hr hv;have key:∀{v u h' cv w'},Le u v->g0 pl M h w v h' cv w'->g0 pl M h w u (h'.push o) cv w':=fun hl ⟨pl',M',k1,k2,k3,k4⟩=>⟨pl',M',hl _ _ _ k1,ce.psh k2,cN.psh hr k3 k2,Nat.le_succ_of_le k4⟩
 rcases h0 pl M w vs hg hr hv with⟨h1,h2⟩|⟨cv,w',v',h'',h1,h2,h3⟩
 ·refine .inl ⟨h1,Calls.mono h2 fun e w' ⟨cv,v',h'',k1,k2,k3⟩=>?_⟩;grind
 ·obtain⟨u,q1,q2⟩:=hΨ _ _ h2;exact .inr ⟨cv,w',u,_,h1,q2,key q1 h3⟩
theorem PB(pl:Pl)(M:dg)(p:Place)(x:Option Obj):bc pl M p .dead x:=by cases x<;>trivial
theorem aF.dead{i:Nat}{Ψ Ψ':AV->AHeap->Prop}(h0:aF P G f args h Ψ)(hi:h.n<=i)(hm:i<1000000)(hΨ:∀v h',Ψ v h'->Ψ' v (h'.put i .dead)):aF P G f args h Ψ':=by
 intro pl M w vs hg hr hv;have key:∀{v h' cv w'},g0 pl M h w v h' cv w'->g0 pl M h w v (h'.put i .dead) cv w':=fun⟨pl',M',k1,k2,k3,k4⟩=>⟨pl',M',k1,⟨k2.dom,(fun id p o hp hg=>by
  rcases AHeap.get_put hm hg with⟨_,rfl⟩|⟨_,h2⟩
  ·grind[PB]
  ·exact k2.obj id p o hp h2),k2.blk,k2.inj,k2.imm,k2.sep⟩,⟨k3.ext,k3.new,k3.mem,k3.size,k3.kept,k3.blks,(fun id p hp hg=>by
   have hl:=hr.dom id p hp;have hn:=k3.live id p hp hg;cases hh:AHeap.get (AHeap.put _ i .dead) id with
   |none=>rfl
   |some o'=>grind[AHeap.get_put]),k3.stay,k3.memNew,k3.os,k3.tape,k3.out,k3.drawn⟩,k4⟩
 rcases h0 pl M w vs hg hr hv with⟨h1,h2⟩|⟨cv,w',v',h'',h1,h2,h3⟩
 ·exact .inl ⟨h1,Calls.mono h2 fun e w' ⟨cv,v',h'',k1,k2,k3⟩=>⟨cv,v',h''.put i .dead,k1,hΨ _ _ k2,key k3⟩⟩
 ·exact .inr ⟨cv,w',v',_,h1,hΨ _ _ h2,key h3⟩
end
section
variable{P:Program}{G:eh}{ops:Array Oper}{o:Oper}{l:List Oper}{s:St}{b:Option Nat}
theorem xa{t tx e:TypeId}{i:TypeInfo}{sz bt:Nat}(hsz:i.size=sz)(hbt:i.bytes=bt){z z0:AV}{sO xO:Operand}{dst:Option Tmp}{ty:TypeId}{pos:String}{after:Array Edge}{guard:Option (Nat×Bool)}{xs:List AV}
  (ht:P.underlying t=some (.slice e))(hk:∃e',P.underlying tx=some (.slice e'))(hi:P.info? e=some i)(hz:iU P e=some z0)(hzl:Le z z0)
  (hs:(cK G sO).run s.tmps=some (.ps [] true))(hx:(cK G xO).run s.tmps=some (.ls xs))(hne:xs≠[])(hfit:dr sz xs=true)(hzf:dr sz [z]=true)(hsm:small xs.length bt=true)(hs0:0<sz)
  (pl:Pl)(M:dg)(a:Act)(w:World)(g1:pu G pl M)(g2:ce pl M s.heap w)(g3:FrRel pl M s.tmps a):
  ∃(k:Nat)(pl':Pl)(M':dg)(cv:Value)(w':World),k=0/\(execOp a.eval ⟨dst,.call ⟨.builtin .append,#[sO,xO],#[t,tx]⟩,ty,pos,after,guard⟩).run P w=.ok (.value cv) w'/\
   VRel pl' M' (.slice s.heap.n 0 0 xs.length none) cv/\ce pl' M' (s.heap.push (.row sz true 0 xs)) w'/\cN s.heap pl M w (s.heap.push (.row sz true 0 xs)) pl' M' w'/\s.heap.n<=(s.heap.push (.row sz true 0 xs)).n:=by
 subst hsz;subst hbt;have hsr:=aR g1 g3 hs;have hxr:=aR g1 g3 hx;obtain⟨news,hsrc⟩:=yS (P:=P) g2 hxr (show kp s.heap (.ls xs)=some xs from rfl) hne hfit;obtain⟨i2,zv,hz1,hz2,hz3⟩:=mC hz;rw[hi]at hz1;cases hz1
 obtain⟨b1,b2⟩:=jl hsm;have hpos:0<xs.length:=qW.2 hne;generalize hq:a.eval sO=cs at hsr;generalize hq2:a.eval xO=cx at hxr hsrc;cases hsr with
 | ps hl htt hm hs2 hc=>
  rename_i ad cap sz c;have hcap:cap=0:=htt rfl;subst hcap;have hzr:=hzl _ _ _ (dz (pl:=pl) (M:=M) hz3);have hzt:=mf hzf z (by simp);have hzsz:zv.cells.size=i.size:=by rw[<-hzr.cells.len];omega
  have hrun:=run_append_grow_src (P:=P) w t tx ty e i zv ht hi hz2 (some ad) 0 0 [] (by simp[Builtin.firstCells,loadCells,loadCellsFrom]) cx xs.length news (hsrc.src (.inl hk)) (by omega) (by omega) (growslice_fits (by omega) (by grind));have hge:=grownCap_ge w (0+xs.length) 0 e;obtain⟨C,hC⟩:∃C,C=grownCap w (0+xs.length) 0 e:=⟨_,rfl⟩
  rw[<-hC]at hrun hge;have hin:=eS hzr hzt.2 (C-(0+xs.length)) hzt.1 hs0;have hzl:(Builtin.zeroCells zv.cells (C-(0+xs.length))).toList.toArray=(Array.range ((C-(0+xs.length))*i.size)).map (zv.cells[· %zv.cells.size]!):=by grind[Builtin.zeroCells]
  have hnl:(Builtin.zeroCells zv.cells (C-(0+xs.length))).toList.length=(List.replicate (C-(0+xs.length)) z).length *i.size:=by grind[Builtin.zeroCells]
  have hin2:=kx (news:=(Builtin.zeroCells zv.cells (C-(0+xs.length))).toList) hsrc.mem (by grind) hsrc.newsLen hnl #[];have hce:(news++(Builtin.zeroCells zv.cells (C-(0+xs.length))).toList).toArray++#[]=([]++news).toArray++Builtin.zeroCells zv.cells (C-(0+xs.length)):=by grind
  rw[hce]at hin2;have hcs:(([]++news).toArray++Builtin.zeroCells zv.cells (C-(0+xs.length))).size=(xs++List.replicate (C-(0+xs.length)) z).length *i.size:=by simp only[yf,FK,BR,hsrc.newsLen,size_zeroCells,hzsz,dT,qX,jF]
  obtain⟨cells,hcells⟩:∃cells,cells=([]++news).toArray++Builtin.zeroCells zv.cells (C-(0+xs.length)):=⟨_,rfl⟩
  rw[<-hcells]at hrun hin2 hcs;have hxC:xs.length<=C:=by omega
  have hszc:cells.size=C*i.size:=by grind
  have hin3:InMem pl M cells 0 i.size xs:=⟨by rw[f8,hszc];exact ef _ hxC,fun x hx=>hin2.elem x (FQ _ hx),fun i x j y h1 h2=>hin2.cell i x j y (by grind) h2⟩
  let p:Place:=⟨w.heap.size,0,i.size,xs.length,C*i.size⟩
  have hwd:(w.drew.alloc (.cells cells e)).heap=w.heap.push (.cells cells e):=rfl;obtain⟨r1,r2⟩:=ce.alloc (o:=.row i.size true 0 xs) (p:=p) g2 hwd ⟨rfl,rfl,rfl,np _⟩ rfl
   ⟨rfl,rfl,rfl,hszc.symm,rfl,hs0,fun h=>(by grind),hin3.mono (fun id q hq=>⟨q,by rw[c8 (by have:=g2.dom id q hq;omega)];omega,af _,fun _=>rfl⟩) (fun _ _ h=>h)⟩
  refine⟨0,upd pl s.heap.n p,M,.slice (some ⟨w.heap.size,0,none⟩) (0+xs.length) C,w.drew.alloc (.cells cells e),rfl,?_,?_,r1,r2,np _⟩
  ·simp only[execOp,resolve,invoke,builtin,Sem.run_bind,Sem.run_pure,Result.andThen_ok,List.map_toArray,eb,wK,hq,hq2];show(Sem.run P (Builtin.append_ #[t,tx] ty #[Value.slice (some ad) 0 0,cx]) w).andThen _=_
   rw[hrun];rfl
  ·rw[f8]at hge ⊢;refine .slice (dI _ _ _) (af _) hge (fun k hk=>by grind) (fun _=>⟨.inr (by grind),by grind,by grind,(fun _=>by grind),(fun k hk=>by grind)⟩)
end
theorem iP{s u:List UInt8}{H:AHeap}(h:s.length+u.length<=2^62):bj H (Vf (.str s) (.str u))=some (.val (.str (s++u)) H):=by grind[Nat.ble_eq_true_of_le,Vf,bj]
def N8(s:aP):aP:=bif ab (.ofNat (gD s 0).toNat) 124 then[92]else bif ab (.ofNat (gD s 0).toNat) 92 then[92]else[]
def BA(s:aP)(w:PWord):aP:=s++[32]++N8 w.text++w.text
def mY(s:aP)(l:List PWord):aP:=l.foldl BA s
theorem oD(s:aP)(w:PWord)(r:List PWord):mY s (w::r)=mY (BA s w) r:=rfl
theorem ER{x:aP}{w:PWord}(h1:ab (.ofNat (gD w.text 0).toNat) 124=true):BA x w=x++[32]++[92]++w.text:=by grind[BA,N8]
theorem EP{x:aP}{w:PWord}(h1:ab (.ofNat (gD w.text 0).toNat) 124=false)(h2:ab (.ofNat (gD w.text 0).toNat) 92=true):BA x w=x++[32]++[92]++w.text:=by grind[BA,N8]
theorem EO{x:aP}{w:PWord}(h1:ab (.ofNat (gD w.text 0).toNat) 124=false)(h2:ab (.ofNat (gD w.text 0).toNat) 92=false):BA x w=x++[32]++w.text:=by grind[BA,N8]
theorem WM(d:Nat):au (.ofNat d) 0=false:=rfl
def ta(u:TUnit):TUnit:=⟨0,0,0,u.kind,u.label,u.head,u.words,[]⟩
def D9(u:TUnit)(d:Nat):Bool:=aj (au (.ofNat d) 0)&&(aj (au 8 (.ofNat d))&&kL (cR (ta u)))
def gZ(u:TUnit)(d:Nat):aP:=
 bif aj (D9 u d)then[]else
  let a:=Lib.repeatL [32,32] d++dQ u.kind
  let b:=bif aj (ab u.kind 0)then a++([32]++u.label)else a
  let c:=bif au 0 (.ofNat u.head.length)then mY (b++[58]) u.head else b
  bif au 0 (.ofNat u.words.length)then mY (c++[32,124]) u.words else c
mutual
def eX:Nat->TUnit->List aP
 |d,⟨a,i,n,k,l,h,w,ks⟩=>gZ ⟨a,i,n,k,l,h,w,ks⟩ d::dW (d+1) ks
def dW:Nat->List TUnit->List aP
 |_,[]=>[]
 |d,k::r=>eX d k++dW d r
end
theorem CD(d:Nat)(u:TUnit):eX d u=gZ u d::dW (d+1) u.kids:=by cases u;rw[eX];rfl
theorem wE(d:Nat):dW d []=[]:=by rw[dW]
theorem mb(d:Nat)(k:TUnit)(r:List TUnit):dW d (k::r)=eX d k++dW d r:=by rw[dW]
def xo(u:TUnit):aP×Int:=
 bif aj (kL (cR u))then([],1)else
  bif au 16384 (.ofNat (Lib.join (eX 0 u) [10]++[10]).length)then([],6)else(Lib.join (eX 0 u) [10]++[10],0)
theorem Rl(s:aP):(N8 s).length<=1:=by grind[N8]
theorem SB(s:aP)(w:PWord):(BA s w).length<=s.length+(w.text.length+2):=by grind[Rl,BA]
theorem u9{l:List PWord}(h:∀w,w∈l->w.text.length<=24)(s:aP):(mY s l).length<=s.length+26*l.length:=by
 induction l generalizing s with
 |nil=>exact af _
 |cons w r ih=>grind[SB,oD]
theorem AQ(k:Int):(dQ k).length<=16:=by
 unfold dQ;split<;>decide
theorem gd{a b:Int}(h:aj (au a b)=true):b<=a:=aB (by cases q:au a b<;>rw[q]at h<;>first|rfl|grind)
theorem Jz{s:aP}(h:kz s=true):s.length<=7:=by
 unfold kz at h;simp only[bq]at h;have h1:=gd h.2.1;have h2:=gd h.2.2.2.1;grind
theorem MC{s:aP}(h:rP s=true):1<=s.length/\s.length<=24:=by
 unfold rP at h;simp only[bq]at h;have h1:=gd h.1;have h2:=gd h.2.1;grind
theorem Iw{l:List PWord}(h:oO l=true):l.length<=256/\∀w,w∈l->1<=w.text.length/\w.text.length<=24:=by
 unfold oO qc at h;simp only[bq,mq]at h;have h1:=gd h.1;simp only[aL]at h1;exact⟨by omega,fun w hw=>MC (h.2.2 _ (iS.2 ⟨w,hw,rfl⟩))⟩
theorem Oe{u:TUnit}(h:mV u=true):u.label.length<=7/\(u.head.length<=256/\∀w,w∈u.head->1<=w.text.length/\w.text.length<=24)/\(u.words.length<=256/\∀w,w∈u.words->1<=w.text.length/\w.text.length<=24):=by
 unfold mV at h;simp only[bq]at h;have h:=h.1;cases hk:ab u.kind 0 with
 |true=>
  rw[hk]at h;simp only[cond_true,bq]at h;have h1:u.label=[]:=Ru h.1;have h2:=gd h.2;grind
 |false=>grind[Jz,Iw]
theorem Pp{q:TUnit->Bool}{u:TUnit}(h:wX q u=true):q u=true:=by grind[yk]
theorem Lw{u:TUnit}{d:Nat}(h:D9 u d=true):d<=8/\u.label.length<=7/\(u.head.length<=256/\∀w,w∈u.head->1<=w.text.length/\w.text.length<=24)/\(u.words.length<=256/\∀w,w∈u.words->1<=w.text.length/\w.text.length<=24):=by
 unfold D9 kL at h;simp only[bq]at h;have h1:=gd h.2.1;simp only[aL]at h1;have h2:=Oe (Pp h.2.2.1);rw[mh]at h2;obtain⟨e1,⟨e2,e3⟩,e4,e5⟩:=h2;refine⟨by omega,e1,⟨by grind[ta,TUnit.head],fun w hw=>?_⟩,⟨by grind[ta,TUnit.words],fun w hw=>?_⟩⟩
 ·exact e3 (gG w) (iS.2 ⟨w,hw,rfl⟩)
 ·exact e5 (gG w) (iS.2 ⟨w,hw,rfl⟩)
theorem EE{b:Bool}{x y:aP}{n:Nat}(h1:x.length<=n)(h2:y.length<=n):(bif b then x else y).length<=n:=by grind
theorem Qh(u:TUnit)(d:Nat):(gZ u d).length<=2^14:=by
 unfold gZ;cases h:D9 u d with
 |false=>simp_all
 |true=>
  obtain⟨h1,h2,⟨h3,h4⟩,h5,h6⟩:=Lw h;have k:=AQ u.kind;have r:=Lib.repeatL_length [32,32] d;simp only[cO,gp]at r;have ha:(Lib.repeatL [32,32] d++dQ u.kind).length<=32:=by grind
  have hh:∀w,w∈u.head->w.text.length<=24:=fun w hw=>(h4 w hw).2
  have hw:∀w,w∈u.words->w.text.length<=24:=fun w hw=>(h6 w hw).2
  simp only[aj,cond_false];have hb:∀x:aP,x.length<=32->(bif aj (ab u.kind 0)then x++([32]++u.label)else x).length<=40:=fun x hx=>EE (by grind) (by omega)
  have hc:∀x:aP,x.length<=40->(bif au 0 (.ofNat u.head.length)then mY (x++[58]) u.head else x).length<=6700:=fun x hx=>EE (by grind[u9]) (by omega)
  have hd:∀x:aP,x.length<=6700->(bif au 0 (.ofNat u.words.length)then mY (x++[32,124]) u.words else x).length<=2^14:=fun x hx=>EE (by have:=u9 hw (x++[32,124]);grind) (by omega)
  grind
mutual
theorem kS(d:Nat):∀u:TUnit,(eX d u).length=nU u
 |⟨a,i,n,k,l,h,w,ks⟩=>by rw[eX,cO,wG (d+1) ks,nU];omega
theorem wG(d:Nat):∀l:List TUnit,(dW d l).length=eQ l
 |[]=>by rw[dW,eQ];rfl
 |k::r=>by rw[dW,eQ,dT,kS d k,wG d r]
end
mutual
theorem zS(d:Nat):∀(u:TUnit)(s:aP),s∈eX d u->s.length<=2^14
 |⟨a,i,n,k,l,h,w,ks⟩,s,hs=>by
  rw[eX]at hs;rcases eu.1 hs with rfl|hs
  ·exact Qh _ _
  ·exact wF (d+1) ks s hs
theorem wF(d:Nat):∀(l:List TUnit)(s:aP),s∈dW d l->s.length<=2^14
 |[],s,hs=>by rw[dW]at hs;cases hs
 |k::r,s,hs=>by
  rw[dW]at hs;rcases iy.1 hs with hs|hs
  ·exact zS d k s hs
  ·exact wF d r s hs
end
theorem uq{sep:aP}{B:Nat}:∀{l:List aP},(∀s,s∈l->s.length<=B)->(Lib.joinTail sep l).length<=l.length*(sep.length+B)
 |[],_=>bE _
 |x::r,h=>by
  have h1:=h x eF;have h2:=uq (sep:=sep) (l:=r) fun s hs=>h s (eG _ hs)
  grind[Lib.joinTail,Nat.succ_mul]
theorem Qs{sep:aP}{B:Nat}{l:List aP}(h:∀s,s∈l->s.length<=B):(Lib.join l sep).length<=l.length*(sep.length+B):=by
 cases l with
 |nil=>exact bE _
 |cons x r=>
  have h1:=h x eF;have h2:=uq (sep:=sep) (l:=r) fun s hs=>h s (eG _ hs)
  grind[Lib.join_cons,Nat.succ_mul]
theorem wc:∀(l:List TUnit),(∀k,k∈l->nU (cR k)=nU k/\∀x,x∈bU (cR k)->∃y,y∈bU k/\x=cR y)->eQ (l.map cR)=eQ l/\∀x,x∈dZ (l.map cR)->∃y,y∈dZ l/\x=cR y
 |[],_=>⟨rfl,fun x hx=>by grind[eH]⟩
 |k::r,h=>by
  obtain⟨a1,a2⟩:=h k eF;obtain⟨b1,b2⟩:=wc r fun k hk=>h k (eG _ hk)
  grind[eQ,bw]
theorem M5:∀u:TUnit,nU (cR u)=nU u/\∀x,x∈bU (cR u)->∃y,y∈bU u/\x=cR y:=by
 refine TUnit.ind fun u ih=>?_
 obtain⟨h1,h2⟩:=wc u.kids ih;refine⟨?_,fun x hx=>?_⟩
 ·rw[jQ (cR u),jQ u,mh];exact congrArg (1+ ·) h1
 ·rw[ch,mh]at hx;rcases eu.1 hx with rfl|hx
  ·grind[ch,List.mem_cons_self,mh]
  ·obtain⟨y,h3,h4⟩:=h2 x hx;grind[ch]
structure OkB(u:TUnit):Prop where
 nd:(cH u).Nodup
 n:nU u<=1024
 w:∀x,x∈bU u->x.head.length<=300/\x.words.length<=300
theorem OkB.uni{u v x:TUnit}(h:OkB u)(hv:v∈bU u)(hx:x∈bU u)(e:aI v=aI x):v=x:=Cr h.nd hv hx e
theorem mW{u x:TUnit}(hx:x∈bU u):bp (aI x) u=true:=re u ⟨x,hx,rfl⟩
theorem jM:∀{l:List TUnit}{x:TUnit},x∈dZ l->∃k,k∈l/\x∈bU k
 |[],x,h=>by grind[eH]
 |k::r,x,h=>by
  rw[bw]at h;rcases iy.1 h with h|h
  ·simp_all
  ·obtain⟨k',h1,h2⟩:=jM h;grind
theorem vE:∀{l:List TUnit}{k x:TUnit},k∈l->x∈bU k->x∈dZ l
 |k::r,_,x,h,hx=>by
  rw[bw];rcases eu.1 h with rfl|h
  ·simp_all
  ·exact BE _ (vE h hx)
theorem CV{u:TUnit}:∀(p:List PStep)(l:List TUnit),(∀x,x∈l->x∈bU u)->∀x,x∈gy p l->x∈bU u
 |[],l,h,x,hx=>h x hx
 |s::r,l,h,x,hx=>by
  refine CV r _ (fun y hy=>?_) x hx;grind[dl,bv,cS]
theorem NN{u:TUnit}{p:List PStep}{x:TUnit}(h:x∈dO u p):x∈bU u:=by
 unfold dO at h;grind[cS,CV]
theorem nF{u:TUnit}{p:List PStep}(h:(ar u p).2=0):bp (ar u p).1 u=true:=by
 unfold ar at h ⊢;split at h
 ·omega
 ·rename_i x e;exact mW (NN (by rw[e];simp_all))
 omega
def E5(u:TUnit)(sp:PSpot):Prop:=∃n:Nat,sp.at_=Int.ofNat n/\n<=2^20/\∀v,v∈bU u->fD sp.id v=true->n<=v.kids.length
theorem PT{u:TUnit}(hu:OkB u){p:PId}(h:jU p u=true){n:Nat}(hn:n<=1):E5 u ⟨rE p u,qg p u+Int.ofNat n⟩:=by
 obtain⟨q,i,h1,h2,h3,h4,h5⟩:=rU u h;have hk:=bg q;have:=dA h1;have:=hu.n;refine⟨i+n,by simp_all,by omega,fun v hv hi=>?_⟩;have hi:fD (rE p u) v=true:=hi;rw[fh,h2]at hi;rw[hu.uni hv h1 hi];omega
theorem Gl{u:TUnit}(hu:OkB u){p:PId}(hp:bp p u=true){w:Int}(he:(cq w u p).2=0):E5 u (cq w u p).1:=by
 unfold cq at he ⊢;cases h0:ab w 0 with
 |true=>exact⟨0,rfl,bE _,fun v _ _=>bE _⟩
 | false=>
  rw[h0]at he;simp only[cond_false]at he ⊢;cases h1:ab w 1 with
  |true=>
   obtain⟨a,b⟩:=jK hp;have hk:=bg (bT p u);have:=dA a;have:=hu.n;refine⟨_,rfl,by omega,fun v hv hi=>?_⟩;rw[fh]at hi;rw[hu.uni hv a (hi.trans b.symm)];omega
  |false=>
   rw[h1]at he;simp only[cond_false]at he ⊢;have key:∀n:Nat,n<=1->(ki u p (Int.ofNat n)).2=0->E5 u (ki u p (Int.ofNat n)).1:=fun n hn he=>by grind[ki,PT]
   cases h2:ab w 2 with
   |true=>grind
   |false=>rw[h2]at he;exact key 0 (bE _) he
theorem OkB.with{u:TUnit}(hu:OkB u){q:PId}{f:TUnit->TUnit}
  (hf:∀v C,v∈bU u->aI v=q->(cH u).Perm (C++cH v)->(C++cH (f v)).Nodup/\(C++cH (f v)).length<=1024/\∀x,x∈bU (f v)->x.head.length<=300/\x.words.length<=300):OkB (cW q f u):=by
 cases hq:bp q u with
 |false=>grind[sy]
 |true=>
  obtain⟨v,C,h1,h2,h3,h4⟩:=sj u hq;obtain⟨h5,h6⟩:=h4 f;obtain⟨a,b,c⟩:=hf v C h1 h2 h3;refine⟨h5.nodup_iff.2 a,by rw[kY,h5.length_eq];omega,fun x hx=>?_⟩;grind[cases OkB]
theorem OkB.keep{u:TUnit}(hu:OkB u){q:PId}{f:TUnit->TUnit}(h1:∀v,aI (f v)=aI v/\(f v).kids=v.kids)(h2:∀v,v∈bU u->(f v).head.length<=300/\(f v).words.length<=300):OkB (cW q f u):=by
 refine hu.with fun v C hv hq hp=>?_
 have e:cH (f v)=cH v:=by grind[me]
 rw[e];refine⟨hp.nodup_iff.1 hu.nd,by rw[<-hp.length_eq,<-kY];exact hu.n,fun x hx=>?_⟩;rw[ch]at hx;rcases eu.1 hx with rfl|hx
 ·simp_all
 ·rw[(h1 v).2]at hx;obtain⟨k,k1,k2⟩:=jM hx;grind[dl,bv,cases OkB]
theorem Tn{v x y:TUnit}{i:Nat}(h:y∈bU (dV i x v)):y=dV i x v\/y∈bU x\/y∈bU v:=by
 rw[ch]at h;rcases eu.1 h with rfl|h
 ·simp_all
 ·obtain⟨k,k1,k2⟩:=jM h;have k1:k∈v.kids.take i++(x::v.kids.drop i):=k1;rcases iy.1 k1 with q|q
  ·grind[bv]
  ·grind[bv]
theorem OkB.ins{u x:TUnit}(hu:OkB u){q:PId}{i:Nat}(hx:(cH x).Nodup)(hd:∀p,p∈cH x->p∉cH u)(hn:nU u+nU x<=1024)(hw:∀y,y∈bU x->y.head.length<=300/\y.words.length<=300):OkB (cW q (dV i x) u):=by
 refine hu.with fun v C hv hq hp=>?_
 have h1:(C++cH (dV i x v)).Perm (cH u++cH x):=((J9 C Ue).trans (by grind))
 refine⟨h1.nodup_iff.2 (E9.2 ⟨hu.nd,hx,fun a ha b hb e=>hd b hb (e▸ha)⟩),by rw[h1.length_eq,dT,<-kY,<-kY];omega,fun y hy=>?_⟩;rcases Tn hy with rfl|h|h
 ·exact hu.w v hv
 all_goals grind[dl,cases OkB]
theorem K8{v y:TUnit}{i:Nat}(h:y∈bU (dR i v)):y=dR i v\/y∈bU v:=by
 rw[ch]at h;rcases eu.1 h with rfl|h
 ·simp_all
 ·obtain⟨k,k1,k2⟩:=jM h;exact .inr (bv (List.mem_of_mem_eraseIdx (show k∈v.kids.eraseIdx i from k1)) k2)
theorem OkB.del{u v:TUnit}(hu:OkB u){i:Nat}(hv:v∈bU u)(hi:i<v.kids.length):OkB (cW (aI v) (dR i) u)/\(cH u).Perm (cH (cW (aI v) (dR i) u)++cH (gD v.kids i)):=by
 obtain⟨v',C,h1,h2,h3,h4⟩:=sj u (mW hv);obtain rfl:=hu.uni h1 hv h2;obtain⟨h5,h6⟩:=h4 (dR i);have h7:(cH u).Perm (cH (cW (aI v') (dR i) u)++cH (gD v'.kids i)):=h3.trans ((J9 C (Uf hi)).trans (by grind));have hnd:=h7.nodup_iff.1 hu.nd;refine⟨⟨(E9.1 hnd).1,?_,fun x hx=>?_⟩,h7⟩
 ·have:=h7.length_eq;grind[kY,cases OkB]
 ·rcases h6 x hx with h|⟨y,y1,y2,y3,y4,y5⟩
  ·rcases K8 h with rfl|h
   ·exact hu.w v' hv
   grind[dl,cases OkB]
  grind[cases OkB]
theorem Fx{q:PId}{f:TUnit->TUnit}:∀u:TUnit,bp q u=true->∃v,v∈bU u/\aI v=q/\f v∈bU (cW q f u):=by
 refine TUnit.ind fun u ih h=>?_
 cases hi:fD q u with
 |true=>grind[cS,fh,rZ]
 | false=>
  rw [mD hi];have key:∀r:List TUnit,(∀k,k∈r->k∈u.kids)->(∃k,k∈r/\bp q k=true)->∃v,v∈dZ r/\aI v=q/\f v∈dZ (eZ q f r):=by
   intro r;induction r with
   |nil=>grind
   | cons k r ihr=>
    intro hs ⟨y,hy,hyq⟩;rw[gr,bw];cases hk:bp q k with
    |true=>grind[bw]
    |false=>
     rcases eu.1 hy with rfl|hy
     ·grind
     ·obtain⟨v,a,b,c⟩:=ihr (fun k hk=>hs k (eG _ hk)) ⟨y,hy,hyq⟩;grind[bw]
  have hx:=jK h;have hne:bT q u≠u:=fun e=>by grind[fh]
  have hm:bT q u∈dZ u.kids:=by grind[ch]
  obtain⟨k,k1,k2⟩:=jM hm;obtain⟨v,a,b,c⟩:=key u.kids (fun _ h=>h) ⟨k,k1,re k ⟨_,k2,hx.2⟩⟩;grind[ch,wm]
theorem Q7{u q:TUnit}(hu:OkB u){i:Nat}(hq:q∈bU u)(hi:i<q.kids.length){p t:PId}{w:Int}{anc bs:Bool}(ht:bp t u=true){ok:Bool}
  (he:(nb p t (aI q) (Int.ofNat i) ok anc bs (cq w u t).1 (cq w u t).2).2=0):
  E5 (cW (aI q) (dR i) u) (nb p t (aI q) (Int.ofNat i) ok anc bs (cq w u t).1 (cq w u t).2).1:=by
 obtain⟨hr,_⟩:=hu.del hq hi;obtain⟨v',C,h1,h2,h3,h4⟩:=sj u (mW hq);obtain rfl:=hu.uni h1 hq h2;obtain⟨_,h6⟩:=h4 (dR i);have hlen:(dR i v').kids.length=v'.kids.length-1:=List.length_eraseIdx_of_lt hi;have own:∀v,v∈bU (cW (aI v') (dR i) u)->aI v=aI v'->v.kids.length=v'.kids.length-1:=fun v hv e=>by
  obtain⟨z,z1,z2,z3⟩:=Fx (q:=aI v') (f:=dR i) u (mW hq);obtain rfl:=hu.uni z1 hq z2;rw[hr.uni hv z3 (e.trans rfl)];omega
 have oth:∀v,v∈bU (cW (aI v') (dR i) u)->aI v≠aI v'->∃y,y∈bU u/\aI v=aI y/\v.kids.length=y.kids.length:=fun v hv hne=>by
  rcases h6 v hv with h|⟨y,y1,y2,y3,_⟩
  ·rcases K8 h with rfl|h
   ·exact absurd rfl hne
   ·exact⟨v,dl hq h,rfl,rfl⟩
  grind
 have hk:=bg v';have hb:=dA hq;have hn:=hu.n;unfold nb at he ⊢;cases c1:(aj ok||((aj (bW t p)&&anc)||(bW t p&&aj bs)))with
 |true=>grind
 | false=>
  rw[c1]at he;simp only[cond_false]at he ⊢;cases c2:bW t p with
  |true=>
   refine⟨i,rfl,by omega,fun v hv hid=>?_⟩;grind[fh]
  | false=>
   rw[c2]at he;simp only[cond_false]at he ⊢;have e0:(cq w u t).2=0:=by grind
   obtain⟨n,n1,n2,n3⟩:=Gl hu ht e0;rw[e0,n1];cases c4:bW (cq w u t).1.id (aI v')with
   |false=>
    have hne:(cq w u t).1.id≠aI v':=fun e=>by grind[ip]
    rw[show(ab 0 0&&(false&&au (Int.ofNat i) (Int.ofNat n)))=false from rfl];refine⟨n,n1,n2,fun v hv hid=>?_⟩;grind[fh]
   | true=>
    have heq:=yY c4;have hn':=n3 v' hq ((fh _ v').2 heq.symm);cases c5:au (Int.ofNat i) (Int.ofNat n)with
    |true=>
     have c5:=ap c5;simp only[aL]at c5;rw[show(ab 0 0&&(true&&true))=true from rfl];refine⟨n-1,by grind,by omega,fun v hv hid=>?_⟩;grind[fh]
    |false=>
     have c5:=aB c5;simp only[aL]at c5;rw[show(ab 0 0&&(true&&false))=false from rfl];refine⟨n,n1,n2,fun v hv hid=>?_⟩;grind[fh]
def yP(a i:Int)(n k:Nat):List PId:=(List.range' (n+1) k).map fun j=>⟨a,i,Int.ofNat j⟩
mutual
theorem vU(a i:Int):∀(u:TUnit)(n w:Nat),cH (cD a i u n w)=yP a i n (nU u)
 |⟨a',i',n',k,l,h,ws,ks⟩,n,w=>by
  rw[me,cD,nU];show _::gS (fJ a i ks (n+1) _)=_
  rw[yN a i ks (n+1)];unfold yP;rw[Nat.add_comm 1 (eQ ks),ye,eb];rfl
theorem yN(a i:Int):∀(l:List TUnit)(n w:Nat),gS (fJ a i l n w)=yP a i n (eQ l)
 |[],n,w=>by rw[fJ,eQ,ra];rfl
 |k::r,n,w=>by
  rw[fJ,eQ,fm,vU a i k n w,yN a i r (n+nU k)];unfold yP;rw[<-pA,show n+nU k+1=n+1+nU k by omega,<-List.range'_append_1]
end
theorem Pd(a i:Int)(n k:Nat):(yP a i n k).Nodup:=by
 unfold yP;exact List.Pairwise.map _ (fun x y hne e=>hne (Int.ofNat.inj (congrArg PId.n e))) List.nodup_range'
mutual
theorem KD(a i:Int)(B:Nat):∀(u:TUnit)(n w:Nat),(∀x,x∈bU u->x.head.length<=B/\x.words.length<=B)->∀x,x∈bU (cD a i u n w)->x.head.length<=B/\x.words.length<=B
 |⟨a',i',n',k,l,h,ws,ks⟩,n,w,hB,x,hx=>by
  rw[cD,bU]at hx;rcases eu.1 hx with rfl|hx
  ·have:=hB _ (by rw[bU];exact eF);exact⟨by show(cA _ _ _ _).length<=B;rw[fS,bP,cX];exact this.1,by show(cA _ _ _ _).length<=B;rw[fS,bP,cX];exact this.2⟩
  ·exact Fm a i B ks _ _ (fun y hy=>hB y (by rw[bU];exact eG _ hy)) x hx
theorem Fm(a i:Int)(B:Nat):∀(l:List TUnit)(n w:Nat),(∀x,x∈dZ l->x.head.length<=B/\x.words.length<=B)->∀x,x∈dZ (fJ a i l n w)->x.head.length<=B/\x.words.length<=B
 |[],n,w,hB,x,hx=>by rw[fJ,dZ]at hx;cases hx
 |k::r,n,w,hB,x,hx=>by
  rw[fJ,dZ]at hx;rcases iy.1 hx with hx|hx
  ·exact KD a i B k _ _ (fun y hy=>hB y (by rw[dZ];exact FQ _ hy)) x hx
  ·exact Fm a i B r _ _ (fun y hy=>hB y (by rw[dZ];exact BE _ hy)) x hx
end
theorem yO(a i:Int)(u:TUnit)(n w:Nat):nU (cD a i u n w)=nU u:=by grind[kY,vU,yP]
variable{u v x:TUnit}{q:PId}{f:TUnit->TUnit}{a i:Int}
def fl{α:Type}(g:TUnit->List α)(u:TUnit):List α:=(bU u).flatMap g
def Iz{α:Type}(g:TUnit->List α)(l:List TUnit):List α:=(dZ l).flatMap g
section
variable{α:Type}{g:TUnit->List α}
theorem wS(u:TUnit):fl g u=g u++Iz g u.kids:=by grind[fl,Iz,ch]
theorem UB:Iz g []=[]:=by unfold Iz;rw[eH];rfl
theorem m7(k:TUnit)(r:List TUnit):Iz g (k::r)=fl g k++Iz g r:=by grind[fl,Iz,bw]
theorem LG(l m:List TUnit):Iz g (l++m)=Iz g l++Iz g m:=by
 induction l with
 |nil=>rw[UB];rfl
 |cons k r ih=>grind[m7]
theorem Dg(hg:∀u ks,g (jr u ks)=g u):∀u:TUnit,bp q u=true->∃v C,v∈bU u/\aI v=q/\(fl g u).Perm (C++fl g v)/\∀f,(fl g (cW q f u)).Perm (C++fl g (f v)):=TUnit.ind fun u ih h=>by
 cases hi:fD q u with
 |true=>exact⟨u,[],cS u,(fh q u).1 hi,.refl _,fun f=>by simp_all[rZ]⟩
 | false=>
  have key:∀r:List TUnit,(∀k,k∈r->k∈u.kids)->b9 q r≠[]->∃v C,v∈dZ r/\aI v=q/\(Iz g r).Perm (C++fl g v)/\∀f,(Iz g (eZ q f r)).Perm (C++fl g (f v)):=by
   intro r;induction r with
   |nil=>intro _ hw;rw[jG]at hw;simp_all
   | cons k r ihr=>
    intro hm hw;cases hk:bp q k with
    |true=>
     obtain⟨v,C,h1,h2,h3,h4⟩:=ih k (hm k (eF ..)) hk;refine⟨v,Iz g r++C,by grind[bw],h2,?_,fun f=>?_⟩
     ·rw[m7,jj];exact OS.trans (h3.append_left _)
     ·rw[gr,hk,cond_true,m7,jj];exact OS.trans ((h4 f).append_left _)
    |false=>
     rw[gv hk]at hw;obtain⟨v,C,h1,h2,h3,h4⟩:=ihr (fun x hx=>hm x (eG _ hx)) hw;refine⟨v,fl g k++C,by grind[bw],h2,?_,fun f=>?_⟩
     ·rw[m7,jj];exact h3.append_left _
     ·rw[gr,hk,cond_false,m7,jj];exact(h4 f).append_left _
  have hw:b9 q u.kids≠[]:=by
   intro e;have:=jg h;rw[ft,hi,e]at this;simp_all
  obtain⟨v,C,h1,h2,h3,h4⟩:=key u.kids (fun _ h=>h) hw;refine⟨v,g u++C,by grind[ch],h2,by rw[wS,jj];exact h3.append_left _,fun f=>?_⟩;rw[mD hi,wS,hg,jj];exact(h4 f).append_left _
theorem Xg(hg:∀u ks,g (jr u ks)=g u){j:Nat}:(fl g (dV j x v)).Perm (fl g v++fl g x):=by
 rw[wS v];unfold dV uv;rw[wS,hg,jj];refine J9 _ ?_;show(Iz g (v.kids.take j++(x::v.kids.drop j))).Perm _
 grind[LG,m7,List.take_append_drop,List.perm_append_comm]
theorem Xh(hg:∀u ks,g (jr u ks)=g u){j:Nat}(h:j<v.kids.length):(fl g v).Perm (fl g (dR j v)++fl g (gD v.kids j)):=by
 rw[wS v];unfold dR;rw[wS,hg,jj];refine J9 _ ?_;show(Iz g v.kids).Perm (Iz g (v.kids.eraseIdx j)++_)
 have e:v.kids=v.kids.take j++(gD v.kids j::v.kids.drop (j+1)):=by grind[gD,List.drop_eq_getElem_cons,List.take_append_drop]
 grind[LG,m7,List.Perm.append_left,List.perm_append_comm]
end
variable{l:List PWord}{old new part:List aP}{n:Int}
end Go.Ev
namespace Go.Ev
open Go
def su(u:TUnit):List (PId×aP×List PWord×List PWord):=[(aI u,u.label,u.head,u.words)]
theorem oK(u:TUnit)(ks:List TUnit):su (jr u ks)=su u:=rfl
theorem Ts(u:TUnit):(fl su u).map (·.1)=cH u:=by
 unfold fl cH;induction bU u with
 |nil=>rfl
 |cons x r ih=>simp_all[BD,su]
theorem LW{u:TUnit}{c:PId×aP×List PWord×List PWord}(h:c∈fl su u):c.1∈cH u:=by rw[<-Ts];exact wV h
def Un(A:List PId)(u v:TUnit):Prop:=∀c,c.1∉A->(c∈fl su u↔c∈fl su v)
section
variable{A:List PId}{u v x q:TUnit}{p t:PId}{f:TUnit->TUnit}{i j:Nat}{w:Int}
theorem Un.refl:Un A u u:=fun _ _=>.rfl
theorem uj(h:bp p u=true):(fl su (cW p (dV j x) u)).Perm (fl su u++fl su x):=by
 obtain⟨v,C,h1,h2,h3,h4⟩:=Dg oK u h;refine(h4 _).trans (((Xg oK).append_left C).trans ?_);rw[<-jj];exact h3.symm.append_right _
theorem Wj:Un (cH x) u (cW p (dV j x) u):=by
 cases h:bp p u with
 |false=>rw[sy u h];exact .refl
 |true=>
  intro c hc;rw[(uj h).mem_iff,iy];exact⟨.inl,fun h=>h.resolve_right fun h=>hc (LW h)⟩
theorem ur(hu:OkB u)(hv:v∈bU u)(hi:i<v.kids.length):(fl su u).Perm (fl su (cW (aI v) (dR i) u)++fl su (gD v.kids i)):=by
 obtain⟨v',C,h1,h2,h3,h4⟩:=Dg oK u (mW hv);obtain rfl:=hu.uni h1 hv h2;refine h3.trans (((Xh oK hi).append_left C).trans ?_);rw[<-jj];exact(h4 _).symm.append_right _
theorem Wk(hu:OkB u)(hv:v∈bU u)(hi:i<v.kids.length):Un (cH (gD v.kids i)) u (cW (aI v) (dR i) u):=fun c hc=>by
 rw[(ur hu hv hi).mem_iff,iy];exact⟨fun h=>h.resolve_right fun h=>hc (LW h),.inl⟩
theorem Dl(hf:∀v,aI (f v)=aI v/\(f v).kids=v.kids):Un [p] u (cW p f u):=by
 cases h:bp p u with
 |false=>rw[sy u h];exact .refl
 |true=>
  obtain⟨v,C,h1,h2,h3,h4⟩:=Dg oK u h;intro c hc;rw[h3.mem_iff,(h4 f).mem_iff,wS,wS,(hf v).2];have e:=(hf v).1;simp only[iy,su,ly]at *;grind
theorem SR:∀u:TUnit,(cH u).Nodup->∀y,x∈bU u->y∈dZ x.kids->aI y=p->x∈(aC p u).take ((aC p u).length -1):=TUnit.ind fun u ih hn y hx hy hp=>by
 have hyx:y∈bU x:=by rw[ch];exact eG _ hy
 rw [me,List.nodup_cons]at hn;have hi:fD p u=false:=by
  cases hi:fD p u with
  |false=>rfl
  | true=>
   have hyu:y∈dZ u.kids:=by
    rw[ch]at hx;rcases eu.1 hx with rfl|hx
    ·exact hy
    ·obtain⟨k,k1,k2⟩:=jM hx;exact vE k1 (dl k2 hyx)
   exact absurd (by rw[(fh p u).1 hi,<-hp];exact wV hyu) hn.1
 have key:∀r:List TUnit,(∀k,k∈r->k∈u.kids)->(gS r).Nodup->x∈dZ r->x∈(b9 p r).take ((b9 p r).length -1):=by
  intro r;induction r with
  |nil=>intro _ _ h;rw[eH]at h;cases h
  | cons k r ihr=>
   intro hm hd hx;rw[fm,E9]at hd;rw[bw,iy]at hx;cases hk:bp p k with
   |true=>
    rw[mE hk];rcases hx with hx|hx
    ·exact ih k (hm k (eF ..)) hd.1 y hx hy hp
    ·obtain⟨k',k1,k2⟩:=jM hx;have h1:=jK hk;exact absurd rfl (hd.2.2 p (h1.2▸wV h1.1) p (hp▸wV (vE k1 (dl k2 hyx))))
   |false=>
    rw[gv hk];refine ihr (fun k h=>hm k (eG _ h)) hd.2.1 (hx.resolve_left fun h=>?_);rw[re k ⟨y,dl h hyx,hp⟩]at hk;cases hk
 have hne:bp p u=true:=re u ⟨y,dl hx hyx,hp⟩;have e:=jg hne;rw[ft,hi]at e ⊢;rw[ch]at hx;cases ew:b9 p u.kids with
 |nil=>rw[ew]at e;exact absurd rfl e
 |cons z l=>
  show x∈(u::z::l).take ((z::l).length+1-1)
  rw[Nat.add_sub_cancel,show(z::l).length=l.length+1 from rfl,List.take_succ_cons];rcases eu.1 hx with rfl|hx
  ·exact eF ..
  ·have:=key u.kids (fun _ h=>h) hn.2 hx;rw[ew]at this;exact eG _ this
theorem Q6(hu:OkB u)(hq:q∈bU u)(hi:i<q.kids.length)(ht:bp t u=true){ok bs:Bool}
  (he:(nb (aI (gD q.kids i)) t (aI q) (Int.ofNat i) ok ((mg t u).any (bW (aI (gD q.kids i)))) bs (cq w u t).1 (cq w u t).2).2=0):
  bp (nb (aI (gD q.kids i)) t (aI q) (Int.ofNat i) ok ((mg t u).any (bW (aI (gD q.kids i)))) bs (cq w u t).1 (cq w u t).2).1.id (cW (aI q) (dR i) u)=true:=by
 have hpm:=(hu.del hq hi).2;have hx:gD q.kids i∈bU u:=dl hq (bv (gY hi) (cS _));generalize gD q.kids i=x at *;have far:∀z,z∈bU u->(z∈bU x->False)->bp (aI z) (cW (aI q) (dR i) u)=true:=fun z hz h=>by
  rcases iy.1 (hpm.mem_iff.1 (wV (f:=aI) hz))with m|m
  ·obtain⟨y,y1,y2⟩:=iS.1 m;exact re _ ⟨y,y1,y2⟩
  ·obtain⟨y,y1,y2⟩:=iS.1 m;exact absurd (hu.uni (dl hx y1) hz y2▸y1) h
 unfold nb at he ⊢;cases c1:(aj ok||((aj (bW t (aI x))&&(mg t u).any (bW (aI x)))||(bW t (aI x)&&aj bs)))with
 |true=>rw[c1]at he;simp only[cond_true]at he;cases he
 | false=>
  rw[c1]at he;simp only[cond_false]at he ⊢;cases c2:bW t (aI x)with
  |true=>
   simp only[cond_true];obtain⟨v,v1,v2,v3⟩:=Fx (q:=aI q) (f:=dR i) u (mW hq);exact re _ ⟨_,v3,v2⟩
  | false=>
   rw[c2]at he c1;simp only[cond_false]at he ⊢;have e0:(cq w u t).2=0:=by grind
   have e1:∀b:Bool,(bif b then((⟨(cq w u t).1.id,(cq w u t).1.at_ -1⟩:PSpot),(cq w u t).2)else((cq w u t).1,(cq w u t).2)).1.id=(cq w u t).1.id:=fun b=>by cases b<;>rfl
   rw[e1];have hanc:(mg t u).any (bW (aI x))=false:=by
    cases h:(mg t u).any (bW (aI x))with
    |false=>rfl
    |true=>rw[h]at c1;simp[aj]at c1
   obtain⟨t1,t2⟩:=jK ht;have hnt:∀y,y∈bU x->aI y=t->False:=fun y hy e=>by
    rw[ch]at hy;rcases eu.1 hy with rfl|hy
    ·rw[e,ip]at c2;cases c2
    ·have z:=SR u hu.nd y hx hy e;rw[List.any_eq_false]at hanc;refine hanc (aI x) ?_ (ip _);unfold mg;rw[List.mem_reverse];exact wV z
   have hT:bp t (cW (aI q) (dR i) u)=true:=by
    have:=far _ t1 fun h=>hnt _ h t2
    rwa[t2]at this
   have hP:∀n,(ki u t n).2=0->bp (ki u t n).1.id (cW (aI q) (dR i) u)=true:=fun n hn=>by
    unfold ki at hn ⊢;cases h:jU t u with
    |false=>rw[h]at hn;cases hn
    |true=>
     obtain⟨P,k,k1,k2,k3,k4,k5⟩:=rU u h;show bp (rE t u) _=true
     rw[k2];exact far P k1 fun hh=>hnt _ (dl hh (bv (gY k4) (cS _))) k5
   unfold cq at e0 ⊢;cases h0:ab w 0 with
   |true=>exact hT
   | false=>
    rw[h0]at e0;simp only[cond_false]at e0 ⊢;cases h1:ab w 1 with
    |true=>exact hT
    |false=>
     rw[h1]at e0;simp only[cond_false]at e0 ⊢;cases h2:ab w 2 with
     |true=>rw[h2]at e0;exact hP 1 e0
     |false=>rw[h2]at e0;exact hP 0 e0
theorem Wx(hu:OkB u)(hq:q∈bU u)(hi:i<q.kids.length)(h:bp p (cW (aI q) (dR i) u)=true):Un A u (cW p (dV j (gD q.kids i)) (cW (aI q) (dR i) u)):=fun c _=>by rw[(ur hu hq hi).mem_iff,(uj h).mem_iff]
theorem LJ(hu:OkB u){c:PId×aP×List PWord×List PWord}:c∈fl su u↔bp c.1 u=true/\(bT c.1 u).label=c.2.1/\(bT c.1 u).head=c.2.2.1/\(bT c.1 u).words=c.2.2.2:=by
 unfold fl;rw[List.mem_flatMap];constructor
 ·rintro⟨y,y1,y2⟩
  obtain rfl:=ly.1 y2;have h:=mW y1;have e:=hu.uni (jK h).1 y1 (jK h).2;show bp (aI y) u=true/\(bT (aI y) u).label=_/\(bT (aI y) u).head=_/\(bT (aI y) u).words=_
  rw[e];exact⟨h,rfl,rfl,rfl⟩
 ·rintro⟨h,h1,h2,h3⟩
  refine⟨_,(jK h).1,ly.2 ?_⟩;rw[(jK h).2,h1,h2,h3]
theorem Un.find(hu:OkB u)(hv:OkB v)(h:Un A u v)(hp:p∉A):bp p u=bp p v/\(bT p u).label=(bT p v).label/\(bT p u).head=(bT p v).head/\(bT p u).words=(bT p v).words:=by
 have k:=fun a b c=>h (p,a,b,c) hp
 simp only[LJ hu,LJ hv]at k;cases h1:bp p u with
 |true=>
  have:=(k _ _ _).1 ⟨h1,rfl,rfl,rfl⟩;exact⟨this.1.symm,this.2.1.symm,this.2.2.1.symm,this.2.2.2.symm⟩
 |false=>
  cases h2:bp p v with
  |true=>have:=(k _ _ _).2 ⟨h2,rfl,rfl,rfl⟩;rw[h1]at this;exact absurd this.1 (by decide)
  |false=>unfold bT;rw[h1,h2];exact⟨rfl,rfl,rfl,rfl⟩
end
end Go.Ev
