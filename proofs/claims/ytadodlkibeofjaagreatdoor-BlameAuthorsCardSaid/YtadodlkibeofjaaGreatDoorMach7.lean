/- An abstract machine for runs of the program, proved sound against the model: part 7. No conditions. -/
import Derived.Test.YtadodlkibeofjaaGreatDoorMach6
import Derived.Laws.Externs
import Derived.Lib.Join
import Derived.Lib.Repeat
namespace Go.Ev
open Go
def px(w:PWord):Bool:=ax (ay w.act 0&&(ay w.item 0&&ay w.at_ 0))
def DC(x:TUnit):Bool:=fI bT x&&(ax (x.head.any px)&&ax (x.words.any px))
def Ip(u:TUnit):Bool:=kT u&&wb DC u
def gL(w:PWord):PWord:=⟨w.text,0,0,0⟩
mutual
def cR:TUnit->TUnit
 |⟨_,_,_,k,l,h,w,ks⟩=>⟨0,0,0,k,l,h.map gL,w.map gL,tL ks⟩
def tL:List TUnit->List TUnit
 |[]=>[]
 |k::r=>cR k::tL r
end
theorem zJ:∀(l:List TUnit),tL l=l.map cR
 |[]=>by rw[tL];rfl
 |k::r=>by rw[tL,zJ r];rfl
theorem mo(u:TUnit):cR u=⟨0,0,0,u.kind,u.label,u.head.map gL,u.words.map gL,u.kids.map cR⟩:=by cases u;rw[cR,zJ];rfl
theorem RL{p:PId}{u:TUnit}(h:be p u=false):jj p u=false:=by unfold jj;rw[Ao h];rfl
theorem Xu{p:PId}{u:TUnit}(h:jj p u=false):r9 p u=bT:=by unfold r9;simp_all
theorem QE{p:PId}{u:TUnit}(h:jj p u=false):qr p u= -1:=by unfold qr;simp_all
theorem Jl{p:PId}{u:TUnit}(h:jj p u=true):r9 p u=au (JZ p u):=by unfold r9;simp_all
theorem Jm{p:PId}{u:TUnit}(h:jj p u=true):qr p u=dX (be p) (JZ p u).kids 0:=by unfold qr;simp_all
def oG(p:PId)(u:TUnit)(k:Nat):List PId:=((((aC p u).take ((aC p u).length -1)).drop k).map au).reverse
theorem Fz(p:PId)(u:TUnit):oG p u 0=mn p u:=rfl
theorem DG(p:PId)(u:TUnit):oG p u ((aC p u).length -1)=[]:=by
 unfold oG;simp_all
theorem Bm(p:PId)(u:TUnit){k:Nat}(h:k+1<(aC p u).length):oG p u k=oG p u (k+1)++[au (gD (aC p u) k)]:=by
 unfold oG;have h1:k<((aC p u).take ((aC p u).length -1)).length:=by grind
 rw[Ps h1,eg,List.reverse_cons];grind[gD]
theorem DF(p:PId)(u:TUnit)(k:Nat):(oG p u k).length<=(aC p u).length:=by grind[oG]
def lu(s:PStep)(u:TUnit):List TUnit:=(aT u).filter (bE s)
def dx(s:PStep)(l:List TUnit):List TUnit:=(cA l).filter (bE s)
theorem zA(s:PStep)(u:TUnit):lu s u=(bif bE s u then[u]else[])++dx s u.kids:=by
 unfold lu dx;rw[cq,List.filter_cons];grind
theorem m6(s:PStep):dx s []=[]:=by unfold dx;rw[eS];rfl
theorem gu(s:PStep)(k:TUnit)(r:List TUnit):dx s (k::r)=lu s k++dx s r:=by grind[lu,dx,bY]
theorem mr(s:PStep)(u:TUnit):(lu s u).length<=nU u:=by grind[lu,Gp]
theorem s6:∀(l m:List TUnit),eW (l++m)=eW l+eW m
 |[],m=>by rw[mc,yG,fL]
 |x::r,m=>by rw[yM,bi,bi,s6 r m,Nat.add_assoc]
theorem AZ(q:TUnit->Bool):∀(l:List TUnit),eW (l.filter q)<=eW l
 |[]=>by simp_all
 |x::r=>by
  rw[List.filter_cons,bi];have:=AZ q r;cases q x with
  |true=>rw[if_pos rfl,bi];omega
  |false=>grind
theorem AQ(q:TUnit->Bool):∀(l:List TUnit),eW (l.flatMap fun x=>x.kids.filter q)<=eW l
 |[]=>by simp_all
 |x::r=>by
  rw[CW,s6,bi];have:=AQ q r;grind[AZ,jV]
theorem L0{n:Nat}:∀(l:List TUnit),(∀x,x∈l->nU x<=n)->eW l<=n*l.length
 |[],_=>by simp_all[mc]
 |x::r,h=>by
  rw[bi,cM,Nat.mul_add,Nat.mul_one];have:=h x (eR ..);have:=L0 r fun y hy=>h y (eC _ hy)
  omega
theorem GM(s:PStep)(u:TUnit)(hp:∀x,x∈aT u->nU x<=nU u):eW (lu s u)<=nU u*nU u:=by
 have h1:=L0 (n:=nU u) (lu s u) fun x hx=>hp x (tf.1 hx).1
 exact bO h1 (Nat.mul_le_mul_left _ (mr s u))
theorem JV(l:List TUnit):gd [] l=l:=rfl
theorem J4{u:TUnit}{p:List PStep}(h:kO p=false):eQ u p=[]:=by unfold eQ;simp_all
theorem Hi{u:TUnit}(h:kO []=true):eQ u []=[u]:=by unfold eQ;simp_all
theorem Hl{u:TUnit}{s:PStep}{r:List PStep}(h:kO (s::r)=true)(hb:nl s=true):eQ u (s::r)=gd r [u]:=by
 unfold eQ;simp_all
theorem xk{u:TUnit}{s:PStep}{r:List PStep}(h:kO (s::r)=true)(hb:nl s=false):eQ u (s::r)=gd r (lu s u):=by
 unfold eQ;rw[h];show gd r (bif nl s then[u]else(aT u).filter (bE s))=_
 rw[hb];rfl
def cC(s:PStep)(l:List TUnit):List TUnit:=l.flatMap fun x=>x.kids.filter (bE s)
section
variable{s:PStep}{l m r r1 X:List TUnit}{w w1:TUnit}{n N:Nat}{rs0:List PStep}{R at0:List TUnit}
theorem JM:cC s []=[]:=rfl
theorem xY:cC s (w::r)=w.kids.filter (bE s)++cC s r:=by grind[cC]
theorem JY(rs:List PStep):gd (s::rs) l=gd rs (cC s l):=rfl
theorem GN:eW (cC s l)<=eW l:=AQ _ l
theorem fA(h:R=gd (s::rs0) l/\eW l<=N)(e:cC s []=cC s l):R=gd rs0 []/\eW []<=N:=⟨by rw[h.1,JY,<-e];rfl,by simp_all[mc]⟩
theorem fB(h:R=gd (s::rs0) l/\eW l<=N)(e:m++cC s []=cC s l):R=gd rs0 m/\eW m<=N:=by grind[JM,JY,GN]
theorem gA(h:cC s (w1::r1)=X):w1.kids.filter (bE s)++cC s r1=X:=xY.symm.trans h
theorem gB(h:n=m.length/\m++cC s (w1::r1)=X/\m.length+eW (w1::r1)<N):n=m.length/\m++(w1.kids.filter (bE s)++cC s r1)=X/\m.length+(eW w1.kids+eW r1)<N:=⟨h.1,xY (s:=s)▸h.2.1,by grind[bi,jV]⟩
theorem hA0(h:(w::r).filter (bE s)++cC s r1=X)(q:bE s w=false):r.filter (bE s)++cC s r1=X:=by simp_all
theorem hB0(h:n=m.length/\m++((w::r).filter (bE s)++cC s r1)=X/\m.length+(eW (w::r)+eW r1)<N)(q:bE s w=false):n=m.length/\m++(r.filter (bE s)++cC s r1)=X/\m.length+(eW r+eW r1)<N:=⟨h.1,by simp_all,by grind[bi]⟩
theorem hB1(h:n=m.length/\m++((w::r).filter (bE s)++cC s r1)=X/\m.length+(eW (w::r)+eW r1)<N)(q:bE s w=true):n+1=(m++[w]).length/\(m++[w])++(r.filter (bE s)++cC s r1)=X/\(m++[w]).length+(eW r+eW r1)<N:=⟨by simp_all,by simp_all,by grind[JC,bi]⟩
end
section
variable{p:PId}{u:TUnit}{i:Int}{l:List PId}
theorem PV(hn:i=Int.ofNat (aC p u).length -2)(h0:aB i 0=false):[au (gD (aC p u) i.toNat)]=oG p u (i-1+1).toNat:=by
 have h0:=aF h0;simp only[aM]at hn;have e:(i-1+1).toNat=i.toNat:=by omega
 rw[e,Bm p u (k:=i.toNat) (by omega),show i.toNat+1=(aC p u).length -1 by omega,DG,yG]
theorem ID(h:l=oG p u (i+1).toNat)(hi:i+2<=(aC p u).length)(h0:aB i 0=false):l++[au (gD (aC p u) i.toNat)]=oG p u (i-1+1).toNat:=by
 have h0:=aF h0;grind[Bm]
theorem Tq(h:l=oG p u (i+1).toNat)(hi: -1<=i)(h0:aB i 0=true):l=mn p u:=by
 have h0:=aA h0;rw[h,show(i+1).toNat=0 by omega,Fz]
theorem TU(hn:i=Int.ofNat (aC p u).length -2)(h0:aB i 0=true):mn p u=[]:=by
 have h0:=aA h0;simp only[aM]at hn;rw[<-Fz];have:(aC p u).length -1=0:=by omega
 grind[DG]
end
theorem LD{s:PStep}{l m:List TUnit}(h:dx s l=m)(hm:m≠[]):l≠[]:=by grind[m6]
theorem Xa(l:List TUnit){z:AV}(hz:z.top=0):aq (l.map aY++[z])=0:=kW.2 fun x hx=>by grind[iZ]
theorem pQ{l x r:List TUnit}{w:TUnit}{j:Nat}(h1:l.drop j=x)(h2:x=w::r):nU w+eW r<=eW l:=by
 have e:l=l.take j++(w::r):=by grind[List.take_append_drop]
 grind[s6,bi]
end Go.Ev
namespace Go.Ev
open Go
def ql(l:List aH)(n:Int):Bool:=qm l&&ax (aB (.ofNat l.length) n)
def BT(n:Int):Bool:=ax (aB n 0)&&ax (aB 256 n)
theorem J3{u:TUnit}(p:List PStep)(h:nU u<=2^11):(eQ u p).length<=2^22:=by
 have key:∀(rs:List PStep)(l:List TUnit),eW (gd rs l)<=eW l:=by
  intro rs;induction rs with
  |nil=>intro l;exact af _
  |cons s r ih=>grind[JY,GN]
 unfold eQ;cases kO p with
 |false=>simp_all
 | true=>
  simp only[cond_true];cases p with
  |nil=>simp_all
  | cons s r=>
   simp only[];refine bO (yw _) (bO (key r _) ?_);cases nl s with
   |true=>grind[bi,mc]
   |false=>
    simp only[cond_false];have h1:=GM s u fun x hx=>dD hx
    have h2:nU u*nU u<=2^11*2^11:=Nat.mul_le_mul h h;exact bO h1 h2
theorem HA{u:TUnit}{p:List PStep}(h:eQ u p=[]):an u p=(bT,7):=by grind[an]
theorem Hu{u x:TUnit}{p:List PStep}(h:eQ u p=[x]):an u p=(au x,0):=by grind[an]
theorem Ht{u x y:TUnit}{r:List TUnit}{p:List PStep}(h:eQ u p=x::y::r):an u p=(bT,8):=by grind[an]
def xt(own:PId)(i:Int)(ok:Bool)(n:Int):PSpot×Int:=bif ok then(⟨own,i+n⟩,0)else(dI,9)
def CE(e:Int)(sp:PSpot)(e2:Int):PSpot×Int:=bif ay e 0 then(bif ay e2 0 then(sp,0)else(dI,e2))else(dI,e)
def np(p q own:PId)(at_:Int)(ok c bs:Bool)(sp:PSpot)(e:Int):PSpot×Int:=
 bif ax ok||((ax (bK q p)&&c)||(bK q p&&ax bs))then(dI,9)
 else bif bK q p then(⟨own,at_⟩,0)
 else bif ay e 0&&(bK sp.id own&&aB at_ sp.at_)then(⟨sp.id,sp.at_-1⟩,e)else(sp,e)
section
variable{a i:Int}{l r x:List aH}{s:aH}{m:List PWord}{j n k:Nat}
theorem s8(h1:l.drop j=x)(h2:x=s::r)(h3:s::r=l):1=[(⟨s,a,i,.ofNat (n+j)⟩:PWord)].length/\0<[(⟨s,a,i,.ofNat (n+j)⟩:PWord)].length/\[(⟨s,a,i,.ofNat (n+j)⟩:PWord)]++ca a i r (n+[(⟨s,a,i,.ofNat (n+j)⟩:PWord)].length)=ca a i l n/\[(⟨s,a,i,.ofNat (n+j)⟩:PWord)].length+r.length=l.length:=by
 have e:=congrArg List.length (h1.trans h2);have e2:=congrArg List.length h3;simp only[yD,cM]at e e2;have:j=0:=by omega
 subst this;refine⟨rfl,Nat.one_pos,?_,by grind⟩;rw[<-h3,ca];rfl
theorem vR(h1:l.drop j=x)(h2:x=s::r)(h:k=m.length/\0<m.length/\m++ca a i (s::r) (n+m.length)=ca a i l n/\m.length+(s::r).length=l.length):
  k+1=(m++[(⟨s,a,i,.ofNat (n+j)⟩:PWord)]).length/\0<(m++[(⟨s,a,i,.ofNat (n+j)⟩:PWord)]).length/\(m++[(⟨s,a,i,.ofNat (n+j)⟩:PWord)])++ca a i r (n+(m++[(⟨s,a,i,.ofNat (n+j)⟩:PWord)]).length)=ca a i l n/\(m++[(⟨s,a,i,.ofNat (n+j)⟩:PWord)]).length+r.length=l.length:=by
 have e:=congrArg List.length (h1.trans h2);obtain⟨q1,q2,q3,q4⟩:=h;simp only[yD,cM]at e q4;have:j=m.length:=by omega
 subst this;simp only[eX,cM,gp];refine⟨by omega,by omega,?_,by omega⟩;rw[<-q3,ca,jy];rfl
end
theorem gE(l:List PWord):(bC l).length=l.length:=b9 ..
structure StampI(a i:Int)(ks:List TUnit)(n0 w0:Nat)(k n w:Nat)(m:List TUnit):Prop where
 len:m.length=k
 le:k<=ks.length
 all:m++eb a i (ks.drop k) n w=eb a i ks n0 w0
 num:n+eW (ks.drop k)=n0+eW ks
 wd:w+(kN (ks.drop k)).length=w0+(kN ks).length
theorem StampI.start(a i:Int)(ks:List TUnit)(n0 w0:Nat):StampI a i ks n0 w0 0 n0 w0 []:=⟨rfl,bA _,rfl,rfl,rfl⟩
theorem StampI.step{a i:Int}{ks:List TUnit}{n0 w0 k n w:Nat}{m:List TUnit}(h:StampI a i ks n0 w0 k n w m)(hk:k<ks.length):
  StampI a i ks n0 w0 (k+1) (n+nU (gD ks k)) (w+(nh (gD ks k)).length) (m++[cV a i (gD ks k) n w]):=by
 have e:=yl hk;obtain⟨h1,h2,h3,h4,h5⟩:=h;rw[e,D8]at h3;rw[e,bi]at h4;rw[e,tw,eX]at h5;exact⟨by simp_all,hk,by simp_all,by omega,by omega⟩
theorem StampI.done{a i:Int}{ks:List TUnit}{n0 w0 k n w:Nat}{m:List TUnit}(h:StampI a i ks n0 w0 k n w m)(hk:¬k<ks.length):m=eb a i ks n0 w0/\n=n0+eW ks/\w=w0+(kN ks).length:=by grind[F9,mc,DH,cases StampI]
theorem Yv{α:Type}[Inhabited α]{m r:List α}{k:Nat}(h:m.length=k):gD (m++r) k=gD r 0:=by grind[gD]
theorem Vl{α:Type}[Inhabited α]{l:List α}{k:Nat}:gD (l.drop k) 0=gD l k:=by simp_all[gD]
theorem T9{α:Type}{m r:List α}{k:Nat}{x y:α}(h:m.length=k):(m++x::r).set k y=(m++[y])++r:=by simp_all
def gw(a i:Int)(ks:List TUnit)(n0 w0 k n w:Nat)(L:List TUnit):Prop:=∃m,L=m++ks.drop k/\StampI a i ks n0 w0 k n w m
section
variable{a i:Int}{ks L:List TUnit}{n0 w0 k n w:Nat}
theorem gw.start(a i:Int)(ks:List TUnit)(n0 w0:Nat):gw a i ks n0 w0 0 n0 w0 ks:=⟨[],rfl,StampI.start ..⟩
theorem gw.len(h:gw a i ks n0 w0 k n w L):L.length=ks.length:=by
 obtain⟨m,rfl,hI⟩:=h;grind[cases StampI]
theorem gw.at_(h:gw a i ks n0 w0 k n w L):gD L k=gD ks k:=by
 obtain⟨m,rfl,hI⟩:=h;rw[Yv hI.len,Vl]
theorem gw.step(h:gw a i ks n0 w0 k n w L)(hk:k<ks.length):gw a i ks n0 w0 (k+1) (n+nU (gD L k)) (w+(nh (gD L k)).length) (L.set k (cV a i (gD L k) n w)):=by
 rw[h.at_];obtain⟨m,rfl,hI⟩:=h;exact⟨m++[cV a i (gD ks k) n w],by rw[yl hk,T9 hI.len],hI.step hk⟩
theorem gw.num(h:gw a i ks n0 w0 k n w L):n+eW (ks.drop k)=n0+eW ks/\w+(kN (ks.drop k)).length=w0+(kN ks).length:=by
 obtain⟨m,rfl,hI⟩:=h;grind[cases StampI]
theorem gw.done(h:gw a i ks n0 w0 k n w L)(hk:¬k<ks.length):L=eb a i ks n0 w0/\n=n0+eW ks/\w=w0+(kN ks).length:=by
 obtain⟨m,rfl,hI⟩:=h;rw[Fm (by omega),ef];exact hI.done hk
theorem gw.room(h:gw a i ks n0 w0 k n w L)(hk:k<ks.length):n+nU (gD L k)<=n0+eW ks/\w+(nh (gD L k)).length<=w0+(kN ks).length:=by
 have h1:=h.num;rw[h.at_];grind[yl,bi,tw]
end
section
variable{α:Type}
structure TotB(lt:α->α->Bool):Prop where
 trans:∀x y z,lt y x=false->lt z y=false->lt z x=false
 asym:∀x y,lt x y=true->lt y x=false
variable{lt:α->α->Bool}
theorem TotB.down(T:TotB lt){x y z:α}(h1:lt z y=false)(h2:lt z x=true):lt y x=true:=by
 cases h:lt y x with
 |true=>rfl
 |false=>grind[cases TotB]
theorem TotB.up(T:TotB lt){x y z:α}(h1:lt x y=true)(h2:lt z y=false):lt x z=true:=by
 cases h:lt x z with
 |true=>rfl
 |false=>grind[cases TotB]
end
section
variable{α:Type}[Inhabited α]{lt:α->α->Bool}{l x y z w:List α}{a b m n i j k s e p d:Nat}
theorem wV(h:l.length<=i):gD l i=default:=by grind[gD]
theorem Yw{v:α}(h:i<l.length):gD (l.set i v) k=if k=i then v else gD l k:=by
 unfold gD;grind
theorem rv(hi:i<l.length)(hj:j<l.length):((l.set i (gD l j)).set j (gD l i)).Perm l:=by grind[gD,List.set_set_perm]
theorem yW(hi:i<l.length)(hj:j<l.length)(q:Nat):gD ((l.set i (gD l j)).set j (gD l i)) q=if q=j then gD l i else if q=i then gD l j else gD l q:=by grind[Yw]
def dn(lt:α->α->Bool)(l:List α)(a b:Nat):Prop:=∀i j,a<=i->i<j->j<b->lt (gD l j) (gD l i)=false
structure SSeg(lt:α->α->Bool)(l x:List α)(a b:Nat):Prop where
 perm:x.Perm l
 out:∀i,i<a\/b<=i->gD x i=gD l i
 src:∀i,a<=i->i<b->∃j,a<=j/\j<b/\gD x i=gD l j
 srt:dn lt x a b
theorem SSeg.len(h:SSeg lt l x a b):x.length=l.length:=h.perm.length_eq
theorem mD(h:dn lt l a b):SSeg lt l l a b:=⟨.refl _,fun _ _=>rfl,fun i h1 h2=>⟨i,h1,h2,rfl⟩,h⟩
theorem SSeg.cast{p q:Nat}(h:SSeg lt l x p q)(hp:p=a)(hq:q=b):SSeg lt l x a b:=by simp_all
theorem dn.nil(h:b<=a+1):dn lt l a b:=fun i j _ _ _=>by omega
theorem dn.sub(h:dn lt l a b)(h1:a<=i)(h2:j<=b):dn lt l i j:=fun p q e1 e2 e3=>h p q (by omega) e2 (by omega)
theorem dn.le(T:TotB lt)(h:dn lt l a b)(h1:a<=i)(h2:i<=j)(h3:j<b):lt (gD l j) (gD l i)=false:=by
 rcases fm i j with q|q
 ·exact h i j h1 q h3
 grind[cases TotB]
structure InsI(lt:α->α->Bool)(l x:List α)(a i j:Nat):Prop where
 perm:x.Perm l
 out:∀q,q<a\/i+1<=q->gD x q=gD l q
 src:∀q,a<=q->q<i+1->∃p,a<=p/\p<i+1/\gD x q=gD l p
 mid:∀p q,a<=p->p<q->q<=i->q≠j->lt (gD x q) (gD x p)=false
theorem InsI.start(h:SSeg lt l x a (min i b))(h1:i<b):InsI lt l x a i i:=by
 rw[show min i b=i by omega]at h;refine⟨h.perm,fun q hq=>h.out q (by omega),fun q h1 h2=>?_,fun p q h1 h2 h3 h4=>h.srt p q h1 h2 (by omega)⟩;grind[cases SSeg]
theorem InsI.step(T:TotB lt)(h:InsI lt l x a i j)(hi:i<l.length)(h1:a<j)(h2:j<=i)(hk:k+1=j)(hl:lt (gD x j) (gD x k)=true):InsI lt l ((x.set j (gD x k)).set k (gD x j)) a i k:=by
 have hx:x.length=l.length:=h.perm.length_eq;have hj:j<x.length:=by omega
 have hkx:k<x.length:=by omega
 have g:=yW hj hkx;refine⟨(rv hj hkx).trans h.perm,fun q hq=>?_,fun q q1 q2=>?_,fun p q h3 h4 h5 h6=>?_⟩
 ·rw[g,if_neg (by omega),if_neg (by omega)];exact h.out q hq
 ·rw[g];split
  ·grind[cases InsI]
  ·split
   ·grind[cases InsI]
   ·exact h.src q q1 q2
 ·rw[g,g];rw[if_neg (show ¬q=k by omega)];by_cases c1:q=j
  ·rw[if_pos c1];by_cases c2:p=k
   ·rw[if_pos c2];exact T.asym _ _ hl
   ·grind[cases InsI]
  ·rw[if_neg c1];by_cases c2:p=k
   ·grind[cases InsI]
   ·rw[if_neg c2];by_cases c3:p=j
    ·grind[cases InsI]
    ·rw[if_neg c3];exact h.mid p q h3 h4 h5 c1
theorem InsI.stop(T:TotB lt)(h:InsI lt l x a i j)(ha:a<=j)(h2:j<=i)(hb:i<b)(hs:s=i+1)(hl:j=a\/∃k,k+1=j/\lt (gD x j) (gD x k)=false):SSeg lt l x a (min s b):=by
 rw[show min s b=i+1 by omega];refine⟨h.perm,h.out,h.src,fun p q h3 h4 h5=>?_⟩;grind[cases TotB,cases InsI]
theorem Oc(hab:a<=b):SSeg lt l l a (min (a+1) b):=mD (dn.nil (by omega))
theorem Rr(h:SSeg lt l x a (min i b))(hi:b<=i):SSeg lt l x a b:=by simp_all
def sw(a b m i:Nat):Nat:=if a<=i/\i<a+m then i-a+b else if b<=i/\i<b+m then i-b+a else i
structure SwP(l x:List α)(a b m:Nat):Prop where
 perm:x.Perm l
 at_:∀i,i<l.length->gD x i=gD l (sw a b m i)
theorem SwP.len(h:SwP l x a b m):x.length=l.length:=h.perm.length_eq
theorem SwP.start:SwP l l a b 0:=⟨.refl _,fun i _=>by simp_all[sw,if_neg]⟩
theorem SwP.step(h:SwP l x a b k)(hk:k<m)(ha:a+m<=b)(hb:b+m<=l.length)(hi:i=a+k)(hj:j=b+k)(hs:s=k+1):SwP l ((x.set i (gD x j)).set j (gD x i)) a b s:=by
 subst hi hj hs;have hx:x.length=l.length:=h.perm.length_eq;have h1:a+k<x.length:=by omega
 have h2:b+k<x.length:=by omega
 refine⟨(rv h1 h2).trans h.perm,fun q hq=>?_⟩;rw[yW h1 h2];by_cases c1:q=b+k
 ·rw[if_pos c1,h.at_ _ (by omega)];congr 1;unfold sw;grind
 ·rw[if_neg c1];by_cases c2:q=a+k
  ·rw[if_pos c2,h.at_ _ (by omega)];congr 1;unfold sw;grind
  ·rw[if_neg c2,h.at_ _ (by omega)];congr 1;unfold sw;grind
theorem SwP.done(h:SwP l x a b k)(hk:k=m):SwP l x a b m:=hk▸h
def ro(a m b i:Nat):Nat:=if a<=i/\i<a+(b-m)then i-a+m else if a+(b-m)<=i/\i<b then i-(b-m)else i
structure RoP(l x:List α)(a m b:Nat):Prop where
 perm:x.Perm l
 at_:∀q,q<l.length->gD x q=gD l (ro a m b q)
theorem RoP.len(h:RoP l x a m b):x.length=l.length:=h.perm.length_eq
theorem RoP.cast{p q r:Nat}(h:RoP l x p q r)(hp:p=a)(hq:q=m)(hr:r=b):RoP l x a m b:=by simp_all
structure RoI(l x:List α)(a m b i j:Nat):Prop where
 perm:x.Perm l
 i0:0<i
 j0:0<j
 im:i<=m
 jn:m+j<=l.length
 at_:∀q,q<l.length->gD x (ro (m-i) m (m+j) q)=gD l (ro a m b q)
theorem RoI.len(h:RoI l x a m b i j):x.length=l.length:=h.perm.length_eq
theorem RoI.start(ha:a<m)(hm:m<b)(hb:b<=l.length)(hi:i=m-a)(hj:j=b-m):RoI l l a m b i j:=by
 subst hi hj;refine⟨.refl _,by omega,by omega,by omega,by omega,fun q _=>?_⟩;grind
theorem WA(ham:a<=m)(hmb:m<=b)(hb:b<=n)(hi:i<n):ro a m b i<n:=by grind[ro]
theorem RoI.left{p q r:Nat}(h:RoI l x a m b i j)(hs:SwP x y p q r)(hp:p=m-i)(hq:q=m)(hr:r=j)(hij:j<i)(hk:k=i-j):RoI l y a m b k j:=by
 subst hk;subst hp;have hq:=hq.symm;subst hq;have hr:=hr.symm;subst hr;have hi:=h.im;have hj:=h.jn;have h0:=h.j0;refine⟨hs.perm.trans h.perm,by omega,h0,by omega,hj,fun q hq=>?_⟩;rw[hs.at_ _ (by rw[h.len];simp_all[WA]),<-h.at_ q hq];congr 1;unfold sw ro;grind
theorem RoI.right{p q r:Nat}(h:RoI l x a m b i j)(hs:SwP x y p q r)(hp:p=m-i)(hq:q=m+j-i)(hr:r=i)(hij:i<j)(hk:k=j-i):RoI l y a m b i k:=by
 subst hk;subst hp;have hq:=hq.symm;subst hq;have hr:=hr.symm;subst hr;have hi:=h.im;have hj:=h.jn;have h0:=h.i0;refine⟨hs.perm.trans h.perm,h0,by omega,hi,by omega,fun q hq=>?_⟩;rw[hs.at_ _ (by rw[h.len];exact WA (by omega) (by omega) (by omega) hq),<-h.at_ q hq];congr 1;unfold sw ro;by_cases c1:m-i<=q/\q<m-i+(m+(j-i)-m)
 ·grind
 ·rw[if_neg c1];by_cases c2:m-i+(m+(j-i)-m)<=q/\q<m+(j-i)
  ·grind
  ·rw[if_neg c2];grind
theorem RoI.stop{p q r:Nat}(h:RoI l x a m b i j)(hs:SwP x y p q r)(hp:p=m-i)(hq:q=m)(hr:r=i)(hij:i=j):RoP l y a m b:=by
 subst hij;subst hp;have hq:=hq.symm;subst hq;have hr:=hr.symm;subst hr;have hi:=h.im;have hj:=h.jn;refine⟨hs.perm.trans h.perm,fun q hq=>?_⟩;rw[hs.at_ _ (by rw[h.len];omega),<-h.at_ q hq];congr 1;unfold sw ro;grind
theorem RoP.none(h:m<=a\/b<=m)(ham:a<=m)(hmb:m<=b):RoP l l a m b:=⟨.refl _,fun q _=>by
 congr 1;unfold ro;grind⟩
structure FstI(lt:α->α->Bool)(l:List α)(a m b i j:Nat):Prop where
 mi:m<=i
 ij:i<=j
 jb:j<=b
 lo:∀q,m<=q->q<i->lt (gD l q) (gD l a)=true
 hi:∀q,j<=q->q<b->lt (gD l q) (gD l a)=false
theorem FstI.start(h:m<=b):FstI lt l a m b m b:=⟨by omega,by omega,by omega,fun q _ _=>by omega,fun q _ _=>by omega⟩
theorem FstI.more(T:TotB lt)(h:FstI lt l a m b i j)(hs:dn lt l m b)(hl:lt (gD l k) (gD l a)=true)(h1:i<=k)(h2:k<j)(hk:e=k+1):FstI lt l a m b e j:=by
 subst hk;have:=h.mi;have:=h.jb;refine⟨by omega,by omega,h.jb,fun q q1 q2=>?_,h.hi⟩;exact T.down (hs.le T q1 (by omega) (by omega)) hl
theorem FstI.less(T:TotB lt)(h:FstI lt l a m b i j)(hs:dn lt l m b)(hl:lt (gD l k) (gD l a)=false)(h1:i<=k)(h2:k<j):FstI lt l a m b i k:=by
 have:=h.mi;have:=h.jb;refine⟨h.mi,by omega,by omega,h.lo,fun q q1 q2=>?_⟩;exact T.trans _ _ _ hl (hs.le T (by omega) q1 q2)
structure UpI(l x:List α)(a k:Nat):Prop where
 perm:x.Perm l
 at_:∀q,q<l.length->gD x q=gD l (if a<=q/\q<k then q+1 else if q=k then a else q)
theorem UpI.len(h:UpI l x a k):x.length=l.length:=h.perm.length_eq
theorem UpI.start:UpI l l a a:=⟨.refl _,fun q _=>by grind⟩
theorem UpI.step(h:UpI l x a k)(hk:a<=k)(hn:k+1<l.length)(he:e=k+1):UpI l ((x.set k (gD x e)).set e (gD x k)) a e:=by
 subst he;have hx:=h.len;have h1:k<x.length:=by omega
 have h2:k+1<x.length:=by omega
 refine⟨(rv h1 h2).trans h.perm,fun q hq=>?_⟩;rw[yW h1 h2];by_cases c1:q=k+1
 ·rw[if_pos c1,h.at_ _ (by omega),if_neg (by omega),if_pos rfl,if_neg (by omega),if_pos c1]
 ·rw[if_neg c1];by_cases c2:q=k
  ·rw[if_pos c2,h.at_ _ (by omega),if_neg (by omega),if_neg (by omega),if_pos (by omega),c2]
  ·rw[if_neg c2,h.at_ _ hq];grind
theorem UpI.stop(T:TotB lt)(h:UpI l x a k)(hf:FstI lt l a m b i j)(hs:dn lt l m b)(hma:m=a+1)(hij:j<=i)(hk:k+1=i)(hb:b<=l.length):SSeg lt l x a b:=by
 have q1:=hf.mi;have q2:=hf.ij;have q3:=hf.jb;refine⟨h.perm,fun q hq=>?_,fun q h1 h2=>?_,fun p q h1 h2 h3=>?_⟩
 ·rcases fm q l.length with c|c
  ·rw[h.at_ q c,if_neg (by omega),if_neg (by omega)]
  ·rw[wV (by rw[h.len];omega),wV c]
 ·rw[h.at_ q (by omega)];grind
 ·rw[h.at_ p (by omega),h.at_ q (by omega)];by_cases c1:p<k
  ·rw[if_pos (show a<=p/\p<k by omega)];by_cases c2:q<k
   ·rw[if_pos (show a<=q/\q<k by omega)];exact hs _ _ (by omega) (by omega) (by omega)
   ·rw[if_neg (show ¬(a<=q/\q<k) by omega)];by_cases c3:q=k
    ·grind[cases TotB,cases FstI]
    ·grind[cases TotB,cases FstI]
  ·rw[if_neg (show ¬(a<=p/\p<k) by omega),if_neg (show ¬(a<=q/\q<k) by omega),if_neg (show ¬q=k by omega)];by_cases c3:p=k
   ·rw[if_pos c3];exact hf.hi _ (by omega) (by omega)
   ·rw[if_neg c3];exact hs _ _ (by omega) (by omega) (by omega)
structure LstI(lt:α->α->Bool)(l:List α)(a m i j:Nat):Prop where
 ai:a<=i
 ij:i<=j
 jm:j<=m
 lo:∀q,a<=q->q<i->lt (gD l m) (gD l q)=false
 hi:∀q,j<=q->q<m->lt (gD l m) (gD l q)=true
theorem LstI.start(h:a<=m):LstI lt l a m a m:=⟨by omega,by omega,by omega,fun q _ _=>by omega,fun q _ _=>by omega⟩
theorem LstI.more(T:TotB lt)(h:LstI lt l a m i j)(hs:dn lt l a m)(hl:lt (gD l m) (gD l k)=false)(h1:i<=k)(h2:k<j)(hk:e=k+1):LstI lt l a m e j:=by
 subst hk;have:=h.ai;have:=h.jm;refine⟨by omega,by omega,h.jm,fun q q1 q2=>?_,h.hi⟩;exact T.trans _ _ _ (hs.le T q1 (by omega) (by omega)) hl
theorem LstI.less(T:TotB lt)(h:LstI lt l a m i j)(hs:dn lt l a m)(hl:lt (gD l m) (gD l k)=true)(h1:i<=k)(h2:k<j):LstI lt l a m i k:=by
 have:=h.ai;have:=h.jm;refine⟨h.ai,by omega,by omega,h.lo,fun q q1 q2=>?_⟩;exact T.up hl (hs.le T (by omega) q1 q2)
structure DnI(l x:List α)(m k:Nat):Prop where
 perm:x.Perm l
 at_:∀q,q<l.length->gD x q=gD l (if k<q/\q<=m then q-1 else if q=k then m else q)
theorem DnI.len(h:DnI l x m k):x.length=l.length:=h.perm.length_eq
theorem DnI.start:DnI l l m m:=⟨.refl _,fun q _=>by grind⟩
theorem DnI.step(h:DnI l x m k)(hk:k<=m)(hn:m<l.length)(he:e+1=k):DnI l ((x.set k (gD x e)).set e (gD x k)) m e:=by
 subst he;have hx:=h.len;have h1:e+1<x.length:=by omega
 have h2:e<x.length:=by omega
 refine⟨(rv h1 h2).trans h.perm,fun q hq=>?_⟩;rw[yW h1 h2];by_cases c1:q=e
 ·rw[if_pos c1,h.at_ _ (by omega),if_neg (by omega),if_pos rfl,if_neg (by omega),if_pos c1]
 ·rw[if_neg c1];by_cases c2:q=e+1
  ·rw[if_pos c2,h.at_ _ (by omega),if_neg (by omega),if_neg (by omega),if_pos (by omega)];simp_all
  ·rw[if_neg c2,h.at_ _ hq];grind
theorem DnI.stop(T:TotB lt)(h:DnI l x m k)(hf:LstI lt l a m i j)(hs:dn lt l a m)(hmb:b=m+1)(hij:j<=i)(hk:k=i)(hb:b<=l.length):SSeg lt l x a b:=by
 have q1:=hf.ai;have q2:=hf.ij;have q3:=hf.jm;refine⟨h.perm,fun q hq=>?_,fun q h1 h2=>?_,fun p q h1 h2 h3=>?_⟩
 ·rcases fm q l.length with c|c
  ·rw[h.at_ q c,if_neg (by omega),if_neg (by omega)]
  ·rw[wV (by rw[h.len];omega),wV c]
 ·rw[h.at_ q (by omega)];grind
 ·rw[h.at_ p (by omega),h.at_ q (by omega)];by_cases c1:q<=k
  ·rw[if_neg (show ¬(k<q/\q<=m) by omega),if_neg (show ¬(k<p/\p<=m) by omega),if_neg (show ¬p=k by omega)];by_cases c3:q=k
   ·rw[if_pos c3];exact hf.lo _ h1 (by omega)
   ·rw[if_neg c3];exact hs _ _ h1 h2 (by omega)
  ·rw[if_pos (show k<q/\q<=m by omega)];by_cases c2:k<p
   ·rw[if_pos (show k<p/\p<=m by omega)];exact hs _ _ (by omega) (by omega) (by omega)
   ·rw[if_neg (show ¬(k<p/\p<=m) by omega)];by_cases c3:p=k
    ·grind[cases TotB,cases LstI]
    ·rw[if_neg c3];exact hs _ _ h1 (by omega) (by omega)
structure CutI(lt:α->α->Bool)(l:List α)(lo hi p i j:Nat):Prop where
 li:lo<=i
 ij:i<=j
 jh:j<=hi
 low:∀c,lo<=c->c<i->lt (gD l (p-c)) (gD l c)=false
 high:∀c,j<=c->c<hi->lt (gD l (p-c)) (gD l c)=true
variable{lo hi:Nat}
theorem CutI.start(h:lo<=hi):CutI lt l lo hi p lo hi:=⟨by omega,by omega,by omega,fun q _ _=>by omega,fun q _ _=>by omega⟩
theorem CutI.more(T:TotB lt)(h:CutI lt l lo hi p i j)(hA:dn lt l a m)(hB:dn lt l m b)(hl:lt (gD l s) (gD l k)=false)(b1:a<=lo)(b2:hi<=m)(b3:m+hi<=p+1)(b4:p<b+lo)(h1:i<=k)(h2:k<j)(hk:e=k+1)(hs:s=p-k):CutI lt l lo hi p e j:=by
 subst hk hs;have:=h.li;have:=h.jh;refine⟨by omega,by omega,h.jh,fun c c1 c2=>?_,h.high⟩;exact T.trans _ _ _ (hA.le T (i:=c) (j:=k) (by omega) (by omega) (by omega)) (T.trans _ _ _ hl (hB.le T (i:=p-k) (j:=p-c) (by omega) (by omega) (by omega)))
theorem CutI.less(T:TotB lt)(h:CutI lt l lo hi p i j)(hA:dn lt l a m)(hB:dn lt l m b)(hl:lt (gD l s) (gD l k)=true)(b1:a<=lo)(b2:hi<=m)(b3:m+hi<=p+1)(b4:p<b+lo)(h1:i<=k)(h2:k<j)(hs:s=p-k):CutI lt l lo hi p i k:=by
 subst hs;have:=h.li;have:=h.jh;refine⟨h.li,by omega,by omega,h.low,fun c c1 c2=>?_⟩;exact T.down (hB.le T (i:=p-c) (j:=p-k) (by omega) (by omega) (by omega)) (T.up hl (hA.le T (i:=k) (j:=c) (by omega) (by omega) (by omega)))
theorem OS(T:TotB lt)(h:CutI lt l lo hi p s s)(hA:dn lt l a m)(hB:dn lt l m b)(hr:RoP l y s m e)(hab:b<=l.length)
  (d1:d+m=p+1)(e1:e+s=p+1)(f1:a<=s)(f2:s<=m)(f3:m<=e)(f4:e<=b)(f5:lo<s\/s=a\/e=b)(f6:s<hi\/s=m\/e=m):
  ∀i j,a<=i->i<d->d<=j->j<b->lt (gD y j) (gD y i)=false:=by
 intro i j h1 h2 h3 h4;rw[hr.at_ i (by omega),hr.at_ j (by omega)];unfold ro;by_cases c1:i<s
 ·rw[if_neg (show ¬(s<=i/\i<s+(e-m)) by omega),if_neg (show ¬(s+(e-m)<=i/\i<e) by omega)];rw[if_neg (show ¬(s<=j/\j<s+(e-m)) by omega)];by_cases c2:j<e
  ·rw[if_pos (show s+(e-m)<=j/\j<e by omega)];exact hA.le T h1 (by omega) (by omega)
  ·rw[if_neg (show ¬(s+(e-m)<=j/\j<e) by omega)];have hc:=h.low (s-1) (by omega) (by omega);rw[show p-(s-1)=e by omega]at hc;exact T.trans _ _ _ (hA.le T (i:=i) (j:=s-1) h1 (by omega) (by omega)) (T.trans _ _ _ hc (hB.le T (i:=e) (j:=j) (by omega) (by omega) h4))
 ·rw[if_pos (show s<=i/\i<s+(e-m) by omega),if_neg (show ¬(s<=j/\j<s+(e-m)) by omega)];by_cases c2:j<e
  ·rw[if_pos (show s+(e-m)<=j/\j<e by omega)];have hc:=h.high s (by omega) (by omega);rw[show p-s=e-1 by omega]at hc;refine T.asym _ _ (T.up (T.down (hB.le T (i:=i-s+m) (j:=e-1) (by omega) (by omega) (by omega)) hc) (hA.le T (i:=s) (j:=j-(e-m)) (by omega) (by omega) (by omega)))
  ·rw[if_neg (show ¬(s+(e-m)<=j/\j<e) by omega)];exact hB.le T (by omega) (by omega) h4
theorem RoP.left(hr:RoP l y s m e)(hA:dn lt l a m)(f2:s<=m)(f3:m<=e)(f4:e<=l.length):dn lt y a s:=fun i j h1 h2 h3=>by
 rw[hr.at_ i (by omega),hr.at_ j (by omega)];unfold ro;rw[if_neg (by omega),if_neg (by omega),if_neg (by omega),if_neg (by omega)];exact hA i j h1 h2 (by omega)
theorem RoP.mid1(hr:RoP l y s m e)(hB:dn lt l m b)(f3:m<=e)(f4:e<=b)(f2:s<=m)(hb:b<=l.length)(hd:d=s+(e-m)):dn lt y s d:=fun i j h1 h2 h3=>by
 rw[hr.at_ i (by omega),hr.at_ j (by omega)];unfold ro;rw[if_pos (by omega),if_pos (by omega)];exact hB _ _ (by omega) (by omega) (by omega)
theorem RoP.mid2(hr:RoP l y s m e)(hA:dn lt l a m)(f1:a<=s)(f2:s<=m)(f3:m<=e)(f4:e<=l.length)(hd:d=s+(e-m)):dn lt y d e:=fun i j h1 h2 h3=>by
 rw[hr.at_ i (by omega),hr.at_ j (by omega)];unfold ro;rw[if_neg (by omega),if_pos (by omega),if_neg (by omega),if_pos (by omega)];exact hA _ _ (by omega) (by omega) (by omega)
theorem RoP.right(hr:RoP l y s m e)(hB:dn lt l m b)(f2:s<=m)(f3:m<=e)(hb:b<=l.length):dn lt y e b:=fun i j h1 h2 h3=>by
 rw[hr.at_ i (by omega),hr.at_ j (by omega)];unfold ro;rw[if_neg (by omega),if_neg (by omega),if_neg (by omega),if_neg (by omega)];exact hB i j (by omega) h2 h3
theorem RoP.lower(hr:RoP l y s m e)(hA:dn lt l a m)(hB:dn lt l m b)(hd:d+m=s+e)(h:s<=a\/d<=s)(f1:a<=s)(f2:s<=m)(f3:m<=e)(f4:e<=b)(hb:b<=l.length):dn lt y a d:=by
 rcases h with h|h
 ·have:=hr.mid1 hB f3 f4 f2 hb (d:=d) (by omega);grind
 ·have:=hr.left hA f2 f3 (by omega);grind
theorem RoP.upper(hr:RoP l y s m e)(hA:dn lt l a m)(hB:dn lt l m b)(hd:d+m=s+e)(h:b<=e\/e<=d)(f1:a<=s)(f2:s<=m)(f3:m<=e)(f4:e<=b)(hb:b<=l.length):dn lt y d b:=by
 rcases h with h|h
 ·have:=hr.mid2 hA f1 f2 f3 (by omega) (d:=d) (by omega);grind
 ·have:=hr.right hB f2 f3 hb;grind
theorem Yx(hr:RoP l y s m e)(hz:SSeg lt y z a d)(hw:SSeg lt z w d b)(had:a<=d)(hdb:d<=b)(hb:b<=l.length)(f1:a<=s)(f2:s<=m)(f3:m<=e)(f4:e<=b)
  (hx:∀i j,a<=i->i<d->d<=j->j<b->lt (gD y j) (gD y i)=false):SSeg lt l w a b:=by
 have hro:∀q,a<=q->q<b->a<=ro s m e q/\ro s m e q<b:=fun q h1 h2=>by grind[ro]
 have hy:∀q,q<a\/b<=q->gD y q=gD l q:=fun q hq=>by
  rcases fm q l.length with c|c
  ·rw[hr.at_ q c];congr 1;unfold ro;grind
  ·rw[wV (by rw[hr.len];omega),wV c]
 refine⟨hw.perm.trans (hz.perm.trans hr.perm),fun q hq=>?_,fun q h1 h2=>?_,fun i j h1 h2 h3=>?_⟩
 ·grind[cases SSeg]
 ·rcases fm q d with c|c
  ·obtain⟨j,j1,j2,j3⟩:=hz.src q h1 c;have:=hro j j1 (by omega);exact⟨_,this.1,this.2,by rw[hw.out q (.inl c),j3,hr.at_ j (by omega)]⟩
  ·obtain⟨j,j1,j2,j3⟩:=hw.src q c h2;have:=hro j (by omega) j2;exact⟨_,this.1,this.2,by rw[j3,hz.out j (.inr j1),hr.at_ j (by omega)]⟩
 ·rcases fm j d with c|c
  ·rw[hw.out i (.inl (by omega)),hw.out j (.inl c)];exact hz.srt i j h1 h2 c
  ·rcases fm i d with c2|c2
   ·obtain⟨i',i1,i2,i3⟩:=hz.src i h1 c2;obtain⟨j',j1,j2,j3⟩:=hw.src j c h3;rw[hw.out i (.inl c2),i3,j3,hz.out j' (.inr j1)];simp_all
   ·exact hw.srt i j c2 h2 h3
theorem vP(T:TotB lt)(h:CutI lt l lo hi p i s)(hA:dn lt l a m)(hB:dn lt l m b)(hr:RoP l y i m e)(hz:SSeg lt y z a d)(hw:SSeg lt z w d b)(his:s<=i)(hd:d+m=p+1)(he:e+i=p+1)(had:a<=d)(hdb:d<=b)(hb:b<=l.length)(f1:a<=i)(f2:i<=m)(f3:m<=e)(f4:e<=b)(f5:lo<i\/i=a\/e=b)(f6:i<hi\/i=m\/e=m):SSeg lt l w a b:=by
 have:i=s:=Nat.le_antisymm h.ij his;grind[Yx,OS]
theorem SSeg.keep(h:SSeg lt l x a b)(hs:dn lt l i j)(hd:j<=a\/b<=i):dn lt x i j:=fun p q h1 h2 h3=>by rw[h.out p (by omega),h.out q (by omega)];exact hs p q h1 h2 h3
def Pd(lt:α->α->Bool)(x:List α)(s n:Nat):Prop:=∀c,dn lt x (c*s) (min ((c+1)*s) n)
theorem rL{t c d:Nat}(h:a=d*t):(c+1)*t<=a\/c=d\/a+t<=c*t:=by
 subst h;rcases Nat.lt_trichotomy c d with q|q|q
 ·exact .inl (eD _ q)
 ·omega
 ·refine .inr (.inr ?_);have:=eD t q;grind
structure BlkA(lt:α->α->Bool)(l x:List α)(s a:Nat):Prop where
 perm:x.Perm l
 dv:∃c,a=c*s
 ok:∀c,dn lt x (c*s) (min ((c+1)*s) a)
theorem BlkA.len(h:BlkA lt l x s a):x.length=l.length:=h.perm.length_eq
theorem BlkA.start:BlkA lt l l s 0:=⟨.refl _,⟨0,by omega⟩,fun c=>dn.nil (by omega)⟩
theorem BlkA.step(h:BlkA lt l x s a)(hy:SSeg lt x y a b)(hb:b=a+s):BlkA lt l y s b:=by
 obtain⟨d,hd⟩:=h.dv;subst hb;refine⟨hy.perm.trans h.perm,⟨d+1,by grind⟩,fun c=>?_⟩;rcases rL (c:=c) hd with q|q|q
 ·have:=h.ok c;rw[show min ((c+1)*s) a=(c+1)*s by omega]at this;rw[show min ((c+1)*s) (a+s)=(c+1)*s by omega];exact hy.keep this (.inl q)
 all_goals grind[dn.nil,cases SSeg]
theorem BlkA.last(h:BlkA lt l x s a)(hy:SSeg lt x y a n)(hn:n<a+s)(ha:a<=n):y.Perm l/\Pd lt y s n:=by
 obtain⟨d,hd⟩:=h.dv;refine⟨hy.perm.trans h.perm,fun c=>?_⟩;rcases rL (c:=c) hd with q|q|q
 ·have:=h.ok c;rw[show min ((c+1)*s) a=(c+1)*s by omega]at this;rw[show min ((c+1)*s) n=(c+1)*s by omega];exact hy.keep this (.inl q)
 all_goals grind[dn.nil,cases SSeg]
structure BlkB(lt:α->α->Bool)(l x:List α)(s a n:Nat):Prop where
 perm:x.Perm l
 dv:∃c,a=c*(2*s)
 ok:∀c,dn lt x (c*(2*s)) (min ((c+1)*(2*s)) a)
 rest:∀c,a<=c*s->dn lt x (c*s) (min ((c+1)*s) n)
theorem BlkB.len(h:BlkB lt l x s a n):x.length=l.length:=h.perm.length_eq
theorem BlkB.start(h:x.Perm l/\Pd lt x s n):BlkB lt l x s 0 n:=⟨h.1,⟨0,by omega⟩,fun c=>dn.nil (by omega),fun c _=>h.2 c⟩
theorem BlkB.pre1(h:BlkB lt l x s a n)(hm:m=a+s)(hn:m<=n):dn lt x a m:=by
 obtain⟨d,hd⟩:=h.dv;have e:a=(d*2)*s:=by grind
 have:=h.rest (d*2) (by omega);grind
theorem BlkB.pre2(h:BlkB lt l x s a n)(hm:m=a+s)(hb:b<=m+s)(hn:b<=n):dn lt x m b:=by
 obtain⟨d,hd⟩:=h.dv;have e:a=(d*2)*s:=by grind
 have e2:m=(d*2+1)*s:=by grind
 have:=h.rest (d*2+1) (by omega);rw[<-e2,qz,<-e2]at this;exact this.sub (af _) (by omega)
theorem BlkB.step(h:BlkB lt l x s a n)(hy:SSeg lt x y a b)(hb:b=a+2*s):BlkB lt l y s b n:=by
 obtain⟨d,hd⟩:=h.dv;subst hb;refine⟨hy.perm.trans h.perm,⟨d+1,by grind⟩,fun c=>?_,fun c hc=>hy.keep (h.rest c (by omega)) (.inr hc)⟩;rcases rL (c:=c) hd with q|q|q
 ·have:=h.ok c;rw[show min ((c+1)*(2*s)) a=(c+1)*(2*s) by omega]at this;rw[show min ((c+1)*(2*s)) (a+2*s)=(c+1)*(2*s) by omega];exact hy.keep this (.inl q)
 all_goals grind[dn.nil,cases SSeg]
theorem BlkB.last(h:BlkB lt l x s a n)(hy:SSeg lt x y a n)(hn:n<a+2*s)(ht:d=2*s)(ha:a<=n):y.Perm l/\Pd lt y d n:=by
 subst ht;obtain⟨d,hd⟩:=h.dv;refine⟨hy.perm.trans h.perm,fun c=>?_⟩;rcases rL (c:=c) hd with q|q|q
 ·have:=h.ok c;rw[show min ((c+1)*(2*s)) a=(c+1)*(2*s) by omega]at this;rw[show min ((c+1)*(2*s)) n=(c+1)*(2*s) by omega];exact hy.keep this (.inl q)
 all_goals grind[dn.nil,cases SSeg]
theorem BlkB.one(h:BlkB lt l x s a n)(hn:n<=a+s):SSeg lt x x a n:=by
 obtain⟨d,hd⟩:=h.dv;have e:a=(d*2)*s:=by grind
 have:=h.rest (d*2) (by omega);simp_all[qz,mD]
theorem Pd.all(h:Pd lt x s n)(hn:n<=s):dn lt x 0 n:=by
 have:=h 0;simp_all
theorem dn.pair:∀{x:List α},dn lt x 0 x.length->x.Pairwise fun u v=>lt v u=false
 |[],_=>.nil
 | u::r,h=>jH.2 ⟨fun v hv=>by
   obtain⟨i,hi,rfl⟩:=CY hv;have:=h 0 (i+1) (by omega) (by omega) (by simp_all);have e:gD (u::r) (i+1)=r[i]:=by grind[gD]
   rw[e]at this;exact this,dn.pair fun i j _ h2 h3=>h (i+1) (j+1) (by omega) (by omega) (by simp_all)⟩
end
section
variable{α:Type}{lt:α->α->Bool}
theorem CI:∀{x y:List α},x.Pairwise (fun u v=>lt v u=false)->y.Pairwise (fun u v=>lt v u=false)->x.Perm y->(∀u v,u∈x->v∈x->lt u v=false->lt v u=false->u=v)->x=y
 |[],y,_,_,hp,_=>hp.nil_eq
 |u::r,[],_,_,hp,_=>by simp_all
 |u::r,v::t,hx,hy,hp,H=>by
  obtain⟨x1,x2⟩:=jH.1 hx;obtain⟨y1,y2⟩:=jH.1 hy;have hv:v∈u::r:=hp.mem_iff.2 (eR ..);have hu:u∈v::t:=hp.mem_iff.1 (eR ..);have e:u=v:=by grind
  subst e;rw[CI x2 y2 ((List.perm_cons u).1 hp) fun a b ha hb=>H a b (eC _ ha) (eC _ hb)]
def Eu(lt:α->α->Bool)(a:α):List α->List α
 |[]=>[a]
 |b::r=>match lt b a with|true=>b::Eu lt a r|false=>a::b::r
def Qx(lt:α->α->Bool)(l:List α):List α:=l.foldl (fun o a=>Eu lt a o) []
theorem wX(a:α):∀(l:List α),(Eu lt a l).Perm (a::l)
 |[]=>.refl _
 |b::r=>by
  unfold Eu;cases lt b a with
  |true=>exact((wX a r).cons b).trans (.swap a b r)
  |false=>simp_all
theorem DX(T:TotB lt)(a:α):∀{l:List α},l.Pairwise (fun u v=>lt v u=false)->(Eu lt a l).Pairwise (fun u v=>lt v u=false)
 |[],_=>List.pairwise_singleton ..
 | b::r,h=>by
  obtain⟨h1,h2⟩:=jH.1 h;unfold Eu;cases q:lt b a with
  |true=>
   refine jH.2 ⟨fun v hv=>?_,DX T a h2⟩;grind[wX,cases TotB]
  |false=>
   refine jH.2 ⟨fun v hv=>?_,h⟩;grind[cases TotB]
theorem tP(T:TotB lt):∀(l o:List α),o.Pairwise (fun u v=>lt v u=false)->((l.foldl (fun o a=>Eu lt a o) o).Perm (o++l)/\(l.foldl (fun o a=>Eu lt a o) o).Pairwise fun u v=>lt v u=false)
 |[],o,h=>⟨by simp_all,h⟩
 |a::r,o,h=>by
  obtain⟨h1,h2⟩:=tP T r (Eu lt a o) (DX T a h);refine⟨h1.trans ?_,h2⟩;exact((wX a o).append_right r).trans (List.perm_middle.symm)
theorem zw(T:TotB lt)(l:List α):(Qx lt l).Perm l:=(tP T l [] .nil).1
theorem Qz(T:TotB lt){l x:List α}(hp:x.Perm l)(hs:x.Pairwise fun u v=>lt v u=false)(H:∀u v,u∈l->v∈l->lt u v=false->lt v u=false->u=v):x=Qx lt l:=CI hs (tP T l [] .nil).2 (hp.trans (zw T l).symm) fun u v hu hv=>H u v (hp.mem_iff.1 hu) (hp.mem_iff.1 hv)
end
theorem VRel.unren{ρ:Nat->Nat}{n:Nat}{pl pl2:Pl}{M:dl}{v:AV}{x:Value}(h:VRel pl2 M v x)(hp:∀id p,id<n->pl2 id=some p->pl (ρ id)=some p)(ht:v.top<=n):VRel pl M (Ev.ren ρ v) x:=by
 have gt:∀{xs:List AV}{i:Nat}{z:AV},(xs.map (Ev.ren ρ))[i]?=some z->∃y,xs[i]?=some y/\z=Ev.ren ρ y:=by grind
 have tp:∀{xs:List AV}{i j:Nat}{z y:AV},aq xs<=n->xs[i]?=some z->z.cells[j]?=some y->y.top<=n:=by
  intro xs i j x y h1 h2 h3;exact lU (dC.1 h1 x (bh h2)) (bh h3)
 have sc:∀{xs:List AV}{sz:Nat},(∀x,x∈xs->x.cells.length=sz/\Sc x)->∀x,x∈xs.map (Ev.ren ρ)->x.cells.length=sz/\Sc x:=by
  intro xs sz h x hx;obtain⟨y,hy,rfl⟩:=gn.1 hx;obtain⟨h1,h2⟩:=h y hy;rw[gX];refine⟨by simp_all,fun u hu=>?_⟩;rw[gX]at hu;obtain⟨z,hz,rfl⟩:=gn.1 hu;rw[oq];exact h2 z hz
 have cel:∀{xs:List AV}{c:Array Value}{o sz:Nat},aq xs<=n->(∀i x j y,xs[i]?=some x->x.cells[j]?=some y->y.top<=n->VRel pl M (Ev.ren ρ y) (c.getD (o+i*sz+j) undef))->
   ∀i x j y,(xs.map (Ev.ren ρ))[i]?=some x->x.cells[j]?=some y->VRel pl M y (c.getD (o+i*sz+j) undef):=by
  intro xs c o sz ht h i x j y h1 h2;obtain⟨x0,e1,rfl⟩:=gt h1;rw[gX]at h2;grind
 induction h with
 |bool b=>exact .bool b
 |int k n=>exact .int k n
 |str s=>exact .str s
 |nilp=>exact .nilp
 |ptr h1 h2 h3=>simp only[AV.top]at ht;exact .ptr (hp _ _ (by omega) h1) h2 h3
 |pptr hm hs hi hc ih=>
  simp only[AV.top]at ht;simp only[Ev.ren,fY];exact .pptr ⟨hm.1,hm.2.1,by simp_all,hm.2.2.2⟩ (sc hs) (by simp_all) (cel ht fun i x j y h1 h2 h3=>ih i x j y h1 h2 h3)
 |nils=>exact .nils
 |slice h1 h2 h3 h4 h5=>simp only[AV.top]at ht;exact .slice (hp _ _ (by omega) h1) h2 h3 h4 h5
 |sl0n _ ih=>exact .sl0n (ih (bA _))
 |sl0s _ ih=>exact .sl0s (ih ht)
 |ps hl ht' hm hs hc ih=>
  simp only[AV.top]at ht;simp only[Ev.ren,fY];have:=VRel.ps (pl:=pl) (xs:=_) (by simpa using hl) (by simpa using ht') (by simp_all) (sc hs) (cel ht fun i x j y h1 h2 h3=>ih i x j y h1 h2 h3);simp_all
 |lsn=>exact .lsn
 |lsp h ht0 ih=>
  have:=ih (by grind[AV.top]);simp only[Ev.ren,fX ρ _ ht0]at this;exact .lsp this ht0
 |nilm=>exact .nilm
 |map h1 h2=>simp only[AV.top]at ht;exact .map (hp _ _ (by omega) h1) h2
 |func h1 h2 _ _ ih1 ih2=>
  simp only[AV.top,qD]at ht;simp only[Ev.ren,fY];refine .func (by simp_all) (by simp_all) (fun j y hj=>?_) (fun j y hj=>?_)
  ·obtain⟨z,e,rfl⟩:=gt hj;exact ih1 j z e (dC.1 ht.1 z (bh e))
  ·obtain⟨z,e,rfl⟩:=gt hj;exact ih2 j z e (dC.1 ht.2 z (bh e))
 |nilf=>exact .nilf
 |iface _ ih=>simp only[AV.top]at ht;exact .iface (ih ht)
 |nili=>exact .nili
 |agg h1 h2 _ ih=>
  simp only[AV.top]at ht;simp only[Ev.ren,fY];refine .agg (by simp_all) (fun y hy=>?_) (fun j y hj=>?_)
  ·grind[oq]
  ·obtain⟨z,e,rfl⟩:=gt hj;exact ih j z e (dC.1 ht z (bh e))
 |tuple h1 _ ih=>
  simp only[AV.top]at ht;simp only[Ev.ren,fY];refine .tuple (by simp_all) (fun j y hj=>?_);obtain⟨z,e,rfl⟩:=gt hj;exact ih j z e (dC.1 ht z (bh e))
def ep0:AObj->Bool
 | .row _ _ e _=>Nat.beq e 0
 | .map _ _=>true
 |_=>false
theorem bb.ep0{pl:Pl}{M:dl}{p:Place}{o:AObj}{x:Option Obj}(h:bb pl M p o x)(he:Ev.ep0 o=true):p.ep=0:=by
 match o,x with
 | .row sz op ep xs,some (.cells c t fr)=>rw[h.1];exact pF he
 | .map es clock,some (.map entries clock')=>exact h.1
theorem VG{ρ:Nat->Nat}{o:AObj}:ep0 (kU ρ o)=ep0 o:=by cases o<;>rfl
theorem bb.unren{ρ:Nat->Nat}{n:Nat}{pl pl2:Pl}{M:dl}{o:AObj}{p:Place}{x:Option Obj}(h:bb pl2 M p o x)(he:Ev.ep0 o=true)(hp:∀id p,id<n->pl2 id=some p->pl (ρ id)=some p)(ht:o.top<=n):bb pl M p (kU ρ o) x:=by
 match o,x with
 | .row sz op ep xs,some (.cells c t fr)=>
  obtain⟨h1,h2,h3,h4,h5,h6,h7,h8⟩:=h;simp only[AObj.top]at ht;have gt:∀{xs:List AV}{i:Nat}{z:AV},(xs.map (Ev.ren ρ))[i]?=some z->∃y,xs[i]?=some y/\z=Ev.ren ρ y:=by grind
  simp only[kU,fY];refine⟨h1,h2,by simp_all,h4,h5,h6,by simp_all,⟨by simpa using h8.fit,fun y hy=>?_,fun i z j y k1 k2=>?_⟩⟩
  ·obtain⟨z,hz,rfl⟩:=gn.1 hy;obtain⟨q1,q2⟩:=h8.elem z hz;rw[gX];refine⟨by simp_all,fun u hu=>?_⟩;rw[gX]at hu;obtain⟨z,hz,rfl⟩:=gn.1 hu;rw[oq];exact q2 z hz
  ·obtain⟨z0,e1,rfl⟩:=gt k1;rw[gX]at k2;obtain⟨y0,e2,rfl⟩:=gt k2;exact(h8.cell i z0 j y0 e1 e2).unren hp (lU (dC.1 ht z0 (bh e1)) (bh e2))
 | .map es clock,some (.map entries clock')=>
  obtain⟨h1,h2,h3,h4⟩:=h;simp only[AObj.top]at ht;simp only[kU,qp];refine⟨h1,h2,by simp_all,fun i e hi=>?_⟩;rw[qq]at hi;cases hx:es[i]? with
  |none=>grind
  |some e0=>
   rw[hx]at hi;cases hi
   obtain⟨e',k1,k2,k3,k4⟩:=h4 i e0 hx;have:=pm.1 ht e0 (bh hx);exact⟨e',k1,k2.unren hp this.1,k3.unren hp this.2,k4⟩
theorem aE.frame{P:Program}{G:eB}(hG:iT G){f:FuncId}{args:List AV}{v:AV}(ρ:Nat->Nat){L L':List AObj}(hl:L'.length=L.length)
  (hL:∀o,o∈L->ep0 o=true/\o.top<=L.length)(hL':∀o,o∈L'->ep0 o=true/\o.top<=L.length)(hm:∀i o,L'[i]?=some o->(aa L').get i=some o)(ht:aq args<=L.length)(hv:v.top<=L.length)
  (hi:∀i j,i<L.length->j<L.length->ρ i=ρ j->i=j)
  (h0:aE P G f args (aa L) (fun v1 h1=>v1=v/\h1=aa L')){h h':AHeap}(hg:∀i o,L[i]?=some o->h.get (ρ i)=some (kU ρ o))
  (hg':∀k o,h'.get k=some o->(∃i o',L'[i]?=some o'/\k=ρ i/\o=kU ρ o')\/((∀i,i<L.length->k≠ρ i)/\h.get k=some o))(hn:h'.n=h.n):
  aE P G f (mV ρ args) h (fun v1 h1=>v1=Ev.ren ρ v/\h1=h'):=by
 intro pl M w vs hG1 hr hvs;obtain⟨n,en⟩:∃n,n=L.length:=⟨_,rfl⟩
 rw[<-en]at hL hL' ht hi hg' hv;have hat:∀i,i<n->∃o,L[i]?=some o/\o∈L:=fun i h=>⟨L[i],kE (by omega),DM _⟩
 have hat':∀i,i<n->∃o,L'[i]?=some o/\o∈L':=fun i h=>⟨L'[i]'(by omega),kE (by omega),DM _⟩
 have hpl1:∀k q,jP ρ n pl k=some q->k<n/\pl (ρ k)=some q:=fun k q hk=>by grind[jP]
 have hnH:(aa L).n=n:=en.symm;have hnH':(aa L').n=n:=hl.trans en.symm;have hr1:ct (jP ρ n pl) M (aa L) w:=by
  refine⟨fun k q hk=>?_,fun k q o hk hgo=>?_,fun k q hk=>?_,fun k k' q q' hk hk' e=>?_,hr.imm,fun k q hk=>?_⟩
  ·simp_all
  ·obtain⟨hk1,hk2⟩:=hpl1 k q hk;have:=nL hgo;exact(hr.obj (ρ k) q _ hk2 (hg k o this)).ren (hL o (bh this)).2
  ·exact hr.blk _ q (hpl1 k q hk).2
  ·obtain⟨a1,a2⟩:=hpl1 k q hk;obtain⟨b1,b2⟩:=hpl1 k' q' hk';exact hi k k' a1 b1 (hr.inj _ _ q q' a2 b2 e)
  ·exact hr.sep _ q (hpl1 k q hk).2
 have hvs1:VRels (jP ρ n pl) M args vs:=⟨by rw[<-hvs.len,fY,b9],fun j y hj=>(hvs.at_ j (Ev.ren ρ y) (by grind[fY])).ren rfl (dC.1 ht y (bh hj))⟩
 have hG1':pE G (jP ρ n pl) M:=hG1.none hG;have fin:∀cv w',iX (jP ρ n pl) M (aa L) w v (aa L') cv w'->iX pl M h w (Ev.ren ρ v) h' cv w':=by
  intro cv w' ⟨pl2,M2,k1,k2,k3,k4⟩;have kept:∀b,b<w.heap.size->(∀i q,i<n->pl (ρ i)=some q->q.blk≠b)->w'.heap[b]?=w.heap[b]?:=fun b hb hne=>k3.kept b hb fun k q hk _=>hne k q (hpl1 k q hk).1 (hpl1 k q hk).2
  have same:∀i,i<n->pl2 i=pl (ρ i):=by
   intro i hin;cases hp:pl (ρ i)with
   |none=>exact k3.new i (by omega) (by simp_all[jP])
   |some p=>
    obtain⟨p2,e1,e2,e3⟩:=k3.ext i p (uJ hin hp);obtain⟨o,h1,h2⟩:=hat i hin;obtain⟨o',h1',h2'⟩:=hat' i hin;have q1:p.ep=0:=(hr.obj (ρ i) p _ hp (hg i o h1)).ep0 (by grind[VG]);have q2:p2.ep=0:=(k2.obj i p2 o' e1 (hm i o' h1')).ep0 (hL' o' h2').1;simp_all
  have hun:∀id p,id<n->pl2 id=some p->pl (ρ id)=some p:=fun id p h1 h2=>by simp_all
  refine⟨pl,M2,k1.unren hun hv,⟨fun k q hk=>by rw[hn];exact hr.dom k q hk,fun k q o hk hgo=>?_,fun k q hk=>Ft (hr.blk k q hk) k3.size,hr.inj,k2.imm,fun k q hk=>?_⟩,⟨nE.refl _,fun _ _ h=>h,k3.mem,k3.size,fun b hb hk=>kept b hb fun i q hin hp e=>?_,fun k q hk=>.inl ⟨q,hk,rfl⟩,fun k q hk hno=>?_,fun _ _ h _=>h,k3.memNew,k3.os,k3.tape,k3.out,k3.drawn⟩,wl hn.symm⟩
  ·rcases hg' k o hgo with⟨i,o',h1,rfl,rfl⟩|⟨hne,hgo⟩
   ·have hin:i<n:=by grind
    have hm':=bh h1;exact(k2.obj i q o' (by simp_all) (hm i o' h1)).unren (hL' o' hm').1 hun (hL' o' hm').2
   ·rw[kept _ (hr.blk k q hk) fun i q' hin hp e=>hne i hin (hr.inj _ _ q q' hk hp e.symm)];exact(hr.obj k q o hk hgo).mono (nE.refl _) k3.mem
  ·cases hM:M2 q.blk with
   |none=>rfl
   |some c2=>
    rcases k3.memNew _ c2 hM with k5|k5
    ·rw[hr.sep k q hk]at k5;grind
    ·have:=hr.blk k q hk;omega
  ·grind
  ·cases hq:h'.get k with
   |none=>rfl
   |some o=>grind
 rcases h0 (jP ρ n pl) M w vs hG1' hr1 hvs1 with⟨h1,h2⟩|⟨cv,w',v1,h1,q1,⟨q2,q3⟩,q4⟩
 ·exact .inl ⟨h1,Calls.mono h2 fun e w' ⟨cv,v1,h1,k1,⟨k2,k3⟩,k4⟩=>⟨cv,Ev.ren ρ v,h',k1,⟨rfl,rfl⟩,by simp_all⟩⟩
 ·exact .inr ⟨cv,w',Ev.ren ρ v,h',q1,⟨rfl,rfl⟩,by simp_all⟩
section
variable{P:Program}{G:eB}{call:cJ}{m:Nat}{c:Code}{d:D}{s s':St}{ops:Array Oper}
theorem EB(hm:P.follows .mixedOrders=true)(hG:iT G)(hc:co P G call)(d:D)(e:(WP P G call m c).run d s (fun e _ s=>e=.normal/\s=s')=(AExit.normal=.normal/\s'=s')):am P G (some m) c s (fun e s=>e=.normal/\s=s'):=XX hm hG hc c d s _ _ (e▸⟨rfl,rfl⟩) fun _ _ _ _ h=>h
theorem yz(hG:iT G)(hc:co P G call){id:Nat}{Ψ:St->Prop}(d:D){W:Prop}(p:W)(e:ZK P G call m ops ops.toList d s (fun _ s=>Ψ s)=W):am P G (some m) (.region id ops false) s (fun e s=>e=.normal/\Ψ s):=am.region (fc hG hc _ d s _ (e▸p) fun _ _ _ h=>⟨rfl,h⟩)
end
section
variable{P:Program}{G:eB}{ops:Array Oper}{o:Oper}{l:List Oper}{s:St}{b:Option Nat}
theorem rS{Y:Type}{I:Y->Prop}{r:Y->AV}{H:Y->AHeap}{Φ:St->Prop}(hg:ez s.tmps (dT ops o)=some true)
  (hO:∀(pl:Pl)(M:dl)(a:Act)(w:World),pE G pl M->ct pl M s.heap w->FrRel pl M s.tmps a->∃y pl' M' cv w',I y/\(execOp a.eval o).run P w=.ok (.value cv) w'/\VRel pl' M' (r y) cv/\ct pl' M' (H y) w'/\cO s.heap pl M w (H y) pl' M' w'/\s.heap.n<=(H y).n)
  (h:∀y,I y->∃A',ie s.tmps o.dst (r y)=some A'/\b8 P G b ops l ⟨A',H y⟩ Φ):b8 P G b ops (o::l) s Φ:=by
 intro i N h0' pl0 M0 w0 a w Q hb hl' hs hQ;have ho:ops[i]?=some o:=by simpa using hl' 0
 obtain⟨pl,M,g1,g2,g3,g4,g5⟩:=hs.ex;simp only[cM,yF,wpOps,ho];rw[fQ g3 hg];simp only[if_true];left;obtain⟨y,pl',M',cv,w',i1,i2,i3,i4,i5,i6⟩:=hO pl M a w g1 g2 g3;obtain⟨A',e1,e2⟩:=h y i1;obtain⟨p1,p2⟩:=ly (g3.mono i5.ext i5.mem) i3 (by rw[hs.n];exact hs.small) e1;have nxt:=e2 (i+1) N h0' pl0 M0 w0 (a.put o.dst cv) w' Q hb (fun j=>by have:=hl' (j+1);grind)
  ⟨⟨pl',M',g1.mono i5.ext i5.mem,i4,p1,g4.trans i5 g5,bO g5 i6⟩,by rw[<-hs.n];omega,hs.small⟩ hQ
 unfold Oper.wp;rw[i2];exact nxt
theorem vk{t tx e:TypeId}{i:TypeInfo}{sz bt:Nat}(hsz:i.size=sz)(hbt:i.bytes=bt){z z0:AV}{sO xO:Operand}{dst:Option Tmp}{ty:TypeId}{pos:String}{after:Array Edge}{guard:Option (Nat×Bool)}{xs:List AV}
  (ht:P.underlying t=some (.slice e))(hk:∃e',P.underlying tx=some (.slice e'))(hi:P.info? e=some i)(hz:ia P e=some z0)(hzl:Le z z0)
  (hs:(cj G sO).run s.tmps=some (.ps [] true))(hx:(cj G xO).run s.tmps=some (.ls xs))(hne:xs≠[])(hfit:dA sz xs=true)(hzf:dA sz [z]=true)(hsm:small xs.length bt=true)(hs0:0<sz)
  (pl:Pl)(M:dl)(a:Act)(w:World)(g1:pE G pl M)(g2:ct pl M s.heap w)(g3:FrRel pl M s.tmps a):
  ∃(k:Nat)(pl':Pl)(M':dl)(cv:Value)(w':World),True/\(execOp a.eval ⟨dst,.call ⟨.builtin .append,#[sO,xO],#[t,tx]⟩,ty,pos,after,guard⟩).run P w=.ok (.value cv) w'/\
   VRel pl' M' (.slice s.heap.n 0 0 xs.length (some (xs.length+k))) cv/\ct pl' M' (s.heap.push (.row sz false 0 (xs++List.replicate k z))) w'/\cO s.heap pl M w (s.heap.push (.row sz false 0 (xs++List.replicate k z))) pl' M' w'/\s.heap.n<=(s.heap.push (.row sz false 0 (xs++List.replicate k z))).n:=by
 subst hsz;subst hbt;have hsr:=bZ g1 g3 hs;have hxr:=bZ g1 g3 hx;obtain⟨news,hsrc⟩:=zk (P:=P) g2 hxr (show kF s.heap (.ls xs)=some xs from rfl) hne hfit;obtain⟨i2,zv,hz1,hz2,hz3⟩:=mF hz;rw[hi]at hz1;cases hz1
 obtain⟨b1,b2⟩:=ju hsm;have hpos:0<xs.length:=qU.2 hne;generalize hq:a.eval sO=cs at hsr;generalize hq2:a.eval xO=cx at hxr hsrc;cases hsr with
 | ps hl htt hm hs2 hc=>
  rename_i ad cap sz c;have hcap:cap=0:=htt rfl;subst hcap;have hzr:=hzl _ _ _ (dj (pl:=pl) (M:=M) hz3);have hzt:=mh hzf z (by simp);have hzsz:zv.cells.size=i.size:=by rw[<-hzr.cells.len];omega
  have hrun:=run_append_grow_src (P:=P) w t tx ty e i zv ht hi hz2 (some ad) 0 0 [] (by simp[Builtin.firstCells,loadCells,loadCellsFrom]) cx xs.length news (hsrc.src (.inl hk)) (by omega) (by omega) (growslice_fits (by omega) (by grind));have hge:=grownCap_ge w (0+xs.length) 0 e;obtain⟨C,hC⟩:∃C,C=grownCap w (0+xs.length) 0 e:=⟨_,rfl⟩
  rw[<-hC]at hrun hge;have hin:=fJ hzr hzt.2 (C-(0+xs.length)) hzt.1 hs0;have hzl:(Builtin.zeroCells zv.cells (C-(0+xs.length))).toList.toArray=(Array.range ((C-(0+xs.length))*i.size)).map (zv.cells[· %zv.cells.size]!):=by grind[Builtin.zeroCells]
  have hnl:(Builtin.zeroCells zv.cells (C-(0+xs.length))).toList.length=(List.replicate (C-(0+xs.length)) z).length *i.size:=by grind[Builtin.zeroCells]
  have hin2:=kc (news:=(Builtin.zeroCells zv.cells (C-(0+xs.length))).toList) hsrc.mem (by grind) hsrc.newsLen hnl #[];have hce:(news++(Builtin.zeroCells zv.cells (C-(0+xs.length))).toList).toArray++#[]=([]++news).toArray++Builtin.zeroCells zv.cells (C-(0+xs.length)):=by grind
  rw[hce]at hin2;have hcs:(([]++news).toArray++Builtin.zeroCells zv.cells (C-(0+xs.length))).size=(xs++List.replicate (C-(0+xs.length)) z).length *i.size:=by simp only[yG,FA,Cw,hsrc.newsLen,size_zeroCells,hzsz,eX,qY,jI]
  obtain⟨cells,hcells⟩:∃cells,cells=([]++news).toArray++Builtin.zeroCells zv.cells (C-(0+xs.length)):=⟨_,rfl⟩
  rw[<-hcells]at hrun hin2 hcs;have hxl:(xs++List.replicate (C-(0+xs.length)) z).length=C:=by grind
  let p:Place:=⟨w.heap.size,0,i.size,C,C*i.size⟩
  have hwd:(w.drew.alloc (.cells cells e)).heap=w.heap.push (.cells cells e):=rfl;obtain⟨r1,r2⟩:=ct.alloc (o:=.row i.size false 0 (xs++List.replicate (C-(0+xs.length)) z)) (p:=p) g2 hwd ⟨rfl,rfl,rfl,nG _⟩ rfl
   ⟨rfl,rfl,hxl.symm,by grind,rfl,hs0,fun _=>hcs,hin2.mono (fun id q hq=>⟨q,by rw[cT (by have:=g2.dom id q hq;omega)];omega,af _,fun _=>rfl⟩) (fun _ _ h=>h)⟩
  refine⟨C-(0+xs.length),upd pl s.heap.n p,M,.slice (some ⟨w.heap.size,0,none⟩) (0+xs.length) C,w.drew.alloc (.cells cells e),trivial,?_,?_,r1,r2,nG _⟩
  ·simp only[execOp,resolve,invoke,builtin,Sem.run_bind,Sem.run_pure,Result.andThen_ok,List.map_toArray,eg,wg,hq,hq2];show(Sem.run P (Builtin.append_ #[t,tx] ty #[Value.slice (some ad) 0 0,cx]) w).andThen _=_
   rw[hrun];rfl
  ·rw[fL]at hge ⊢;refine .slice (dP _ _ _) (af _) hge (fun k hk=>by grind) (fun _=>⟨.inr (by grind),by grind,by grind,(fun hk=>by grind),(fun k hk=>by grind)⟩)
end
section
variable{s id ep off len c l h m a b d sz bt i n k:Nat}{hp H:AHeap}{xs ys zs new:List AV}{lo hi mx cap:Option Nat}{op:Bool}{x z:AV}{vl vh vm:Option AV}
theorem iq(hg:qh s hp id ep=some xs)(h1:jK 0 vl=some l)(h2:jK len vh=some h)(q1:l<=h)(q2:h<=c)(q3:c≠l)(e1:off+l=a)(e2:h-l=b)(e3:c-l=d):
  bc H (dq s hp (some (.slice id ep off len (some c))) vl vh none)=some (.val (.slice id ep a b (some d)) H):=by
 have p1:Nat.ble l h=true:=tD q1;have p2:Nat.ble h c=true:=tD q2;have p3:Nat.beq c l=false:=by grind[ao]
 simp only[dq,gV,hg,h1,h2,room,pP,p1,p2,p3,yH,e1,e2,e3,bc]
theorem EX(hg:qh s hp id ep=some xs)(h1:jK 0 vl=some l)(h2:fP x=some h)(h3:fP z=some m)(q1:l<=h)(q2:h<=m)(q3:m<=c)(q4:m≠l)(e1:off+l=a)(e2:h-l=b)(e3:m-l=d):
  bc H (dq s hp (some (.slice id ep off len (some c))) vl (some x) (some z))=some (.val (.slice id ep a b (some d)) H):=by
 have p1:Nat.ble l h=true:=tD q1;have p2:Nat.ble h m=true:=tD q2;have p3:Nat.beq m l=false:=by grind[ao]
 simp_all[tD,dq,gV,room,pP,bc]
theorem Lg(hg:qh s hp id ep=some xs)(h1:jK 0 vl=some l)(h2:jK len vh=some h)(q1:l=h)(q3:c=l):
  bc H (dq s hp (some (.slice id ep off len (some c))) vl vh none)=some (.val (.slice id ep 0 0 (some 0)) H):=by
 subst q1;subst q3;have p1:Nat.ble c c=true:=tD (af _);have p3:Nat.beq c c=true:=qV _;simp only[dq,gV,hg,h1,h2,room,pP,p1,p3,yH,bc]
theorem Lf(hg:qh s hp id ep=some xs)(h1:jK 0 vl=some l)(h2:jK len vh=some h)(q1:l<=h)(q2:h+off<=xs.length)(e1:off+l=a)(e2:h-l=b):
  bc H (dq s hp (some (.slice id ep off len none)) vl vh none)=some (.val (.slice id ep a b none) H):=by
 grind[Nat.ble_eq_true_of_le,dq,gV,room,pP,bc]
theorem zj(hg:H.get id=some (.row sz op ep xs))(e:(xs.drop off).take len=zs):kF H (.slice id ep off len cap)=some zs:=by grind[Nat.beq_refl,kF,km]
theorem Wr{xs ys:List AV}{n:Nat}(h:xs.length=n):((xs++ys).drop 0).take n=xs:=by simp_all
theorem wF{xs:List AV}{t:Bool}{n:Nat}(h:aq xs=0):Nat.ble (AV.ps xs t).top n=true:=by simp_all[AV.top]
theorem Nb(hg:H.get id=some (.row sz op ep xs))(hx:kF H x=some new)(hf:dA sz new=true)(hne:new≠[])(hc:len+new.length<=c)(hl:off+len+new.length<=xs.length)(hs:small (len+new.length) bt=true)(e1:len+new.length=n)(e2:bM xs (off+len) new=ys):
  fq (dc sz bt H (some (.slice id ep off len (some c))) (some x))=some (.val (.slice id ep off n (some c)) (H.put id (.row sz op ep ys))):=by
 subst e1;cases new with
 |nil=>simp_all
 |cons y r=>simp_all[tD,dc,gy,gT,fq]
theorem TK(hx:kF H x=some []):fq (dc sz bt H (some (.slice id ep off len cap)) (some x))=some (.val (.slice id ep off len cap) H):=by grind[dc,gy,gT,fq]
theorem Wq(hg:H.get id=some (.row sz op ep xs))(hx:kF H x=some new)(hf:dA sz new=true)(hne:new≠[])(hc:c<len+new.length)(hs:small (len+new.length) bt=true)(e1:(xs.drop off).take len++new=ys)(e2:ys.length=n):
  fq (dc sz bt H (some (.slice id ep off len (some c))) (some x))=some (.val (.slice H.n 0 0 n none) (H.push (.row sz true 0 ys))):=by
 cases new with
 |nil=>simp_all
 |cons y r=>
  have p1:Nat.beq ep ep=true:=qV ep;have p2:Nat.beq sz sz=true:=qV sz;have p3:Nat.ble (len+(y::r).length) c=false:=by grind[bU]
  simp_all[dc,gy,gT,ic,fq]
theorem UD(hg:H.get id=some (.row sz op ep xs))(hk:0<k)(hc:c<len+k)(hf:dA sz [z]=true)(hs:small (len+k) bt=true)(hs2:small k bt=true)(e1:(xs.drop off).take len++List.replicate k z=ys)(e2:ys.length=n):
  fq (C6 sz bt z H (some (.slice id ep off len (some c))) (some (.int .i64 (.ofNat k))))=some (.val (.slice H.n 0 0 n none) (H.push (.row sz true 0 ys))):=by
 have p1:Nat.beq ep ep=true:=qV ep;have p2:Nat.beq sz sz=true:=qV sz;grind[Nat.ble_eq_true_of_le,Nat.blt,C6,L3,ic,fq]
theorem NY(hg:H.get id=some (.row sz op ep xs))(hx:kF H x=some zs)(hf:dA sz (zs.take len)=true)(e1:min zs.length len=k)(e2:bM xs off (zs.take len)=ys):
  fq (vW sz H (some (.slice id ep off len cap)) (some x))=some (.val (.int .i64 (.ofNat k)) (H.put id (.row sz op ep ys))):=by
 grind[Nat.beq_refl,vW,NU,fq]
theorem KD(hg:H.get id=some (.row sz op ep xs))(hf:dA sz [z]=true)(e2:bM xs off (List.replicate len z)=ys):
  fq (wj sz z H (some (.slice id ep off len cap)))=some (.val gj (H.put id (.row sz op ep ys))):=by
 grind[Nat.beq_refl,wj,fq]
theorem rC{sz:Nat}:∀{xs:List AV}{n:Nat},dA sz xs=true->dA sz (xs.take n)=true
 |[],n,h=>by simp_all
 |x::r,0,_=>rfl
 |x::r,n+1,h=>by
  simp only[List.take_succ_cons,dA,bz]at h ⊢;exact⟨h.1,rC h.2⟩
theorem rD{sz:Nat}:∀{xs:List AV}{n:Nat},dA sz xs=true->dA sz (xs.drop n)=true
 |[],n,h=>by simp_all
 |x::r,0,h=>h
 |x::r,n+1,h=>by
  simp only[List.drop_succ_cons,dA,bz]at h ⊢;exact rD h.2
end
theorem BP{P:Program}{G:eB}{f:FuncId}{fn:Func}{tS tR e:TypeId}{n:Nat}(hf:P.funcs[f]?=some fn)(hname:(fn.name== "runtime.NumGoroutine")=false)(hb:fn.body.isNone=true)(hn:Extern.findNext fn=none)(he:Extern.find fn=some (Extern.SlicesOverlaps.overlaps #[tS,tS] #[tR]))
  (ht:P.underlying tS=some (.slice e))(hi:cP P e=some n){xs ys:List AV}{t:Bool}{id off len c sz:Nat}{op:Bool}{h:AHeap}(hne:xs≠[])(hgo:h.get id=some (.row sz op 0 ys)):
  aE P G f [.ps xs t,.slice id 0 off len (some c)] h (fun v h'=>v=.bool false/\h'=h):=by
 intro pl M w vs hG hr hv;right;refine⟨.bool false,w,.bool false,h,?_,⟨rfl,rfl⟩,pl,M,.bool false,hr,cO.refl _ _ _ _,af _⟩;have v0:=hv.at_ 0 _ rfl;have v1:=hv.at_ 1 _ rfl;have hvs:vs=#[vs.getD 0 undef,vs.getD 1 undef]:=by
  have hl:vs.size=2:=hv.len.symm;apply Array.ext
  ·omega
  ·intro i h1 h2
   match i,h2 with
   |0,_=>simp_all
   |1,_=>simp_all
 rw[run_callFunc_extern hf hname hb hn he,hvs];generalize vs.getD 0 undef=x0 at v0;generalize vs.getD 1 undef=x1 at v1;cases v0 with
 | ps hl htt hm hs hc=>
  rename_i a cap0 sz0 c0;obtain⟨m1,m2,m3,m4⟩:=hm hne;have hpos:0<xs.length:=qU.2 hne;cases v1 with
  | slice hp hep hl1 hk ha=>
   rename_i cap1 b p;have hcap:=hk c rfl;subst hcap;obtain⟨tA,frA,hA⟩:=hr.imm _ _ m2;have ho:=hr.obj id p _ hp hgo;obtain⟨cB,tB,hB,hpe⟩:∃cB tB,w.heap[p.blk]?=some (.cells cB tB (0,0))/\p.ep=0:=by
    cases hb2:w.heap[p.blk]? with
    |none=>rw[hb2]at ho;exact ho.elim
    |some ob=>
     rw[hb2]at ho;cases ob with
     |cells cB tB fr=>obtain⟨h1,_,_,_,h5,_⟩:=ho;grind
     |_=>exact ho.elim
   have hsep:=hr.sep id p hp;have hsz:=cF hi w;have hc0:c0.size≠0:=by
    have:0<xs.length*sz0:=Nat.mul_pos hpos m4;omega
   obtain⟨q1,-⟩:=ha hpe.symm
   suffices hh:(Extern.SlicesOverlaps.overlaps #[tS,tS] #[tR] #[.slice (some a) xs.length cap0,.slice (some b) len cap1]).run P w=.ok (.bool false) w by rw[hh];rfl
   generalize xs.length=la;change Sem.run P (α:=Value) (do
    let some t:=(#[tS,tS]:Array TypeId)[0]?|stuck "slices.overlaps: no parameter types"
    let .slice elem <-underlying t|stuck "slices.overlaps: slice type expected"
    let size <-sizeOf elem
    match(some a:Option Addr),(some b:Option Addr)with
    | some a,some b=>
     if la=0\/len=0\/size=0 then pure (Value.bool false)
     else if a.block !=b.block&&(<-frozen a)&&(<-frozen b)then unsupported .addressObserved
     else do
      if a.block !=b.block then do
       noView a;noView b
       if <-mayBeOne a b then return Value.bool ((<-choose (.extern "sameAddr.stringBytes" 2))==1)
      pure (Value.bool (a.block==b.block&&a.off<b.off+len*size&&b.off<a.off+la*size))
    |_,_=>pure (Value.bool false)) w=_
   by_cases h0:la=0\/len=0\/n=0
   ·simp[run_underlying ht,hsz,h0]
   ·have hbk:b=⟨p.blk,off*p.sz,none⟩:=by grind
    subst hbk;have hnb:a.block≠p.blk:=fun e=>by grind
    have hnb1:(a.block !=p.blk)=true:=by grind
    have hnb2:(a.block==p.blk)=false:=by grind
    have f1:∀o,w.frozen? ⟨p.blk,o,none⟩=false:=fun o=>by grind[World.frozen?]
    have s1:w.shape? a.block=some (tA,c0.size):=by grind[World.shape?]
    have s2:w.shape? p.blk=some (tB,cB.size):=by grind[World.shape?]
    cases hsx:c0.size with
    |zero=>omega
    |succ kA=>
     rw[hsx]at s1;cases hfa:w.frozen? a<;>cases hfb:w.frozen? {block:=a.block,off:=kA+1}<;>
     simp[run_underlying ht,hsz,h0,hnb1,hnb2,frozen,noView,viewAt,mayBeOne,stringish,shape,Sem.run,s1,s2,f1,hfa,hfb]
def Ua(rs:List Nat):AHeap->List AObj->Nat->AHeap
 |h,[],_=>h
 |h,o::r,i=>Ua rs (h.put (f8 rs i) (kU (f8 rs) o)) r (i+1)
def Y7(rs:List Nat)(h:AHeap):List AObj->Nat->Prop
 |[],_=>True
 |o::r,i=>h.get (f8 rs i)=some (kU (f8 rs) o)/\Y7 rs h r (i+1)
def RS(h:AHeap):List AObj->Nat->Prop
 |[],_=>True
 |o::r,i=>h.get i=some o/\RS h r (i+1)
def D0(n:Nat):List AObj->Prop
 |[]=>True
 |o::r=>(ep0 o=true/\o.top<=n)/\D0 n r
theorem Qn(rs:List Nat):∀(l:List AObj)(h:AHeap)(i:Nat),(Ua rs h l i).n=h.n
 |[],_,_=>rfl
 |_::r,h,i=>Qn rs r _ (i+1)
theorem Nw{rs:List Nat}{h:AHeap}:∀{l:List AObj}{i j:Nat}{o:AObj},Y7 rs h l i->l[j]?=some o->h.get (f8 rs (i+j))=some (kU (f8 rs) o)
 |x::r,i,0,o,a,e=>by simp at e;subst e;exact a.1
 |x::r,i,j+1,o,a,e=>by
  have:=Nw (i:=i+1) (j:=j) a.2 (by simpa using e);grind
theorem Hc{h:AHeap}:∀{l:List AObj}{i j:Nat}{o:AObj},RS h l i->l[j]?=some o->h.get (i+j)=some o
 |x::r,i,0,o,a,e=>by simp at e;subst e;exact a.1
 |x::r,i,j+1,o,a,e=>by
  have:=Hc (i:=i+1) (j:=j) a.2 (by simpa using e);grind
theorem vp{n:Nat}:∀{l:List AObj},D0 n l->∀o,o∈l->ep0 o=true/\o.top<=n
 |x::r,a,o,e=>by
  rcases dO.1 e with rfl|e
  ·exact a.1
  ·exact vp a.2 o e
theorem Gm{rs:List Nat}:∀{l:List AObj}{h:AHeap}{i k:Nat}{o:AObj},(∀j,j<l.length->f8 rs (i+j)<1000000)->(Ua rs h l i).get k=some o->
  (∃j o',l[j]?=some o'/\k=f8 rs (i+j)/\o=kU (f8 rs) o')\/((∀j,j<l.length->k≠f8 rs (i+j))/\h.get k=some o)
 |[],h,i,k,o,_,e=>.inr ⟨fun j hj=>absurd hj (pG _),e⟩
 | x::r,h,i,k,o,hb,e=>by
  rcases Gm (l:=r) (i:=i+1) (fun j hj=>by have:=hb (j+1) (by simp_all);grind) e with⟨j,o',h1,h2,h3⟩|⟨h1,h2⟩
  ·exact .inl ⟨j+1,o',by simp_all,by grind,h3⟩
  ·rcases AHeap.get_put (by have:=hb 0 (Nat.zero_lt_succ _);omega) h2 with⟨h3,h4⟩|⟨h3,h4⟩
   ·exact .inl ⟨0,x,rfl,h3,h4⟩
   grind
theorem Hj{q:Nat->Bool}:∀{rs:List Nat}{i:Nat},rs.all q=true->i<rs.length->q (f8 rs i)=true
 |x::r,0,h,_=>by simp only[List.all_cons,bz]at h;exact h.1
 |x::r,i+1,h,hi=>by
  simp only[List.all_cons,bz]at h;exact Hj (rs:=r) (i:=i) h.2 (by simp_all)
theorem pD{P:Program}{G:eB}(hG:iT G){f:FuncId}{args args':List AV}{v v':AV}{L L' os os':List AObj}(rs:List Nat)
  (h0:aE P G f args (aa L) (fun v1 h1=>v1=v/\h1=aa L'))(ea:mV (f8 rs) args=args')(ev:Ev.ren (f8 rs) v=v')
  (c:(zE rs&&(Nat.beq rs.length L.length&&(Nat.beq L'.length L.length&&rs.all fun x=>Nat.blt x 1000000)))=true)
  (hL:D0 L.length L)(hL':D0 L.length L')(ht:aq args<=L.length)(hv:v.top<=L.length)
  (a1:Y7 rs (aa os) L 0)(a2:RS (aa L') L' 0)(a3:aa os'=Ua rs (aa os) L' 0):aE P G f args' (aa os) (fun v1 h1=>v1=v'/\h1=aa os'):=by
 simp only[bz,ao,decide_eq_true_eq]at c;obtain⟨c1,c2,c3,c4⟩:=c;subst ea;subst ev;rw[a3];refine aE.frame hG (f8 rs) c3 (vp hL) (vp hL') (fun i o hi=>by have:=Hc a2 hi;simp_all) ht hv (fun i j hi hj=>rg c1 i j (by omega) (by omega)) h0
  (fun i o hi=>by have:=Nw a1 hi;simp_all) (fun k o hk=>?_) (Qn rs L' _ 0)
 rcases Gm (fun j hj=>by have:=Hj c4 (show 0+j<rs.length by omega);simp_all) hk with⟨j,o',h1,h2,h3⟩|⟨h1,h2⟩
 all_goals grind
theorem vE{ρ:Nat->Nat}{sz ep:Nat}{b:Bool}{xs:List AV}(h:aq xs=0):kU ρ (.row sz b ep xs)=.row sz b ep xs:=by grind[kU,fX]
theorem fe{P:Program}{G:eB}(hG:iT G){f:FuncId}{args args':List AV}{v v':AV}{sz:Nat}{b b':Bool}{xs xs':List AV}{os os':List AObj}(id:Nat)(hx:aq xs=0)(hx':aq xs'=0)
  (h0:aE P G f args (aa [.row sz b 0 xs]) (fun v1 h1=>v1=v/\h1=aa [.row sz b' 0 xs']))(ea:mV (f8 [id]) args=args')(ev:Ev.ren (f8 [id]) v=v')(c:Nat.blt id 1000000=true)
  (ht:Nat.ble (aq args) 1=true)(hv:Nat.ble v.top 1=true)(a1:(aa os).get id=some (.row sz b 0 xs))(a3:aa os'=(aa os).put id (.row sz b' 0 xs')):aE P G f args' (aa os) (fun v1 h1=>v1=v'/\h1=aa os'):=
 pD hG [id] h0 ea ev (by simp only[zE,jU,List.all_cons,List.all_nil,c];rfl) ⟨⟨rfl,by grind[AObj.top]⟩,trivial⟩ ⟨⟨rfl,by grind[AObj.top]⟩,trivial⟩ (vf ht) (vf hv)
  ⟨by rw[vE hx];exact a1,trivial⟩ ⟨rfl,trivial⟩ (by rw[a3];show _=AHeap.put _ _ (kU _ _);rw[vE hx'];rfl)
def jD(u:TUnit)(ks:List TUnit):TUnit:=⟨u.act,u.item,u.n,u.kind,u.label,u.head,u.words,ks⟩
def lx(w:List PWord)(u:TUnit):TUnit:=⟨u.act,u.item,u.n,u.kind,u.label,u.head,w,u.kids⟩
def wW(w:List PWord)(u:TUnit):TUnit:=⟨u.act,u.item,u.n,u.kind,u.label,w,u.words,u.kids⟩
def nM(s:aH)(u:TUnit):TUnit:=⟨u.act,u.item,u.n,u.kind,s,u.head,u.words,u.kids⟩
def uF(i:Nat)(x:TUnit)(l:List TUnit):List TUnit:=l.take i++(x::l.drop i)
def dg(i:Nat)(u:TUnit):TUnit:=jD u (u.kids.eraseIdx i)
def dQ(i:Nat)(x:TUnit)(u:TUnit):TUnit:=jD u (uF i x u.kids)
mutual
def bL(p:PId)(f:TUnit->TUnit):TUnit->TUnit
 |⟨a,i,n,k,l,h,w,ks⟩=>bif fI p ⟨a,i,n,k,l,h,w,ks⟩then f ⟨a,i,n,k,l,h,w,ks⟩else⟨a,i,n,k,l,h,w,eV p f ks⟩
def eV(p:PId)(f:TUnit->TUnit):List TUnit->List TUnit
 |[]=>[]
 |k::r=>bif be p k then bL p f k::r else k::eV p f r
end
section
variable{p:PId}{f:TUnit->TUnit}{u w:TUnit}{l r:List TUnit}{i:Nat}
theorem FI(p:PId)(f:TUnit->TUnit)(u:TUnit):bL p f u=bif fI p u then f u else jD u (eV p f u.kids):=by cases u;rw[bL];rfl
theorem so:eV p f []=[]:=by rw[eV]
theorem gr(k:TUnit)(r:List TUnit):eV p f (k::r)=bif be p k then bL p f k::r else k::eV p f r:=by rw[eV]
theorem rz(h:fI p u=true):bL p f u=f u:=by rw[FI,h];rfl
theorem mI(h:fI p u=false):bL p f u=jD u (eV p f u.kids):=by rw[FI,h];rfl
def jq(p:PId)(f:TUnit->TUnit)(l:List TUnit)(i:Nat)(r:List TUnit):Prop:=eV p f l=l.take i++eV p f r
theorem jq.start:jq p f l 0 l:=rfl
theorem jq.skip(h:jq p f l i (w::r))(hd:l.drop i=w::r)(hw:be p w=false):jq p f l (i+1) r:=by
 unfold jq at *;have hi:i<l.length:=by grind[List.drop_eq_nil_of_le]
 have e:l[i]=w:=by
  have:=congrArg (·[0]?) hd;grind
 grind[gr]
theorem jq.hit(h:jq p f l i (w::r))(hd:l.drop i=w::r)(hw:be p w=true):eV p f l=l.set i (bL p f w):=by
 unfold jq at h;have hi:i<l.length:=by grind[List.drop_eq_nil_of_le]
 rw[h,gr,hw,List.set_eq_take_append_cons_drop,if_pos hi];have:l.drop (i+1)=r:=by rw[<-Cq,hd];rfl
 simp_all
theorem jq.done(h:jq p f l i [])(hd:l.drop i=[]):eV p f l=l:=by simp_all[jq,so,th]
theorem mH:∀(u:TUnit),be p u=false->bL p f u=u:=TUnit.ind fun u ih h=>by
 have hw:=Ao h;rw[fG]at hw;cases hi:fI p u with
 |true=>grind
 | false=>
  rw[hi]at hw;simp only[cond_false]at hw;have key:∀(r:List TUnit),(∀k,k∈r->k∈u.kids)->cQ p r=[]->eV p f r=r:=by
   intro r;induction r with
   |nil=>grind[so]
   |cons k r ihr=>
    intro hm hr;cases hk:be p k with
    |true=>grind[mL,jr]
    |false=>simp_all[gc,gr]
  have hk:cQ p u.kids=[]:=by grind
  rw[mI hi,key u.kids (fun _ h=>h) hk];cases u;rfl
end
end Go.Ev
namespace Go.Ev
open Go
noncomputable def bg(n:Nat):AV:=.int .i64 (.ofNat n)
theorem Yu(n:Nat):(bg n).top=0:=rfl
section
variable{l part:List aH}{i:Nat}{acc:List Nat}
def nD(l part:List aH)(i:Nat)(acc:List Nat):Prop:=acc.length<=i/\i<=l.length+part.length/\∃f,sT l part=acc++vM part f l i/\l.length<i+f
theorem nD.start(hp:0<part.length):nD l part 0 []:=by
 refine⟨af _,bA _,l.length+1,?_,by omega⟩;unfold sT;grind
theorem LO{f:Nat}(hi:i+part.length<=l.length):vM part (f+1) l i=bif dz dM ((l.take (i+part.length)).drop i) part then i::vM part f l (i+part.length)else vM part f l (i+1):=by
 have e:(l.take (i+part.length)).drop i=(l.drop i).take part.length:=by grind
 rw[vM,tD hi,e];rfl
theorem nD.skip(h:nD l part i acc)(hi:i+part.length<=l.length)(hp:0<part.length)(hm:dz dM ((l.take (i+part.length)).drop i) part=false):nD l part (i+1) acc:=by
 obtain⟨h1,h2,f,h3,h4⟩:=h;cases f with
 |zero=>omega
 |succ f=>rw[LO hi,hm]at h3;exact⟨by omega,by omega,f,h3,by omega⟩
theorem nD.hit(h:nD l part i acc)(hi:i+part.length<=l.length)(hp:0<part.length)(hm:dz dM ((l.take (i+part.length)).drop i) part=true):nD l part (i+part.length) (acc++[i]):=by
 obtain⟨h1,h2,f,h3,h4⟩:=h;cases f with
 |zero=>omega
 |succ f=>
  rw[LO hi,hm]at h3;exact⟨by grind,by omega,f,by simp_all,by omega⟩
theorem nD.done(h:nD l part i acc)(hi:l.length<i+part.length):sT l part=acc:=by
 obtain⟨h1,h2,f,h3,h4⟩:=h;cases f with
 |zero=>grind[vM]
 |succ f=>grind[vM,bU]
theorem nD.len(h:nD l part i acc):acc.length<=l.length+part.length:=bO h.1 h.2.1
end
def rq(g:Nat):List Nat->Nat->Nat->Prop
 |[],_,_=>True
 |p::r,lo,n=>lo<=p/\p+g<=n/\rq g r (p+g) n
theorem sS(part:List aH)(hp:0<part.length):∀(f:Nat)(l:List aH)(i:Nat),rq part.length (vM part f l i) i l.length
 |0,l,i=>by rw[vM];trivial
 | f+1,l,i=>by
  rw[vM];have key:∀(m:List Nat)(a b n:Nat),a<=b->rq part.length m b n->rq part.length m a n:=by
   intro m;cases m with
   |nil=>intro _ _ _ _ _;trivial
   |cons p r=>intro a b n h ⟨h1,h2,h3⟩;exact⟨bO h h1,h2,h3⟩
  cases hb:Nat.ble (i+part.length) l.length with
  |false=>trivial
  |true=>
   rw[bU]at hb;have hb:=of_decide_eq_true hb;simp only[cond_true];cases dz dM ((l.drop i).take part.length) part with
   |true=>exact⟨af _,hb,sS part hp f l _⟩
   |false=>exact key _ _ _ _ (nG i) (sS part hp f l (i+1))
theorem CS(l part:List aH):rq part.length (sT l part) 0 l.length:=by
 unfold sT;cases part with
 |nil=>trivial
 |cons x r=>exact sS (x::r) (qK _) _ l 0
def oP(g:Nat)(l:List Nat)(n:Nat):Prop:=∀i,i<l.length->gD l i+g<=n/\∀j,j<i->gD l j+g<=gD l i
theorem Bl{g n:Nat}:∀{l:List Nat}{lo:Nat},rq g l lo n->oP g l n
 |[],_,_=>fun i hi=>absurd hi (pG _)
 | p::r,lo,⟨h1,h2,h3⟩=>by
  have low:∀(m:List Nat)(a:Nat),rq g m a n->∀i,i<m.length->a<=gD m i:=by
   intro m;induction m with
   |nil=>simp_all
   |cons q m ih=>
    intro a ⟨k1,k2,k3⟩ i hi;cases i with
    |zero=>exact k1
    |succ i=>have:=ih _ k3 i (by simp_all);grind[gD]
  intro i hi;cases i with
  |zero=>exact⟨h2,fun j hj=>absurd hj (pG _)⟩
  |succ i=>
   have hi':i<r.length:=by simp_all
   obtain⟨k1,k2⟩:=Bl h3 i hi';refine⟨k1,fun j hj=>?_⟩;cases j with
   |zero=>exact low r _ h3 i hi'
   |succ j=>exact k2 j (by omega)
def fO(at_ g:Nat)(m l:List PWord):List PWord:=l.take at_++m++l.drop (at_+g)
def r8(a b:Int)(g:Nat)(ps:List Nat)(fresh:List aH):Nat->List PWord->List PWord
 |0,l=>l
 |i+1,l=>r8 a b g ps fresh i (fO (gD ps i) g (ca a b fresh (i*fresh.length)) l)
theorem NS{at_ g:Nat}{m l:List PWord}(h:at_+g<=l.length):(fO at_ g m l).length+g=l.length+m.length:=by grind[fO]
structure PutI(a b:Int)(g:Nat)(ps:List Nat)(fresh:List aH)(w:List PWord)(i:Nat)(l:List PWord):Prop where
 le:i<=ps.length
 all:r8 a b g ps fresh ps.length w=r8 a b g ps fresh i l
 room:∀j,j<i->gD ps j+g<=l.length
 small:l.length<=w.length+(ps.length-i)*fresh.length
theorem PutI.start{a b:Int}{g:Nat}{ps:List Nat}{fresh:List aH}{w:List PWord}(h:oP g ps w.length):PutI a b g ps fresh w ps.length w:=⟨af _,rfl,fun j hj=>(h j hj).1,by omega⟩
theorem PutI.step{a b:Int}{g:Nat}{ps:List Nat}{fresh:List aH}{w l:List PWord}{i:Nat}(hg:oP g ps w.length)(h:PutI a b g ps fresh w (i+1) l):PutI a b g ps fresh w i (fO (gD ps i) g (ca a b fresh (i*fresh.length)) l):=by
 have hr:=h.room i (Nat.lt_succ_self i);have hl:=NS (m:=ca a b fresh (i*fresh.length)) hr;rw[gJ]at hl;have hle:=h.le;refine⟨by omega,h.all,fun j hj=>?_,?_⟩
 ·have:=(hg i (by omega)).2 j hj;grind
 ·have hs:=h.small;have e:(ps.length-i)*fresh.length=(ps.length-(i+1))*fresh.length+fresh.length:=by rw[show ps.length-i=(ps.length-(i+1))+1 by omega,qz]
  omega
theorem PutI.done{a b:Int}{g:Nat}{ps:List Nat}{fresh:List aH}{w l:List PWord}(h:PutI a b g ps fresh w 0 l):r8 a b g ps fresh ps.length w=l:=h.all
theorem PutI.len{a b:Int}{g:Nat}{ps:List Nat}{fresh:List aH}{w l:List PWord}{i:Nat}(h:PutI a b g ps fresh w i l)(h1:w.length<=2^18)(h2:ps.length<=2^9)(h3:fresh.length<=2^9):l.length<=2^19:=by
 have:=h.small;have:(ps.length-i)*fresh.length<=2^9*2^9:=Nat.mul_le_mul (by omega) h3;omega
section
variable{sz b id n n' k l h m:Nat}{H:AHeap}{xs ys zs:List AV}{t:Bool}{x z:AV}{vl:Option AV}
theorem Jx(hh:pc sz xs=true)(h1:jK 0 vl=some l)(h2:fP x=some h)(h3:fP z=some h)(q1:l<=h)(q2:h<=xs.length)(e:(xs.take h).drop l=ys):bc H (dq sz H (some (.ps xs t)) vl (some x) (some z))=some (.val (.ps ys true) H):=by simp_all[tD,dq,gV,u0,bc]
theorem Qj(hh:pc sz xs=true)(h1:fP x=some l)(q1:l<=xs.length)(e:xs.drop l=ys):bc H (dq sz H (some (.ps xs false)) (some x) none none)=some (.val (.ps ys false) H):=by
 have p2:Nat.ble l xs.length=true:=tD q1;have p3:Nat.ble xs.length xs.length=true:=tD (af _);simp only[dq,gV,hh,jK,h1,u0,p2,p3,yH,List.take_length,e,Bool.false_and,bc]
theorem aay(hf:dA sz xs=true)(hf2:dA sz ys=true)(hne:ys≠[])(hs:small (xs.length+ys.length) b=true)(e:xs++ys=zs)(e2:zs.length=n):fq (dc sz b H (some (.ps xs true)) (some (.ls ys)))=some (.val (.slice H.n 0 0 n none) (H.push (.row sz true 0 zs))):=by
 cases ys with
 |nil=>simp_all
 |cons y r=>simp_all[dc,gy,kF,km,gT,ic,fq]
theorem TJ(e:ys=[]):fq (dc sz b H (some (.ps xs true)) (some (.ls ys)))=some (.val (.ps xs true) H):=by subst e;rfl
def tI:List AV->Nat
 |[]=>0
 |_::_=>1
theorem WU(hg:H.get id=some (.row sz true 0 xs))(hp:H.put id (.row sz true 0 xs)=H)(hf:dA sz ys=true)(hl:xs.length=n)(hs:small (n+ys.length) b=true)(e:xs++ys=zs)(e2:zs.length=n'):
  fq (dc sz b H (some (.slice id 0 0 n none)) (some (.ps ys t)))=some (.val (.slice id (tI ys) 0 n' none) (H.put id (.row sz true (tI ys) zs))):=by
 cases ys with
 |nil=>
  rw[ef]at e;subst e;simp only[tI,hp,<-e2,hl];rfl
 |cons y r=>
  have p1:Nat.beq 0 0=true:=rfl;have p2:Nat.beq sz sz=true:=qV sz;have p4:xs.take n=xs:=th (by omega);have p5:n+(y::r).length=n':=by grind
  have p3:Nat.ble n' xs.length=false:=by grind[bU]
  rw[p5]at hs;simp only[dc,gy,kF,km,gT,hf,hg,p1,p2,hs,yH,p3,p4,e,p5,tI,fq,fL]
theorem TW(hf:dA sz xs=true)(hf2:dA sz ys=true)(hne:ys≠[])(hs:small (xs.length+ys.length) b=true)(e:xs++ys=zs)(e2:zs.length=n):fq (dc sz b H (some (.ps xs true)) (some (.ps ys t)))=some (.val (.slice H.n 0 0 n none) (H.push (.row sz true 0 zs))):=by
 cases ys with
 |nil=>simp_all
 |cons y r=>simp_all[dc,gy,kF,km,gT,ic,fq]
end
def m7(l:List Nat)(n:Int):List Nat:=bif ay n 0 then l else bif aB (Int.ofNat l.length) n then[]else(l.take n.toNat).drop (n.toNat-1)
theorem Vh{l:List Nat}{a b i:Nat}(h:i<((l.take b).drop a).length):gD ((l.take b).drop a) i=gD l (a+i):=by grind[gD]
theorem Oh{g n a b:Nat}{l:List Nat}(h:oP g l n):oP g ((l.take b).drop a) n:=by
 intro i hi;have hl:((l.take b).drop a).length<=l.length-a:=by grind
 obtain⟨h1,h2⟩:=h (a+i) (by omega);grind[Vh]
theorem Hf{g n:Nat}{l:List Nat}{k:Int}(h:oP g l n):oP g (m7 l k) n:=by
 unfold m7;cases ay k 0 with
 |true=>grind
 |false=>
  cases aB (Int.ofNat l.length) k with
  |true=>exact fun i hi=>absurd hi (pG _)
  |false=>exact Oh h
theorem GE(l:List Nat)(k:Int):(m7 l k).length<=l.length:=by
 unfold m7;grind
theorem DE{g n:Nat}(hg:0<g):∀{l:List Nat}{lo:Nat},rq g l lo n->lo<=n->l.length+lo<=n
 |[],lo,_,h=>by simp_all
 |p::r,lo,⟨h1,h2,h3⟩,_=>by have:=DE hg h3 h2;grind
theorem LN(l part:List aH):(sT l part).length<=l.length:=by
 cases part with
 |nil=>exact bA _
 |cons x r=>have:=DE (qK _) (CS l (x::r)) (bA _);omega
theorem GD(l part:List aH):oP part.length (sT l part) l.length:=Bl (CS l part)
def xR(c i:Nat)(l:List Nat):List Nat:=(l.take i).map (· +c)++l.drop i
theorem Te(c i:Nat)(l:List Nat):(xR c i l).length=l.length:=by grind[xR]
theorem Wb{c i:Nat}{l:List Nat}(h:i<l.length):gD (xR c i l) i=gD l i:=by
 unfold xR gD List.getD;grind
theorem Pj{c i:Nat}{l:List Nat}(h:i<l.length):(xR c i l).set i (gD l i+c)=xR c (i+1) l:=by
 unfold xR;have h1:((l.take i).map (· +c)).length=i:=by grind
 rw[List.set_append_right _ _ (by omega),h1,Nat.sub_self,Ps h,List.set_cons_zero,Pt h,oJ];grind[gD]
theorem Px{c n:Nat}{l m:List Nat}(h:l.length=n):(xR c n (l++m)).take n=l.map (· +c):=by grind[xR]
theorem J2{c i:Nat}{l:List Nat}(h:i<l.length):gD (l.map (· +c)) i=gD l i+c:=by grind[gD]
theorem R3{c n:Nat}{l:List Nat}(h:oP c l n):oP 0 (l.map (· +c)) n:=by
 intro i hi;rw[b9]at hi;obtain⟨h1,h2⟩:=h i hi;grind[J2]
def sM(l:List PWord):List PWord:=bif aB 256 (Int.ofNat l.length)then[]else l
def zt(l:List PWord):Int:=bif aB 256 (Int.ofNat l.length)then 6 else 0
def xL(a b:Int)(g:Nat)(ps:List Nat)(fresh:List aH)(w:List PWord):List PWord×Int:=(sM (r8 a b g ps fresh ps.length w),zt (r8 a b g ps fresh ps.length w))
def zi(a b:Int)(w:List PWord)(old new:List aH)(n:Int):List PWord×Int:=bif ay (Int.ofNat old.length) 0 then([],1)else bif ay (Int.ofNat (m7 (sT (bC w) old) n).length) 0 then([],4)else xL a b old.length (m7 (sT (bC w) old) n) new w
def Ai(a b:Int)(w:List PWord)(part new:List aH)(n:Int):List PWord×Int:=
 bif ay (Int.ofNat new.length) 0||(ay (Int.ofNat part.length) 0&&ax (ay n 0))then([],1)
 else bif ay (Int.ofNat part.length) 0 then xL a b 0 [0] new w
 else bif ay (Int.ofNat (m7 (sT (bC w) part) n).length) 0 then([],4)else xL a b 0 ((m7 (sT (bC w) part) n).map (· +part.length)) new w
def lZ(x k:TUnit):Bool:=ay k.kind x.kind&&dM k.label x.label
def zX(p x:TUnit):Int:=bif jz p.kind x.kind then(bif p.kids.any (lZ x)then 10 else 0)else 9
def SC(u:TUnit)(p:PId)(x:TUnit):Bool:=aB 8 (Int.ofNat ((mn p u).length+1+ny x))
abbrev oM:=TUnit×Int
def Od(u:TUnit)(te:Int)(full cf:Bool)(u2:TUnit):oM:=bif ay te 0 then(bif full then(u,6)else bif cf then(u,5)else(u2,0))else(u,te)
def FE(u:TUnit)(e:Int)(u2:TUnit):oM:=bif ay e 0 then(u2,0)else(u,e)
def Uw(u:TUnit)(te:Int)(u2:TUnit):oM:=bif ay te 10 then(u,10)else(u2,0)
def RJ(u:TUnit)(te:Int)(full:Bool)(u2:TUnit):oM:=bif ay te 0 then(bif full then(u,6)else(u2,0))else(u,te)
def IQ(e1 e2:Int)(sp:PSpot)(e3:Int):PSpot×Int:=bif ay e1 0 then(bif ay e2 0 then(bif ay e3 0 then(sp,0)else(dI,e3))else(dI,e2))else(dI,e1)
noncomputable def eL(r:oM):AV:=.tuple [eU r.1,.int .i64 r.2]
theorem fu{p:PId}{u:TUnit}(h:be p u=true):bG p u∈aT u/\au (bG p u)=p:=by grind[PT,TD,Dw]
theorem rA(l m:List TUnit):hJ (l++m)=hJ l++hJ m:=by
 induction l with
 |nil=>rw[ru];rfl
 |cons k r ih=>grind[fD]
theorem qL(u:TUnit)(l:List TUnit):cD (jD u l)=au u::hJ l:=by rw[mf];rfl
theorem kj(u:TUnit):nU u=(cD u).length:=(uH u).symm
theorem wO(u:TUnit)(l:List TUnit):aT (jD u l)=jD u l::cA l:=by rw[cq];rfl
theorem mG{q:PId}:∀(u:TUnit),be q u=true->∃v C,v∈aT u/\au v=q/\(cD u).Perm (C++cD v)/\∀f,(cD (bL q f u)).Perm (C++cD (f v))/\
  ∀x,x∈aT (bL q f u)->x∈aT (f v)\/∃y,y∈aT u/\au x=au y/\x.kids.length=y.kids.length/\x.head=y.head/\x.words=y.words:=TUnit.ind fun u ih h=>by
 cases hi:fI q u with
 |true=>
  refine⟨u,[],ch u,(fC q u).1 hi,List.Perm.refl _,fun f=>?_⟩;grind[rz]
 | false=>
  have key:∀(r:List TUnit),(∀k,k∈r->k∈u.kids)->cQ q r≠[]->∃v C,v∈cA r/\au v=q/\(hJ r).Perm (C++cD v)/\∀f,(hJ (eV q f r)).Perm (C++cD (f v))/\(eV q f r).length=r.length/\
    ∀x,x∈cA (eV q f r)->x∈aT (f v)\/∃y,y∈cA r/\au x=au y/\x.kids.length=y.kids.length/\x.head=y.head/\x.words=y.words:=by
   intro r;induction r with
   |nil=>grind[jL]
   | cons k r ihr=>
    intro hm hw;cases hk:be q k with
    | true=>
     obtain⟨v,C,h1,h2,h3,h4⟩:=ih k (hm k (eR ..)) hk;refine⟨v,C++hJ r,by grind[bY],h2,?_,fun f=>?_⟩
     ·grind[fD]
     ·have e:eV q f (k::r)=bL q f k::r:=by rw[gr,hk];rfl
      rw[e];refine⟨?_,rfl,fun x hx=>?_⟩
      ·grind[fD]
      ·rw[bY]at hx;rcases fK.1 hx with hx|hx
       ·grind[bY]
       ·exact .inr ⟨x,by grind[bY],rfl,rfl,rfl,rfl⟩
    |false=>
     rw[gc hk]at hw;obtain⟨v,C,h1,h2,h3,h4⟩:=ihr (fun x hx=>hm x (eC _ hx)) hw;refine⟨v,cD k++C,by grind[bY],h2,by grind[fD],fun f=>?_⟩;have e:eV q f (k::r)=k::eV q f r:=by rw[gr,hk];rfl
     rw[e];refine⟨by grind[fD],by simp_all,fun x hx=>?_⟩;rw[bY]at hx;rcases fK.1 hx with hx|hx
     ·exact .inr ⟨x,by grind[bY],rfl,rfl,rfl,rfl⟩
     grind[bY]
  have hw:cQ q u.kids≠[]:=by
   intro e;have:=jr h;rw[fG,hi,e]at this;simp_all
  obtain⟨v,C,h1,h2,h3,h4⟩:=key u.kids (fun _ h=>h) hw;refine⟨v,au u::C,by grind[cq],h2,by grind[mf],fun f=>?_⟩;rw[mI hi];refine⟨by grind[qL],fun x hx=>?_⟩;rw[wO]at hx;rcases dO.1 hx with rfl|hx
  ·exact .inr ⟨u,ch u,rfl,(h4 f).2.1,rfl,rfl⟩
  grind[cq]
theorem re{p:PId}:∀(u:TUnit),jj p u=true->∃q i,q∈aT u/\r9 p u=au q/\qr p u=Int.ofNat i/\i<q.kids.length/\au (gD q.kids i)=p:=TUnit.ind fun u ih h=>by
 have hh:be p u=true:=by
  cases e:be p u with
  |true=>rfl
  |false=>grind[RL]
 cases hi:fI p u with
 |true=>
  unfold jj at h;rw[tF hi]at h;cases h
 | false=>
  have key:∀(r:List TUnit),cQ p r≠[]->∃j k,j<r.length/\gD r j=k/\be p k=true/\cQ p r=aC p k/\∀n,dX (be p) r n=Int.ofNat (n+j):=by
   intro r;induction r with
   |nil=>grind[jL]
   | cons k r ihr=>
    intro hw;cases hk:be p k with
    |true=>
     refine⟨0,k,qK _,rfl,hk,mL hk,fun n=>?_⟩;unfold dX;simp_all
    | false=>
     rw[gc hk]at hw;obtain⟨j,k2,h1,h2,h3,h4,h5⟩:=ihr hw;refine⟨j+1,k2,by simp_all,h2,h3,by grind[gc],fun n=>?_⟩;have e:dX (be p) (k::r) n=dX (be p) r (n+1):=by
      show(bif be p k then _ else _)=_
      simp_all
     grind
  have hw:cQ p u.kids≠[]:=by
   intro e;have:=jr hh;rw[fG,hi,e]at this;simp_all
  obtain⟨j,k,h1,h2,h3,h4,h5⟩:=key u.kids hw;obtain⟨y,t,e⟩:=wJ h3;have hway:aC p u=u::aC p k:=by rw[fG,hi,h4,e];rfl
  have hkm:k∈u.kids:=h2▸dZ h1;rw[Jl h,Jm h];cases hk:jj p k with
  | true=>
   obtain⟨q,i,q1,q2,q3,q4,q5⟩:=ih k hkm hk;rw[Jl hk]at q2;rw[Jm hk]at q3;have e2:JZ p u=JZ p k:=by
    unfold JZ;rw[hway];have:2<=(aC p k).length:=by
     unfold jj at hk;cases hl:aB (Int.ofNat (aC p k).length) 2 with
     |true=>grind
     |false=>have:=aF hl;grind
    show gD (u::aC p k) ((aC p k).length+1-2)=_
    rw[show(aC p k).length+1-2=((aC p k).length -2)+1 by omega];rfl
   grind[bq]
  | false=>
   have hl:(aC p k).length=1:=by
    unfold jj at hk;cases hl:aB (Int.ofNat (aC p k).length) 2 with
    |false=>grind
    |true=>have:=aA hl;grind
   have hik:fI p k=true:=by
    cases hik:fI p k with
    |true=>rfl
    |false=>
     rw[fG,hik]at hl e;grind
   have e2:JZ p u=u:=by
    unfold JZ;rw[hway];show gD (u::aC p k) ((aC p k).length+1-2)=_
    rw[hl];rfl
   rw[e2,h5 0,fL];exact⟨u,j,ch u,rfl,rfl,h1,by grind[fC]⟩
theorem Vc{p:PId}{u:TUnit}(h:be p u=true)(hi:fI p u=false):jj p u=true:=by
 have hw:aC p u≠[]:=jr h;have e:aC p u=match cQ p u.kids with|[]=>[]|y::t=>u::y::t:=by rw[fG,hi];rfl
 unfold jj;rw[e]at hw ⊢;cases ew:cQ p u.kids with
 |nil=>simp_all
 |cons y t=>
  show ax (aB (Int.ofNat (u::y::t).length) 2)=true
  rw[ky (by grind)];rfl
theorem Vk{v:TUnit}{i:Nat}(h:i<v.kids.length):(cD v).Perm (cD (dg i v)++cD (gD v.kids i)):=by
 unfold dg;rw[mf v,qL,Pp,rA];have e:v.kids=v.kids.take i++(gD v.kids i::v.kids.drop (i+1)):=by grind[gD,List.drop_eq_getElem_cons,List.take_append_drop]
 grind[rA,fD]
theorem Vj{v x:TUnit}{i:Nat}:(cD (dQ i x v)).Perm (cD v++cD x):=by
 unfold dQ uF;rw[mf v,qL,rA,fD,yM];grind[List.take_append_drop,rA]
section
variable{P:Program}{G:eB}{call:cJ}{m:Nat}{c:Code}{d:D}{s s':St}{ops:Array Oper}{h h':AHeap}{o:AObj}{f:FuncId}{args:List AV}{v u:AV}{pl pl':Pl}{M M':dl}{w w':World}
theorem ct.psh(g2:ct pl M h w):ct pl M (h.push o) w:=
 ⟨fun id p hp=>Nat.lt_succ_of_lt (g2.dom id p hp),(fun id p o' hp hg=>by
  rcases dY hg with⟨rfl,_⟩|⟨_,h2⟩
  ·exact absurd (g2.dom _ p hp) (wm _)
  ·exact g2.obj id p o' hp h2),g2.blk,g2.inj,g2.imm,g2.sep⟩
theorem cO.psh(g2:ct pl M h w)(g4:cO h pl M w h' pl' M' w')(g2':ct pl' M' h' w'):cO h pl M w (h'.push o) pl' M' w':=
 ⟨g4.ext,g4.new,g4.mem,g4.size,g4.kept,g4.blks,(fun id p hp hg=>by
  have:=g4.live id p hp hg;cases hh:(h'.push o).get id with
  |none=>rfl
  |some o'=>
   rcases dY hh with⟨rfl,_⟩|⟨_,h2⟩
   ·obtain⟨p',e1,_⟩:=g4.ext _ p hp;exact absurd (g2'.dom _ p' e1) (wm _)
   simp_all),g4.stay,g4.memNew,g4.os,g4.tape,g4.out,g4.drawn⟩
theorem aE.psh(h0:aE P G f args h (fun v1 h1=>v1=v/\h1=h'))(hl:Le u v):aE P G f args h (fun v1 h1=>v1=u/\h1=h'.push o):=by
 intro pl M w vs hg hr hv;have key:∀{cv w'},iX pl M h w v h' cv w'->iX pl M h w u (h'.push o) cv w':=fun⟨pl',M',k1,k2,k3,k4⟩=>⟨pl',M',hl _ _ _ k1,ct.psh k2,cO.psh hr k3 k2,Nat.le_succ_of_le k4⟩
 rcases h0 pl M w vs hg hr hv with⟨h1,h2⟩|⟨cv,w',v',h'',h1,⟨rfl,rfl⟩,h3⟩
 ·exact .inl ⟨h1,Calls.mono h2 fun e w' ⟨cv,v',h'',k1,⟨k2,k2'⟩,k3⟩=>⟨cv,u,h'.push o,k1,⟨rfl,rfl⟩,by simp_all⟩⟩
 ·exact .inr ⟨cv,w',u,_,h1,⟨rfl,rfl⟩,key h3⟩
theorem K8{Ψ Ψ':AV->AHeap->Prop}(o:AObj)(h0:aE P G f args h Ψ)(hΨ:∀v h',Ψ v h'->∃u,Le u v/\Ψ' u (h'.push o)):aE P G f args h Ψ':=by
 intro pl M w vs hg hr hv;have key:∀{v u h' cv w'},Le u v->iX pl M h w v h' cv w'->iX pl M h w u (h'.push o) cv w':=fun hl ⟨pl',M',k1,k2,k3,k4⟩=>⟨pl',M',hl _ _ _ k1,ct.psh k2,cO.psh hr k3 k2,Nat.le_succ_of_le k4⟩
 rcases h0 pl M w vs hg hr hv with⟨h1,h2⟩|⟨cv,w',v',h'',h1,h2,h3⟩
 ·refine .inl ⟨h1,Calls.mono h2 fun e w' ⟨cv,v',h'',k1,k2,k3⟩=>?_⟩;grind
 ·obtain⟨u,q1,q2⟩:=hΨ _ _ h2;exact .inr ⟨cv,w',u,_,h1,q2,key q1 h3⟩
theorem Qh(pl:Pl)(M:dl)(p:Place)(x:Option Obj):bb pl M p .dead x:=by cases x<;>trivial
theorem aE.dead{i:Nat}{Ψ Ψ':AV->AHeap->Prop}(h0:aE P G f args h Ψ)(hi:h.n<=i)(hm:i<1000000)(hΨ:∀v h',Ψ v h'->Ψ' v (h'.put i .dead)):aE P G f args h Ψ':=by
 intro pl M w vs hg hr hv;have key:∀{v h' cv w'},iX pl M h w v h' cv w'->iX pl M h w v (h'.put i .dead) cv w':=fun⟨pl',M',k1,k2,k3,k4⟩=>⟨pl',M',k1,⟨k2.dom,(fun id p o hp hg=>by
  rcases AHeap.get_put hm hg with⟨_,rfl⟩|⟨_,h2⟩
  ·grind[Qh]
  ·exact k2.obj id p o hp h2),k2.blk,k2.inj,k2.imm,k2.sep⟩,⟨k3.ext,k3.new,k3.mem,k3.size,k3.kept,k3.blks,(fun id p hp hg=>by
   have hl:=hr.dom id p hp;have hn:=k3.live id p hp hg;cases hh:AHeap.get (AHeap.put _ i .dead) id with
   |none=>rfl
   |some o'=>grind[AHeap.get_put]),k3.stay,k3.memNew,k3.os,k3.tape,k3.out,k3.drawn⟩,k4⟩
 rcases h0 pl M w vs hg hr hv with⟨h1,h2⟩|⟨cv,w',v',h'',h1,h2,h3⟩
 ·exact .inl ⟨h1,Calls.mono h2 fun e w' ⟨cv,v',h'',k1,k2,k3⟩=>⟨cv,v',h''.put i .dead,k1,hΨ _ _ k2,key k3⟩⟩
 ·exact .inr ⟨cv,w',v',_,h1,hΨ _ _ h2,key h3⟩
end
section
variable{P:Program}{G:eB}{ops:Array Oper}{o:Oper}{l:List Oper}{s:St}{b:Option Nat}
theorem xB{t tx e:TypeId}{i:TypeInfo}{sz bt:Nat}(hsz:i.size=sz)(hbt:i.bytes=bt){z z0:AV}{sO xO:Operand}{dst:Option Tmp}{ty:TypeId}{pos:String}{after:Array Edge}{guard:Option (Nat×Bool)}{xs:List AV}
  (ht:P.underlying t=some (.slice e))(hk:∃e',P.underlying tx=some (.slice e'))(hi:P.info? e=some i)(hz:ia P e=some z0)(hzl:Le z z0)
  (hs:(cj G sO).run s.tmps=some (.ps [] true))(hx:(cj G xO).run s.tmps=some (.ls xs))(hne:xs≠[])(hfit:dA sz xs=true)(hzf:dA sz [z]=true)(hsm:small xs.length bt=true)(hs0:0<sz)
  (pl:Pl)(M:dl)(a:Act)(w:World)(g1:pE G pl M)(g2:ct pl M s.heap w)(g3:FrRel pl M s.tmps a):
  ∃(k:Nat)(pl':Pl)(M':dl)(cv:Value)(w':World),k=0/\(execOp a.eval ⟨dst,.call ⟨.builtin .append,#[sO,xO],#[t,tx]⟩,ty,pos,after,guard⟩).run P w=.ok (.value cv) w'/\
   VRel pl' M' (.slice s.heap.n 0 0 xs.length none) cv/\ct pl' M' (s.heap.push (.row sz true 0 xs)) w'/\cO s.heap pl M w (s.heap.push (.row sz true 0 xs)) pl' M' w'/\s.heap.n<=(s.heap.push (.row sz true 0 xs)).n:=by
 subst hsz;subst hbt;have hsr:=bZ g1 g3 hs;have hxr:=bZ g1 g3 hx;obtain⟨news,hsrc⟩:=zk (P:=P) g2 hxr (show kF s.heap (.ls xs)=some xs from rfl) hne hfit;obtain⟨i2,zv,hz1,hz2,hz3⟩:=mF hz;rw[hi]at hz1;cases hz1
 obtain⟨b1,b2⟩:=ju hsm;have hpos:0<xs.length:=qU.2 hne;generalize hq:a.eval sO=cs at hsr;generalize hq2:a.eval xO=cx at hxr hsrc;cases hsr with
 | ps hl htt hm hs2 hc=>
  rename_i ad cap sz c;have hcap:cap=0:=htt rfl;subst hcap;have hzr:=hzl _ _ _ (dj (pl:=pl) (M:=M) hz3);have hzt:=mh hzf z (by simp);have hzsz:zv.cells.size=i.size:=by rw[<-hzr.cells.len];omega
  have hrun:=run_append_grow_src (P:=P) w t tx ty e i zv ht hi hz2 (some ad) 0 0 [] (by simp[Builtin.firstCells,loadCells,loadCellsFrom]) cx xs.length news (hsrc.src (.inl hk)) (by omega) (by omega) (growslice_fits (by omega) (by grind));have hge:=grownCap_ge w (0+xs.length) 0 e;obtain⟨C,hC⟩:∃C,C=grownCap w (0+xs.length) 0 e:=⟨_,rfl⟩
  rw[<-hC]at hrun hge;have hin:=fJ hzr hzt.2 (C-(0+xs.length)) hzt.1 hs0;have hzl:(Builtin.zeroCells zv.cells (C-(0+xs.length))).toList.toArray=(Array.range ((C-(0+xs.length))*i.size)).map (zv.cells[· %zv.cells.size]!):=by grind[Builtin.zeroCells]
  have hnl:(Builtin.zeroCells zv.cells (C-(0+xs.length))).toList.length=(List.replicate (C-(0+xs.length)) z).length *i.size:=by grind[Builtin.zeroCells]
  have hin2:=kc (news:=(Builtin.zeroCells zv.cells (C-(0+xs.length))).toList) hsrc.mem (by grind) hsrc.newsLen hnl #[];have hce:(news++(Builtin.zeroCells zv.cells (C-(0+xs.length))).toList).toArray++#[]=([]++news).toArray++Builtin.zeroCells zv.cells (C-(0+xs.length)):=by grind
  rw[hce]at hin2;have hcs:(([]++news).toArray++Builtin.zeroCells zv.cells (C-(0+xs.length))).size=(xs++List.replicate (C-(0+xs.length)) z).length *i.size:=by simp only[yG,FA,Cw,hsrc.newsLen,size_zeroCells,hzsz,eX,qY,jI]
  obtain⟨cells,hcells⟩:∃cells,cells=([]++news).toArray++Builtin.zeroCells zv.cells (C-(0+xs.length)):=⟨_,rfl⟩
  rw[<-hcells]at hrun hin2 hcs;have hxC:xs.length<=C:=by omega
  have hszc:cells.size=C*i.size:=by grind
  have hin3:InMem pl M cells 0 i.size xs:=⟨by rw[fL,hszc];exact eD _ hxC,fun x hx=>hin2.elem x (yE _ hx),fun i x j y h1 h2=>hin2.cell i x j y (by grind) h2⟩
  let p:Place:=⟨w.heap.size,0,i.size,xs.length,C*i.size⟩
  have hwd:(w.drew.alloc (.cells cells e)).heap=w.heap.push (.cells cells e):=rfl;obtain⟨r1,r2⟩:=ct.alloc (o:=.row i.size true 0 xs) (p:=p) g2 hwd ⟨rfl,rfl,rfl,nG _⟩ rfl
   ⟨rfl,rfl,rfl,hszc.symm,rfl,hs0,fun h=>(by grind),hin3.mono (fun id q hq=>⟨q,by rw[cT (by have:=g2.dom id q hq;omega)];omega,af _,fun _=>rfl⟩) (fun _ _ h=>h)⟩
  refine⟨0,upd pl s.heap.n p,M,.slice (some ⟨w.heap.size,0,none⟩) (0+xs.length) C,w.drew.alloc (.cells cells e),rfl,?_,?_,r1,r2,nG _⟩
  ·simp only[execOp,resolve,invoke,builtin,Sem.run_bind,Sem.run_pure,Result.andThen_ok,List.map_toArray,eg,wg,hq,hq2];show(Sem.run P (Builtin.append_ #[t,tx] ty #[Value.slice (some ad) 0 0,cx]) w).andThen _=_
   rw[hrun];rfl
  ·rw[fL]at hge ⊢;refine .slice (dP _ _ _) (af _) hge (fun k hk=>by grind) (fun _=>⟨.inr (by grind),by grind,by grind,(fun _=>by grind),(fun k hk=>by grind)⟩)
end
theorem fy{s u:List UInt8}{H:AHeap}(h:s.length+u.length<=2^62):bc H (Wa (.str s) (.str u))=some (.val (.str (s++u)) H):=by grind[Nat.ble_eq_true_of_le,Wa,bc]
def OI(s:aH):aH:=bif ay (.ofNat (gD s 0).toNat) 124 then[92]else bif ay (.ofNat (gD s 0).toNat) 92 then[92]else[]
def CQ(s:aH)(w:PWord):aH:=s++[32]++OI w.text++w.text
def mz(s:aH)(l:List PWord):aH:=l.foldl CQ s
theorem oH(s:aH)(w:PWord)(r:List PWord):mz s (w::r)=mz (CQ s w) r:=rfl
theorem Fv{x:aH}{w:PWord}(h1:ay (.ofNat (gD w.text 0).toNat) 124=true):CQ x w=x++[32]++[92]++w.text:=by grind[CQ,OI]
theorem Fw{x:aH}{w:PWord}(h1:ay (.ofNat (gD w.text 0).toNat) 124=false)(h2:ay (.ofNat (gD w.text 0).toNat) 92=true):CQ x w=x++[32]++[92]++w.text:=by grind[CQ,OI]
theorem Fk{x:aH}{w:PWord}(h1:ay (.ofNat (gD w.text 0).toNat) 124=false)(h2:ay (.ofNat (gD w.text 0).toNat) 92=false):CQ x w=x++[32]++w.text:=by grind[CQ,OI]
theorem XL(d:Nat):aB (.ofNat d) 0=false:=rfl
def tT(u:TUnit):TUnit:=⟨0,0,0,u.kind,u.label,u.head,u.words,[]⟩
def Em(u:TUnit)(d:Nat):Bool:=ax (aB (.ofNat d) 0)&&(ax (aB 8 (.ofNat d))&&kT (cR (tT u)))
def gU(u:TUnit)(d:Nat):aH:=
 bif ax (Em u d)then[]else
  let a:=Lib.repeatL [32,32] d++dW u.kind
  let b:=bif ax (ay u.kind 0)then a++([32]++u.label)else a
  let c:=bif aB 0 (.ofNat u.head.length)then mz (b++[58]) u.head else b
  bif aB 0 (.ofNat u.words.length)then mz (c++[32,124]) u.words else c
mutual
def eY:Nat->TUnit->List aH
 |d,⟨a,i,n,k,l,h,w,ks⟩=>gU ⟨a,i,n,k,l,h,w,ks⟩ d::dV (d+1) ks
def dV:Nat->List TUnit->List aH
 |_,[]=>[]
 |d,k::r=>eY d k++dV d r
end
theorem C7(d:Nat)(u:TUnit):eY d u=gU u d::dV (d+1) u.kids:=by cases u;rw[eY];rfl
theorem xX(d:Nat):dV d []=[]:=by rw[dV]
theorem md(d:Nat)(k:TUnit)(r:List TUnit):dV d (k::r)=eY d k++dV d r:=by rw[dV]
def xM(u:TUnit):aH×Int:=
 bif ax (kT (cR u))then([],1)else
  bif aB 16384 (.ofNat (Lib.join (eY 0 u) [10]++[10]).length)then([],6)else(Lib.join (eY 0 u) [10]++[10],0)
theorem Sv(s:aH):(OI s).length<=1:=by grind[OI]
theorem Tf(s:aH)(w:PWord):(CQ s w).length<=s.length+(w.text.length+2):=by grind[Sv,CQ]
theorem vc{l:List PWord}(h:∀w,w∈l->w.text.length<=24)(s:aH):(mz s l).length<=s.length+26*l.length:=by
 induction l generalizing s with
 |nil=>exact af _
 |cons w r ih=>grind[Tf,oH]
theorem Ac(k:Int):(dW k).length<=16:=by
 unfold dW;split<;>decide
theorem ge{a b:Int}(h:ax (aB a b)=true):b<=a:=aF (by cases q:aB a b<;>rw[q]at h<;>first|rfl|grind)
theorem JI{s:aH}(h:ka s=true):s.length<=7:=by
 unfold ka at h;simp only[bz]at h;have h1:=ge h.2.1;have h2:=ge h.2.2.2.1;grind
theorem Nl{s:aH}(h:sY s=true):1<=s.length/\s.length<=24:=by
 unfold sY at h;simp only[bz]at h;have h1:=ge h.1;have h2:=ge h.2.1;grind
theorem I4{l:List PWord}(h:oT l=true):l.length<=256/\∀w,w∈l->1<=w.text.length/\w.text.length<=24:=by
 unfold oT qm at h;simp only[bz,mw]at h;have h1:=ge h.1;simp only[aM]at h1;exact⟨by omega,fun w hw=>Nl (h.2.2 _ (gn.2 ⟨w,hw,rfl⟩))⟩
theorem PY{u:TUnit}(h:mq u=true):u.label.length<=7/\(u.head.length<=256/\∀w,w∈u.head->1<=w.text.length/\w.text.length<=24)/\(u.words.length<=256/\∀w,w∈u.words->1<=w.text.length/\w.text.length<=24):=by
 unfold mq at h;simp only[bz]at h;have h:=h.1;cases hk:ay u.kind 0 with
 |true=>
  rw[hk]at h;simp only[cond_true,bz]at h;have h1:u.label=[]:=M8 h.1;have h2:=ge h.2;grind
 |false=>grind[JI,I4]
theorem Qa{q:TUnit->Bool}{u:TUnit}(h:wb q u=true):q u=true:=by grind[yu]
theorem L2{u:TUnit}{d:Nat}(h:Em u d=true):d<=8/\u.label.length<=7/\(u.head.length<=256/\∀w,w∈u.head->1<=w.text.length/\w.text.length<=24)/\(u.words.length<=256/\∀w,w∈u.words->1<=w.text.length/\w.text.length<=24):=by
 unfold Em kT at h;simp only[bz]at h;have h1:=ge h.2.1;simp only[aM]at h1;have h2:=PY (Qa h.2.2.1);rw[mo]at h2;obtain⟨e1,⟨e2,e3⟩,e4,e5⟩:=h2;refine⟨by omega,e1,⟨by grind[tT,TUnit.head],fun w hw=>?_⟩,⟨by grind[tT,TUnit.words],fun w hw=>?_⟩⟩
 ·exact e3 (gL w) (gn.2 ⟨w,hw,rfl⟩)
 ·exact e5 (gL w) (gn.2 ⟨w,hw,rfl⟩)
theorem FV{b:Bool}{x y:aH}{n:Nat}(h1:x.length<=n)(h2:y.length<=n):(bif b then x else y).length<=n:=by grind
theorem Rz(u:TUnit)(d:Nat):(gU u d).length<=2^14:=by
 unfold gU;cases h:Em u d with
 |false=>simp_all
 |true=>
  obtain⟨h1,h2,⟨h3,h4⟩,h5,h6⟩:=L2 h;have k:=Ac u.kind;have r:=Lib.repeatL_length [32,32] d;simp only[cM,gp]at r;have ha:(Lib.repeatL [32,32] d++dW u.kind).length<=32:=by grind
  have hh:∀w,w∈u.head->w.text.length<=24:=fun w hw=>(h4 w hw).2
  have hw:∀w,w∈u.words->w.text.length<=24:=fun w hw=>(h6 w hw).2
  simp only[ax,cond_false];have hb:∀x:aH,x.length<=32->(bif ax (ay u.kind 0)then x++([32]++u.label)else x).length<=40:=fun x hx=>FV (by grind) (by omega)
  have hc:∀x:aH,x.length<=40->(bif aB 0 (.ofNat u.head.length)then mz (x++[58]) u.head else x).length<=6700:=fun x hx=>FV (by grind[vc]) (by omega)
  have hd:∀x:aH,x.length<=6700->(bif aB 0 (.ofNat u.words.length)then mz (x++[32,124]) u.words else x).length<=2^14:=fun x hx=>FV (by have:=vc hw (x++[32,124]);grind) (by omega)
  grind
mutual
theorem lJ(d:Nat):∀u:TUnit,(eY d u).length=nU u
 |⟨a,i,n,k,l,h,w,ks⟩=>by rw[eY,cM,xJ (d+1) ks,nU];omega
theorem xJ(d:Nat):∀l:List TUnit,(dV d l).length=eW l
 |[]=>by rw[dV,eW];rfl
 |k::r=>by rw[dV,eW,eX,lJ d k,xJ d r]
end
mutual
theorem Aa(d:Nat):∀(u:TUnit)(s:aH),s∈eY d u->s.length<=2^14
 |⟨a,i,n,k,l,h,w,ks⟩,s,hs=>by
  rw[eY]at hs;rcases dO.1 hs with rfl|hs
  ·exact Rz _ _
  ·exact xW (d+1) ks s hs
theorem xW(d:Nat):∀(l:List TUnit)(s:aH),s∈dV d l->s.length<=2^14
 |[],s,hs=>by rw[dV]at hs;cases hs
 |k::r,s,hs=>by
  rw[dV]at hs;rcases fK.1 hs with hs|hs
  ·exact Aa d k s hs
  ·exact xW d r s hs
end
theorem uB{sep:aH}{B:Nat}:∀{l:List aH},(∀s,s∈l->s.length<=B)->(Lib.joinTail sep l).length<=l.length*(sep.length+B)
 |[],_=>bA _
 |x::r,h=>by
  have h1:=h x eR;have h2:=uB (sep:=sep) (l:=r) fun s hs=>h s (eC _ hs)
  grind[Lib.joinTail,Nat.succ_mul]
theorem Rb{sep:aH}{B:Nat}{l:List aH}(h:∀s,s∈l->s.length<=B):(Lib.join l sep).length<=l.length*(sep.length+B):=by
 cases l with
 |nil=>exact bA _
 |cons x r=>
  have h1:=h x eR;have h2:=uB (sep:=sep) (l:=r) fun s hs=>h s (eC _ hs)
  grind[Lib.join_cons,Nat.succ_mul]
theorem wH:∀(l:List TUnit),(∀k,k∈l->nU (cR k)=nU k/\∀x,x∈aT (cR k)->∃y,y∈aT k/\x=cR y)->eW (l.map cR)=eW l/\∀x,x∈cA (l.map cR)->∃y,y∈cA l/\x=cR y
 |[],_=>⟨rfl,fun x hx=>by grind[eS]⟩
 |k::r,h=>by
  obtain⟨a1,a2⟩:=h k eR;obtain⟨b1,b2⟩:=wH r fun k hk=>h k (eC _ hk)
  grind[eW,bY]
theorem NB:∀u:TUnit,nU (cR u)=nU u/\∀x,x∈aT (cR u)->∃y,y∈aT u/\x=cR y:=by
 refine TUnit.ind fun u ih=>?_
 obtain⟨h1,h2⟩:=wH u.kids ih;refine⟨?_,fun x hx=>?_⟩
 ·rw[jV (cR u),jV u,mo];exact congrArg (1+ ·) h1
 ·rw[cq,mo]at hx;rcases dO.1 hx with rfl|hx
  ·grind[cq,List.mem_cons_self,mo]
  ·obtain⟨y,h3,h4⟩:=h2 x hx;grind[cq]
structure OkB(u:TUnit):Prop where
 nd:(cD u).Nodup
 n:nU u<=1024
 w:∀x,x∈aT u->x.head.length<=300/\x.words.length<=300
theorem OkB.uni{u v x:TUnit}(h:OkB u)(hv:v∈aT u)(hx:x∈aT u)(e:au v=au x):v=x:=C1 h.nd hv hx e
theorem mY{u x:TUnit}(hx:x∈aT u):be (au x) u=true:=mg u ⟨x,hx,rfl⟩
theorem jQ:∀{l:List TUnit}{x:TUnit},x∈cA l->∃k,k∈l/\x∈aT k
 |[],x,h=>by grind[eS]
 |k::r,x,h=>by
  rw[bY]at h;rcases fK.1 h with h|h
  ·simp_all
  ·obtain⟨k',h1,h2⟩:=jQ h;grind
theorem wZ:∀{l:List TUnit}{k x:TUnit},k∈l->x∈aT k->x∈cA l
 |k::r,_,x,h,hx=>by
  rw[bY];rcases dO.1 h with rfl|h
  ·simp_all
  ·exact tg _ (wZ h hx)
theorem Cn{u:TUnit}:∀(p:List PStep)(l:List TUnit),(∀x,x∈l->x∈aT u)->∀x,x∈gd p l->x∈aT u
 |[],l,h,x,hx=>h x hx
 |s::r,l,h,x,hx=>by
  refine Cn r _ (fun y hy=>?_) x hx;grind[cn,bq,ch]
theorem DU{u:TUnit}{p:List PStep}{x:TUnit}(h:x∈eQ u p):x∈aT u:=by
 unfold eQ at h;grind[ch,Cn]
theorem nN{u:TUnit}{p:List PStep}(h:(an u p).2=0):be (an u p).1 u=true:=by
 unfold an at h ⊢;split at h
 ·omega
 ·rename_i x e;exact mY (DU (by rw[e];simp_all))
 omega
def Fg(u:TUnit)(sp:PSpot):Prop:=∃n:Nat,sp.at_=Int.ofNat n/\n<=2^20/\∀v,v∈aT u->fI sp.id v=true->n<=v.kids.length
theorem QD{u:TUnit}(hu:OkB u){p:PId}(h:jj p u=true){n:Nat}(hn:n<=1):Fg u ⟨r9 p u,qr p u+Int.ofNat n⟩:=by
 obtain⟨q,i,h1,h2,h3,h4,h5⟩:=re u h;have hk:=bm q;have:=dD h1;have:=hu.n;refine⟨i+n,by simp_all,by omega,fun v hv hi=>?_⟩;have hi:fI (r9 p u) v=true:=hi;rw[fC,h2]at hi;rw[hu.uni hv h1 hi];omega
theorem G2{u:TUnit}(hu:OkB u){p:PId}(hp:be p u=true){w:Int}(he:(ce w u p).2=0):Fg u (ce w u p).1:=by
 unfold ce at he ⊢;cases h0:ay w 0 with
 |true=>exact⟨0,rfl,bA _,fun v _ _=>bA _⟩
 | false=>
  rw[h0]at he;simp only[cond_false]at he ⊢;cases h1:ay w 1 with
  |true=>
   obtain⟨a,b⟩:=fu hp;have hk:=bm (bG p u);have:=dD a;have:=hu.n;refine⟨_,rfl,by omega,fun v hv hi=>?_⟩;rw[fC]at hi;rw[hu.uni hv a (hi.trans b.symm)];omega
  |false=>
   rw[h1]at he;simp only[cond_false]at he ⊢;have key:∀n:Nat,n<=1->(kr u p (Int.ofNat n)).2=0->Fg u (kr u p (Int.ofNat n)).1:=fun n hn he=>by grind[kr,QD]
   cases h2:ay w 2 with
   |true=>grind
   |false=>rw[h2]at he;exact key 0 (bA _) he
theorem OkB.with{u:TUnit}(hu:OkB u){q:PId}{f:TUnit->TUnit}
  (hf:∀v C,v∈aT u->au v=q->(cD u).Perm (C++cD v)->(C++cD (f v)).Nodup/\(C++cD (f v)).length<=1024/\∀x,x∈aT (f v)->x.head.length<=300/\x.words.length<=300):OkB (bL q f u):=by
 cases hq:be q u with
 |false=>grind[mH]
 |true=>
  obtain⟨v,C,h1,h2,h3,h4⟩:=mG u hq;obtain⟨h5,h6⟩:=h4 f;obtain⟨a,b,c⟩:=hf v C h1 h2 h3;refine⟨h5.nodup_iff.2 a,by rw[kj,h5.length_eq];omega,fun x hx=>?_⟩;grind[cases OkB]
theorem OkB.keep{u:TUnit}(hu:OkB u){q:PId}{f:TUnit->TUnit}(h1:∀v,au (f v)=au v/\(f v).kids=v.kids)(h2:∀v,v∈aT u->(f v).head.length<=300/\(f v).words.length<=300):OkB (bL q f u):=by
 refine hu.with fun v C hv hq hp=>?_
 have e:cD (f v)=cD v:=by grind[mf]
 rw[e];refine⟨hp.nodup_iff.1 hu.nd,by rw[<-hp.length_eq,<-kj];exact hu.n,fun x hx=>?_⟩;rw[cq]at hx;rcases dO.1 hx with rfl|hx
 ·simp_all
 ·rw[(h1 v).2]at hx;obtain⟨k,k1,k2⟩:=jQ hx;grind[cn,bq,cases OkB]
theorem Ej{v x y:TUnit}{i:Nat}(h:y∈aT (dQ i x v)):y=dQ i x v\/y∈aT x\/y∈aT v:=by
 rw[cq]at h;rcases dO.1 h with rfl|h
 ·simp_all
 ·obtain⟨k,k1,k2⟩:=jQ h;have k1:k∈v.kids.take i++(x::v.kids.drop i):=k1;rcases fK.1 k1 with q|q
  ·grind[bq]
  ·grind[bq]
theorem OkB.ins{u x:TUnit}(hu:OkB u){q:PId}{i:Nat}(hx:(cD x).Nodup)(hd:∀p,p∈cD x->p∉cD u)(hn:nU u+nU x<=1024)(hw:∀y,y∈aT x->y.head.length<=300/\y.words.length<=300):OkB (bL q (dQ i x) u):=by
 refine hu.with fun v C hv hq hp=>?_
 have h1:(C++cD (dQ i x v)).Perm (cD u++cD x):=((LQ C Vj).trans (by grind))
 refine⟨h1.nodup_iff.2 (yO.2 ⟨hu.nd,hx,fun a ha b hb e=>hd b hb (e▸ha)⟩),by rw[h1.length_eq,eX,<-kj,<-kj];omega,fun y hy=>?_⟩;rcases Ej hy with rfl|h|h
 ·exact hu.w v hv
 all_goals grind[cn,cases OkB]
theorem Ek{v y:TUnit}{i:Nat}(h:y∈aT (dg i v)):y=dg i v\/y∈aT v:=by
 rw[cq]at h;rcases dO.1 h with rfl|h
 ·simp_all
 ·obtain⟨k,k1,k2⟩:=jQ h;exact .inr (bq (List.mem_of_mem_eraseIdx (show k∈v.kids.eraseIdx i from k1)) k2)
theorem OkB.del{u v:TUnit}(hu:OkB u){i:Nat}(hv:v∈aT u)(hi:i<v.kids.length):OkB (bL (au v) (dg i) u)/\(cD u).Perm (cD (bL (au v) (dg i) u)++cD (gD v.kids i)):=by
 obtain⟨v',C,h1,h2,h3,h4⟩:=mG u (mY hv);obtain rfl:=hu.uni h1 hv h2;obtain⟨h5,h6⟩:=h4 (dg i);have h7:(cD u).Perm (cD (bL (au v') (dg i) u)++cD (gD v'.kids i)):=h3.trans ((LQ C (Vk hi)).trans (by grind));have hnd:=h7.nodup_iff.1 hu.nd;refine⟨⟨(yO.1 hnd).1,?_,fun x hx=>?_⟩,h7⟩
 ·have:=h7.length_eq;grind[kj,cases OkB]
 ·rcases h6 x hx with h|⟨y,y1,y2,y3,y4,y5⟩
  ·rcases Ek h with rfl|h
   ·exact hu.w v' hv
   grind[cn,cases OkB]
  grind[cases OkB]
theorem FH{q:PId}{f:TUnit->TUnit}:∀u:TUnit,be q u=true->∃v,v∈aT u/\au v=q/\f v∈aT (bL q f u):=by
 refine TUnit.ind fun u ih h=>?_
 cases hi:fI q u with
 |true=>grind[ch,fC,rz]
 | false=>
  rw [mI hi];have key:∀r:List TUnit,(∀k,k∈r->k∈u.kids)->(∃k,k∈r/\be q k=true)->∃v,v∈cA r/\au v=q/\f v∈cA (eV q f r):=by
   intro r;induction r with
   |nil=>grind
   | cons k r ihr=>
    intro hs ⟨y,hy,hyq⟩;rw[gr,bY];cases hk:be q k with
    |true=>grind[bY]
    |false=>
     rcases dO.1 hy with rfl|hy
     ·grind
     ·obtain⟨v,a,b,c⟩:=ihr (fun k hk=>hs k (eC _ hk)) ⟨y,hy,hyq⟩;grind[bY]
  have hx:=fu h;have hne:bG q u≠u:=fun e=>by grind[fC]
  have hm:bG q u∈cA u.kids:=by grind[cq]
  obtain⟨k,k1,k2⟩:=jQ hm;obtain⟨v,a,b,c⟩:=key u.kids (fun _ h=>h) ⟨k,k1,mg k ⟨_,k2,hx.2⟩⟩;grind[cq,wO]
theorem RO{u q:TUnit}(hu:OkB u){i:Nat}(hq:q∈aT u)(hi:i<q.kids.length){p t:PId}{w:Int}{anc bs:Bool}(ht:be t u=true){ok:Bool}
  (he:(np p t (au q) (Int.ofNat i) ok anc bs (ce w u t).1 (ce w u t).2).2=0):
  Fg (bL (au q) (dg i) u) (np p t (au q) (Int.ofNat i) ok anc bs (ce w u t).1 (ce w u t).2).1:=by
 obtain⟨hr,_⟩:=hu.del hq hi;obtain⟨v',C,h1,h2,h3,h4⟩:=mG u (mY hq);obtain rfl:=hu.uni h1 hq h2;obtain⟨_,h6⟩:=h4 (dg i);have hlen:(dg i v').kids.length=v'.kids.length-1:=List.length_eraseIdx_of_lt hi;have own:∀v,v∈aT (bL (au v') (dg i) u)->au v=au v'->v.kids.length=v'.kids.length-1:=fun v hv e=>by
  obtain⟨z,z1,z2,z3⟩:=FH (q:=au v') (f:=dg i) u (mY hq);obtain rfl:=hu.uni z1 hq z2;rw[hr.uni hv z3 (e.trans rfl)];omega
 have oth:∀v,v∈aT (bL (au v') (dg i) u)->au v≠au v'->∃y,y∈aT u/\au v=au y/\v.kids.length=y.kids.length:=fun v hv hne=>by
  rcases h6 v hv with h|⟨y,y1,y2,y3,_⟩
  ·rcases Ek h with rfl|h
   ·exact absurd rfl hne
   ·exact⟨v,cn hq h,rfl,rfl⟩
  grind
 have hk:=bm v';have hb:=dD hq;have hn:=hu.n;unfold np at he ⊢;cases c1:(ax ok||((ax (bK t p)&&anc)||(bK t p&&ax bs)))with
 |true=>grind
 | false=>
  rw[c1]at he;simp only[cond_false]at he ⊢;cases c2:bK t p with
  |true=>
   refine⟨i,rfl,by omega,fun v hv hid=>?_⟩;grind[fC]
  | false=>
   rw[c2]at he;simp only[cond_false]at he ⊢;have e0:(ce w u t).2=0:=by grind
   obtain⟨n,n1,n2,n3⟩:=G2 hu ht e0;rw[e0,n1];cases c4:bK (ce w u t).1.id (au v')with
   |false=>
    have hne:(ce w u t).1.id≠au v':=fun e=>by grind[iG]
    rw[show(ay 0 0&&(false&&aB (Int.ofNat i) (Int.ofNat n)))=false from rfl];refine⟨n,n1,n2,fun v hv hid=>?_⟩;grind[fC]
   | true=>
    have heq:=uN c4;have hn':=n3 v' hq ((fC _ v').2 heq.symm);cases c5:aB (Int.ofNat i) (Int.ofNat n)with
    |true=>
     have c5:=aA c5;simp only[aM]at c5;rw[show(ay 0 0&&(true&&true))=true from rfl];refine⟨n-1,by grind,by omega,fun v hv hid=>?_⟩;grind[fC]
    |false=>
     have c5:=aF c5;simp only[aM]at c5;rw[show(ay 0 0&&(true&&false))=false from rfl];refine⟨n,n1,n2,fun v hv hid=>?_⟩;grind[fC]
def zx(a i:Int)(n k:Nat):List PId:=(List.range' (n+1) k).map fun j=>⟨a,i,Int.ofNat j⟩
mutual
theorem ry(a i:Int):∀(u:TUnit)(n w:Nat),cD (cV a i u n w)=zx a i n (nU u)
 |⟨a',i',n',k,l,h,ws,ks⟩,n,w=>by
  rw[mf,cV,nU];show _::hJ (eb a i ks (n+1) _)=_
  rw[zq a i ks (n+1)];unfold zx;rw[Nat.add_comm 1 (eW ks),yF,eg];rfl
theorem zq(a i:Int):∀(l:List TUnit)(n w:Nat),hJ (eb a i l n w)=zx a i n (eW l)
 |[],n,w=>by rw[eb,eW,ru];rfl
 |k::r,n,w=>by
  rw[eb,eW,fD,ry a i k n w,zq a i r (n+nU k)];unfold zx;rw[<-oJ,show n+nU k+1=n+1+nU k by omega,<-List.range'_append_1]
end
theorem Qq(a i:Int)(n k:Nat):(zx a i n k).Nodup:=by
 unfold zx;exact List.Pairwise.map _ (fun x y hne e=>hne (Int.ofNat.inj (congrArg PId.n e))) List.nodup_range'
mutual
theorem La(a i:Int)(B:Nat):∀(u:TUnit)(n w:Nat),(∀x,x∈aT u->x.head.length<=B/\x.words.length<=B)->∀x,x∈aT (cV a i u n w)->x.head.length<=B/\x.words.length<=B
 |⟨a',i',n',k,l,h,ws,ks⟩,n,w,hB,x,hx=>by
  rw[cV,aT]at hx;rcases dO.1 hx with rfl|hx
  ·have:=hB _ (by rw[aT];exact eR);exact⟨by show(ca _ _ _ _).length<=B;rw[gJ,bC,b9];exact this.1,by show(ca _ _ _ _).length<=B;rw[gJ,bC,b9];exact this.2⟩
  ·exact F6 a i B ks _ _ (fun y hy=>hB y (by rw[aT];exact eC _ hy)) x hx
theorem F6(a i:Int)(B:Nat):∀(l:List TUnit)(n w:Nat),(∀x,x∈cA l->x.head.length<=B/\x.words.length<=B)->∀x,x∈cA (eb a i l n w)->x.head.length<=B/\x.words.length<=B
 |[],n,w,hB,x,hx=>by rw[eb,cA]at hx;cases hx
 |k::r,n,w,hB,x,hx=>by
  rw[eb,cA]at hx;rcases fK.1 hx with hx|hx
  ·exact La a i B k _ _ (fun y hy=>hB y (by rw[cA];exact yE _ hy)) x hx
  ·exact F6 a i B r _ _ (fun y hy=>hB y (by rw[cA];exact tg _ hy)) x hx
end
theorem zz(a i:Int)(u:TUnit)(n w:Nat):nU (cV a i u n w)=nU u:=by grind[kj,ry,zx]
variable{S T:Int->Int->Prop}{u v x:TUnit}{q:PId}{f:TUnit->TUnit}{a i:Int}
theorem zn{l:List PWord}{w:PWord}(h:w∈sM l):w∈l:=by grind[sM]
end Go.Ev
namespace Go.Ev
open Go
variable{u v x:TUnit}{q:PId}{f:TUnit->TUnit}{a i:Int}
def fl{α:Type}(g:TUnit->List α)(u:TUnit):List α:=(aT u).flatMap g
def I0{α:Type}(g:TUnit->List α)(l:List TUnit):List α:=(cA l).flatMap g
section
variable{α:Type}{g:TUnit->List α}
theorem xw(u:TUnit):fl g u=g u++I0 g u.kids:=by grind[fl,I0,cq]
theorem Vr:I0 g []=[]:=by unfold I0;rw[eS];rfl
theorem nW(k:TUnit)(r:List TUnit):I0 g (k::r)=fl g k++I0 g r:=by grind[fl,I0,bY]
theorem MH(l m:List TUnit):I0 g (l++m)=I0 g l++I0 g m:=by
 induction l with
 |nil=>rw[Vr];rfl
 |cons k r ih=>grind[nW]
theorem DP(hg:∀u ks,g (jD u ks)=g u):∀u:TUnit,be q u=true->∃v C,v∈aT u/\au v=q/\(fl g u).Perm (C++fl g v)/\∀f,(fl g (bL q f u)).Perm (C++fl g (f v)):=TUnit.ind fun u ih h=>by
 cases hi:fI q u with
 |true=>exact⟨u,[],ch u,(fC q u).1 hi,.refl _,fun f=>by simp_all[rz]⟩
 | false=>
  have key:∀r:List TUnit,(∀k,k∈r->k∈u.kids)->cQ q r≠[]->∃v C,v∈cA r/\au v=q/\(I0 g r).Perm (C++fl g v)/\∀f,(I0 g (eV q f r)).Perm (C++fl g (f v)):=by
   intro r;induction r with
   |nil=>intro _ hw;rw[jL]at hw;simp_all
   | cons k r ihr=>
    intro hm hw;cases hk:be q k with
    |true=>
     obtain⟨v,C,h1,h2,h3,h4⟩:=ih k (hm k (eR ..)) hk;refine⟨v,I0 g r++C,by grind[bY],h2,?_,fun f=>?_⟩
     ·rw[nW,jy];exact Pu.trans (h3.append_left _)
     ·rw[gr,hk,cond_true,nW,jy];exact Pu.trans ((h4 f).append_left _)
    |false=>
     rw[gc hk]at hw;obtain⟨v,C,h1,h2,h3,h4⟩:=ihr (fun x hx=>hm x (eC _ hx)) hw;refine⟨v,fl g k++C,by grind[bY],h2,?_,fun f=>?_⟩
     ·rw[nW,jy];exact h3.append_left _
     ·rw[gr,hk,cond_false,nW,jy];exact(h4 f).append_left _
  have hw:cQ q u.kids≠[]:=by
   intro e;have:=jr h;rw[fG,hi,e]at this;simp_all
  obtain⟨v,C,h1,h2,h3,h4⟩:=key u.kids (fun _ h=>h) hw;refine⟨v,g u++C,by grind[cq],h2,by rw[xw,jy];exact h3.append_left _,fun f=>?_⟩;rw[mI hi,xw,hg,jy];exact(h4 f).append_left _
theorem Yb(hg:∀u ks,g (jD u ks)=g u){j:Nat}:(fl g (dQ j x v)).Perm (fl g v++fl g x):=by
 rw[xw v];unfold dQ uF;rw[xw,hg,jy];refine LQ _ ?_;show(I0 g (v.kids.take j++(x::v.kids.drop j))).Perm _
 grind[MH,nW,List.take_append_drop,List.perm_append_comm]
theorem Yc(hg:∀u ks,g (jD u ks)=g u){j:Nat}(h:j<v.kids.length):(fl g v).Perm (fl g (dg j v)++fl g (gD v.kids j)):=by
 rw[xw v];unfold dg;rw[xw,hg,jy];refine LQ _ ?_;show(I0 g v.kids).Perm (I0 g (v.kids.eraseIdx j)++_)
 have e:v.kids=v.kids.take j++(gD v.kids j::v.kids.drop (j+1)):=by grind[gD,List.drop_eq_getElem_cons,List.take_append_drop]
 grind[MH,nW,List.Perm.append_left,List.perm_append_comm]
end
variable{l:List PWord}{old new part:List aH}{n:Int}
end Go.Ev
namespace Go.Ev
open Go
def sR(u:TUnit):List (PId×aH×List PWord×List PWord):=[(au u,u.label,u.head,u.words)]
theorem ox(u:TUnit)(ks:List TUnit):sR (jD u ks)=sR u:=rfl
theorem Uf(u:TUnit):(fl sR u).map (·.1)=cD u:=by
 unfold fl cD;induction aT u with
 |nil=>rfl
 |cons x r ih=>simp_all[CW,sR]
theorem LH{u:TUnit}{c:PId×aH×List PWord×List PWord}(h:c∈fl sR u):c.1∈cD u:=by rw[<-Uf];exact wi h
def Un(A:List PId)(u v:TUnit):Prop:=∀c,c.1∉A->(c∈fl sR u↔c∈fl sR v)
section
variable{A:List PId}{u v x q:TUnit}{p t:PId}{f:TUnit->TUnit}{i j:Nat}{w:Int}
theorem Un.refl:Un A u u:=fun _ _=>.rfl
theorem uE(h:be p u=true):(fl sR (bL p (dQ j x) u)).Perm (fl sR u++fl sR x):=by
 obtain⟨v,C,h1,h2,h3,h4⟩:=DP ox u h;refine(h4 _).trans (((Yb ox).append_left C).trans ?_);rw[<-jy];exact h3.symm.append_right _
theorem Xw:Un (cD x) u (bL p (dQ j x) u):=by
 cases h:be p u with
 |false=>rw[mH u h];exact .refl
 |true=>
  intro c hc;rw[(uE h).mem_iff,fK];exact⟨.inl,fun h=>h.resolve_right fun h=>hc (LH h)⟩
theorem uS(hu:OkB u)(hv:v∈aT u)(hi:i<v.kids.length):(fl sR u).Perm (fl sR (bL (au v) (dg i) u)++fl sR (gD v.kids i)):=by
 obtain⟨v',C,h1,h2,h3,h4⟩:=DP ox u (mY hv);obtain rfl:=hu.uni h1 hv h2;refine h3.trans (((Yc ox hi).append_left C).trans ?_);rw[<-jy];exact(h4 _).symm.append_right _
theorem Xv(hu:OkB u)(hv:v∈aT u)(hi:i<v.kids.length):Un (cD (gD v.kids i)) u (bL (au v) (dg i) u):=fun c hc=>by
 rw[(uS hu hv hi).mem_iff,fK];exact⟨fun h=>h.resolve_right fun h=>hc (LH h),.inl⟩
theorem DT(hf:∀v,au (f v)=au v/\(f v).kids=v.kids):Un [p] u (bL p f u):=by
 cases h:be p u with
 |false=>rw[mH u h];exact .refl
 |true=>
  obtain⟨v,C,h1,h2,h3,h4⟩:=DP ox u h;intro c hc;rw[h3.mem_iff,(h4 f).mem_iff,xw,xw,(hf v).2];have e:=(hf v).1;simp only[fK,sR,ig]at *;grind
theorem TE:∀u:TUnit,(cD u).Nodup->∀y,x∈aT u->y∈cA x.kids->au y=p->x∈(aC p u).take ((aC p u).length -1):=TUnit.ind fun u ih hn y hx hy hp=>by
 have hyx:y∈aT x:=by rw[cq];exact eC _ hy
 rw [mf,List.nodup_cons]at hn;have hi:fI p u=false:=by
  cases hi:fI p u with
  |false=>rfl
  | true=>
   have hyu:y∈cA u.kids:=by
    rw[cq]at hx;rcases dO.1 hx with rfl|hx
    ·exact hy
    ·obtain⟨k,k1,k2⟩:=jQ hx;exact wZ k1 (cn k2 hyx)
   exact absurd (by rw[(fC p u).1 hi,<-hp];exact wi hyu) hn.1
 have key:∀r:List TUnit,(∀k,k∈r->k∈u.kids)->(hJ r).Nodup->x∈cA r->x∈(cQ p r).take ((cQ p r).length -1):=by
  intro r;induction r with
  |nil=>intro _ _ h;rw[eS]at h;cases h
  | cons k r ihr=>
   intro hm hd hx;rw[fD,yO]at hd;rw[bY,fK]at hx;cases hk:be p k with
   |true=>
    rw[mL hk];rcases hx with hx|hx
    ·exact ih k (hm k (eR ..)) hd.1 y hx hy hp
    ·obtain⟨k',k1,k2⟩:=jQ hx;have h1:=fu hk;exact absurd rfl (hd.2.2 p (h1.2▸wi h1.1) p (hp▸wi (wZ k1 (cn k2 hyx))))
   |false=>
    rw[gc hk];refine ihr (fun k h=>hm k (eC _ h)) hd.2.1 (hx.resolve_left fun h=>?_);rw[mg k ⟨y,cn h hyx,hp⟩]at hk;cases hk
 have hne:be p u=true:=mg u ⟨y,cn hx hyx,hp⟩;have e:=jr hne;rw[fG,hi]at e ⊢;rw[cq]at hx;cases ew:cQ p u.kids with
 |nil=>rw[ew]at e;exact absurd rfl e
 |cons z l=>
  show x∈(u::z::l).take ((z::l).length+1-1)
  rw[Nat.add_sub_cancel,show(z::l).length=l.length+1 from rfl,List.take_succ_cons];rcases dO.1 hx with rfl|hx
  ·exact eR ..
  ·have:=key u.kids (fun _ h=>h) hn.2 hx;rw[ew]at this;exact eC _ this
theorem RN(hu:OkB u)(hq:q∈aT u)(hi:i<q.kids.length)(ht:be t u=true){ok bs:Bool}
  (he:(np (au (gD q.kids i)) t (au q) (Int.ofNat i) ok ((mn t u).any (bK (au (gD q.kids i)))) bs (ce w u t).1 (ce w u t).2).2=0):
  be (np (au (gD q.kids i)) t (au q) (Int.ofNat i) ok ((mn t u).any (bK (au (gD q.kids i)))) bs (ce w u t).1 (ce w u t).2).1.id (bL (au q) (dg i) u)=true:=by
 have hpm:=(hu.del hq hi).2;have hx:gD q.kids i∈aT u:=cn hq (bq (dZ hi) (ch _));generalize gD q.kids i=x at *;have far:∀z,z∈aT u->(z∈aT x->False)->be (au z) (bL (au q) (dg i) u)=true:=fun z hz h=>by
  rcases fK.1 (hpm.mem_iff.1 (wi (f:=au) hz))with m|m
  ·obtain⟨y,y1,y2⟩:=gn.1 m;exact mg _ ⟨y,y1,y2⟩
  ·obtain⟨y,y1,y2⟩:=gn.1 m;exact absurd (hu.uni (cn hx y1) hz y2▸y1) h
 unfold np at he ⊢;cases c1:(ax ok||((ax (bK t (au x))&&(mn t u).any (bK (au x)))||(bK t (au x)&&ax bs)))with
 |true=>rw[c1]at he;simp only[cond_true]at he;cases he
 | false=>
  rw[c1]at he;simp only[cond_false]at he ⊢;cases c2:bK t (au x)with
  |true=>
   simp only[cond_true];obtain⟨v,v1,v2,v3⟩:=FH (q:=au q) (f:=dg i) u (mY hq);exact mg _ ⟨_,v3,v2⟩
  | false=>
   rw[c2]at he c1;simp only[cond_false]at he ⊢;have e0:(ce w u t).2=0:=by grind
   have e1:∀b:Bool,(bif b then((⟨(ce w u t).1.id,(ce w u t).1.at_ -1⟩:PSpot),(ce w u t).2)else((ce w u t).1,(ce w u t).2)).1.id=(ce w u t).1.id:=fun b=>by cases b<;>rfl
   rw[e1];have hanc:(mn t u).any (bK (au x))=false:=by
    cases h:(mn t u).any (bK (au x))with
    |false=>rfl
    |true=>rw[h]at c1;simp[ax]at c1
   obtain⟨t1,t2⟩:=fu ht;have hnt:∀y,y∈aT x->au y=t->False:=fun y hy e=>by
    rw[cq]at hy;rcases dO.1 hy with rfl|hy
    ·rw[e,iG]at c2;cases c2
    ·have z:=TE u hu.nd y hx hy e;rw[List.any_eq_false]at hanc;refine hanc (au x) ?_ (iG _);unfold mn;rw[List.mem_reverse];exact wi z
   have hT:be t (bL (au q) (dg i) u)=true:=by
    have:=far _ t1 fun h=>hnt _ h t2
    rwa[t2]at this
   have hP:∀n,(kr u t n).2=0->be (kr u t n).1.id (bL (au q) (dg i) u)=true:=fun n hn=>by
    unfold kr at hn ⊢;cases h:jj t u with
    |false=>rw[h]at hn;cases hn
    |true=>
     obtain⟨P,k,k1,k2,k3,k4,k5⟩:=re u h;show be (r9 t u) _=true
     rw[k2];exact far P k1 fun hh=>hnt _ (cn hh (bq (dZ k4) (ch _))) k5
   unfold ce at e0 ⊢;cases h0:ay w 0 with
   |true=>exact hT
   | false=>
    rw[h0]at e0;simp only[cond_false]at e0 ⊢;cases h1:ay w 1 with
    |true=>exact hT
    |false=>
     rw[h1]at e0;simp only[cond_false]at e0 ⊢;cases h2:ay w 2 with
     |true=>rw[h2]at e0;exact hP 1 e0
     |false=>rw[h2]at e0;exact hP 0 e0
theorem Xk(hu:OkB u)(hq:q∈aT u)(hi:i<q.kids.length)(h:be p (bL (au q) (dg i) u)=true):Un A u (bL p (dQ j (gD q.kids i)) (bL (au q) (dg i) u)):=fun c _=>by rw[(uS hu hq hi).mem_iff,(uE h).mem_iff]
theorem LI(hu:OkB u){c:PId×aH×List PWord×List PWord}:c∈fl sR u↔be c.1 u=true/\(bG c.1 u).label=c.2.1/\(bG c.1 u).head=c.2.2.1/\(bG c.1 u).words=c.2.2.2:=by
 unfold fl;rw[List.mem_flatMap];constructor
 ·rintro⟨y,y1,y2⟩
  obtain rfl:=ig.1 y2;have h:=mY y1;have e:=hu.uni (fu h).1 y1 (fu h).2;show be (au y) u=true/\(bG (au y) u).label=_/\(bG (au y) u).head=_/\(bG (au y) u).words=_
  rw[e];exact⟨h,rfl,rfl,rfl⟩
 ·rintro⟨h,h1,h2,h3⟩
  refine⟨_,(fu h).1,ig.2 ?_⟩;rw[(fu h).2,h1,h2,h3]
theorem Un.find(hu:OkB u)(hv:OkB v)(h:Un A u v)(hp:p∉A):be p u=be p v/\(bG p u).label=(bG p v).label/\(bG p u).head=(bG p v).head/\(bG p u).words=(bG p v).words:=by
 have k:=fun a b c=>h (p,a,b,c) hp
 simp only[LI hu,LI hv]at k;cases h1:be p u with
 |true=>
  have:=(k _ _ _).1 ⟨h1,rfl,rfl,rfl⟩;exact⟨this.1.symm,this.2.1.symm,this.2.2.1.symm,this.2.2.2.symm⟩
 |false=>
  cases h2:be p v with
  |true=>have:=(k _ _ _).2 ⟨h2,rfl,rfl,rfl⟩;rw[h1]at this;exact absurd this.1 (by decide)
  |false=>unfold bG;rw[h1,h2];exact⟨rfl,rfl,rfl,rfl⟩
end
end Go.Ev
