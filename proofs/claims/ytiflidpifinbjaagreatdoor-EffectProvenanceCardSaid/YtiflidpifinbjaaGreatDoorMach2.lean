/- An abstract machine for runs of the program, proved sound against the model: part 2. No conditions. -/
import Derived.Test.YtiflidpifinbjaaGreatDoorMach1
import Derived.Laws.StructEq
import Derived.WalkLawsBesides
import Derived.WalkSpells
import Derived.IntWalk
import Derived.Laws.BytesString
import Derived.Lib.ConvBytes
import Derived.Lib.AppendZerosOnto
import Derived.MapKept
namespace Go.Ev
open Go
section
variable{P:Program}{G:fz}{pl:Pl}{M:dN}{h h':AHeap}{w w':World}{v:AV}{A:Fr}{a:Act}
theorem i7{k:IntKind}{n y:Nat}(hn:n<=y)(code:BoundsCode)(w:World):(Instr.sliceBound (.int k (n:Int)) y code).run P w=.ok n w:=by simp[Instr.sliceBound,asIntOf,hn]
def CB(pl:Pl)(M:dN)(x:lae)(c:lbe):Prop:=
 match x,c with
 |none,none=>True
 |some x,some c=>VRel pl M x c
 |_,_=>False
theorem oH{x:Option Operand}{k:lae->lae}{r:AV}(hg:qc G pl M)(hf:FrRel pl M A a)(e:rK G x A k=some r):
  ∃o,k o=some r/\CB pl M o (x.map a.eval):=by
 cases x with
 |none=>exact⟨none,e,trivial⟩
 |some x=>
  simp only[rK]at e;cases h1:(cA G x).run A with
  |none=>simp_all
  |some v=>rw[h1]at e;exact⟨some v,e,bK hg hf h1⟩
theorem ny{d n:Nat}{x:lae}{c:lbe}(hx:CB pl M x c)(e:jk d x=some n):(x=none/\c=none/\n=d)\/(∃k,c=some (.int k (n:Int))/\x≠none):=by
 cases x with
 |none=>
  cases c with
  |none=>grind[jk]
  |some c=>exact hx.elim
 | some x=>
  cases c with
  |none=>exact hx.elim
  |some c=>
   obtain⟨k,rfl⟩:=ig hx e;simp_all
theorem n6{isSlice:Bool}{len cap l u:Nat}{clo chi:lbe}(hl:(clo=none/\l=0)\/∃k,clo=some (.int k (l:Int)))(hu:(chi=none/\u=len)\/∃k,chi=some (.int k (u:Int)))
  (h1:l<=u)(h2:u<=cap)(w:World):(Instr.sliceBounds isSlice len cap clo chi none).run P w=.ok (l,u,cap) w:=by
 rcases hl with⟨rfl,rfl⟩|⟨k,rfl⟩<;>rcases hu with⟨rfl,rfl⟩|⟨k',rfl⟩<;>simp[Instr.sliceBounds,i7 h2,i7 h1]
theorem qR{isSlice:Bool}{len cap l u m:Nat}{clo:lbe}{k1 k2:IntKind}(hl:(clo=none/\l=0)\/∃k,clo=some (.int k (l:Int)))
  (h1:l<=u)(h2:u<=m)(h3:m<=cap)(w:World):(Instr.sliceBounds isSlice len cap clo (some (.int k1 (u:Int))) (some (.int k2 (m:Int)))).run P w=.ok (l,u,m) w:=by
 rcases hl with⟨rfl,rfl⟩|⟨k,rfl⟩<;>simp[Instr.sliceBounds,i7 h2,i7 h1,i7 h3]
theorem kX{t e:TypeId}{s:Nat}(ht:P.underlying t=some (.slice e))(hs:dV P e=some s){ad:lbf}{len cap l u m:Nat}{clo chi cmx:lbe}
  (hb:(Instr.sliceBounds true len cap clo chi cmx).run P w=.ok (l,u,m) w):
  (Instr.sliceAt t (.slice ad len cap) clo chi cmx).run P w=.ok (.slice (if m=l then ad else ad.map (·.add (l*s))) (u-l) (m-l)) w:=by
 simp_all[Instr.sliceAt,run_underlying,Instr.slice,dZ]
theorem EL{t:TypeId}(ht:P.underlying t=some .string){s:lar}{l u:Nat}{clo chi:lbe}
  (hb:(Instr.sliceBounds false s.length s.length clo chi none).run P w=.ok (l,u,s.length) w)(hlu:l<=u)(hus:u<=s.length):
  (Instr.sliceAt t (.string ⟨⟨s⟩⟩) clo chi none).run P w=.ok (.string ⟨⟨(s.take u).drop l⟩⟩) w:=by
 have hsz:(⟨⟨s⟩⟩:ByteArray).size=s.length:=rfl;have he:(⟨⟨s⟩⟩:ByteArray).extract l u=⟨⟨(s.take u).drop l⟩⟩:=by
  apply ByteArray.ext;simp_all[List.drop_take]
 simp_all[Instr.sliceAt,run_underlying,Instr.slice]
theorem uJ{id ep off l u m:Nat}{cap:lan}{v:AV}(e:qj id ep off l u m cap=some v):l<=u/\u<=m/\
  ((∃c,cap=some c/\c=l/\v=.slice id ep 0 0 (some 0))\/(∃c,cap=some c/\c≠l/\v=.slice id ep (off+l) (u-l) (some (c-l)))\/(cap=none/\v=.slice id ep (off+l) (u-l) none)):=by
 unfold qj at e;grind[bd,aD]
theorem Ta{id ep off len cap' l u m:Nat}{cap capN:lan}{sz:Nat}{xs:laa}{p:Place}{ad:Addr}{v:AV}(hp:pl id=some p)(hep:p.ep=ep)(hsz:p.sz=sz)(hn:p.n=xs.length)
  (hcap:∀k,cap=some k->cap'=k)(had:cap'=0\/ad=⟨p.blk,off*sz,none⟩)(htot:(off+cap')*sz<=p.tot)(hnone:cap=none->xs.length<=off+cap')(hsome:∀k,cap=some k->off+k<=xs.length)
  (hroom:u<=room xs.length off cap)(hlu:l<=u)(hum:u<=m)(hmc:m<=cap')(hoff:off+len<=xs.length)
  (hcN:(capN=none/\cap=none/\m=cap')\/(∃c,capN=some c/\m=c/\c<=room xs.length off cap))(e:qj id ep off l u m capN=some v):
  VRel pl M v (.slice (if m=l then some ad else(some ad).map (·.add (l*sz))) (u-l) (m-l)):=by
 have hroomN:room xs.length off cap+off<=xs.length\/(room xs.length off cap=0/\xs.length<off):=by
  cases cap with
  |none=>grind[room]
  |some c=>grind[room]
 obtain⟨_,_,hh⟩:=uJ e;have haddr:∃ad',(if m=l then some ad else(some ad).map (·.add (l*sz)))=some ad'/\(m-l=0\/ad'=⟨p.blk,(off+l)*sz,none⟩):=by grind[Addr.add_lit,Nat.add_mul]
 obtain⟨ad',h1,h2⟩:=haddr;rw[h1];have htot2:(off+l+(m-l))*p.sz<=p.tot:=by
  rw[hsz];refine b0 (e9 _ ?_) htot;omega
 rcases hh with⟨c,hc,hcl,rfl⟩|⟨c,hc,hcl,rfl⟩|⟨hc,rfl⟩
 ·rcases hcN with⟨h9,_⟩|⟨c2,h9,h10,_⟩
  ·grind
  ·rw[h9]at hc;simp at hc;have hm0:m-l=0:=by omega
   have hu0:u-l=0:=by omega
   rw[hm0,hu0];exact .slice hp (by omega) (ar _) (λk hk=>by simp_all) λ_=>⟨.inl rfl,by simp,by simp,(λhk=>by grind),(λk hk=>by grind)⟩
 ·rcases hcN with⟨h9,_⟩|⟨c2,h9,h10,h11⟩
  ·grind
  ·rw[h9]at hc;simp at hc;refine .slice hp (by omega) (by omega) (λk hk=>by simp_all) λ_=>⟨by simp_all,htot2,by omega,(λhk=>by grind),(λk hk=>by grind)⟩
 ·rcases hcN with⟨_,h9,h10⟩|⟨c2,h9,_⟩
  ·refine .slice hp (by omega) (by omega) (λk hk=>by grind) λ_=>⟨by simp_all,htot2,by omega,λ_=>by grind,λk hk=>by grind⟩
  grind
theorem Bs{xs:laa}{l u:Nat}{tight:Bool}{v:AV}(e:vi xs l u tight=some v):l<=u/\u<=xs.length/\v=.ps ((xs.take u).drop l) tight:=by grind[vi,bd]
theorem IB{xs:laa}{tight tN:Bool}{cx:Value}{s l u m:Nat}(hx:VRel pl M (.ps xs tight) cx)(hsz:pE s xs=true)(hlu:l<=u)(hux:u<=xs.length):
  ∃ad cap,cx=.slice (some ad) xs.length cap/\xs.length<=cap/\(tight=true->cap=xs.length)/\(u<=m->m<=cap->(tN=true->m=u)->
   VRel pl M (.ps ((xs.take u).drop l) tN) (.slice (if m=l then some ad else(some ad).map (·.add (l*s))) (u-l) (m-l))):=by
 cases hx with
 | ps hl ht hm hs hc=>
  rename_i ad cap sz c;refine⟨ad,cap,rfl,hl,ht,λhum hmc htN=>?_⟩;have hlen:((xs.take u).drop l).length=u-l:=by simp_all
  have hget:∀(i:Nat)(x:AV),((xs.take u).drop l)[i]?=some x->xs[l+i]?=some x:=by grind
  have hmem:∀x,x∈(xs.take u).drop l->x∈xs:=λx hx=>sE (Qz hx)
  rw[<-hlen];by_cases hml:m=l
  ·have hnil:(xs.take u).drop l=[]:=sB (by omega);rw[hnil];simp only[hml,if_true];exact .ps (c:=c) (sz:=sz) (by simp) (λ_=>by simp) (λhh=>absurd rfl hh) (λx hx=>by grind) (λi x j y hi=>by simp_all)
  ·simp only[hml,if_false,Option.map_some];by_cases hnil:(xs.take u).drop l=[]
   ·rw[hnil]at hlen ⊢;simp at hlen;refine .ps (c:=c) (sz:=sz) (by simp) (λhtt=>?_) (λhh=>absurd rfl hh) (λx hx=>by grind) (λi x j y hi=>by grind);grind
   ·have hne:xs≠[]:=by grind
    obtain⟨hspot,hM,hfit,h0⟩:=hm hne;have hsz2:sz=s:=by
     cases xs with
     |nil=>simp_all
     |cons x r=>simp_all[pE]
    subst hsz2;have had:ad=⟨ad.block,ad.off,none⟩:=by cases ad;simp_all
    have hadd:ad.add (l*sz)=⟨ad.block,ad.off+l*sz,none⟩:=by grind[Addr.add_lit]
    rw[hadd];refine .ps (c:=c) (sz:=sz) (by omega) (λhtt=>by grind) (λ_=>⟨rfl,hM,?_,h0⟩) (λx hx=>hs x (hmem x hx)) (λi x j y hi hj=>?_)
    ·have:=e9 sz hux;have e2:(l+(u-l))*sz=u*sz:=by grind
     grind
    grind
theorem tw(hr:cS pl M h w){s:Nat}{x v:AV}{cx:Value}{lo hi mx:lae}{clo chi cmx:lbe}(hx:VRel pl M x cx)(hlo:CB pl M lo clo)(hhi:CB pl M hi chi)(hmx:CB pl M mx cmx)
  {t e:TypeId}(ht:P.underlying t=some (.slice e))(hs:dV P e=some s)(he:gj s h (some x) lo hi mx=some v):∃cv,(Instr.sliceAt t cx clo chi cmx).run P w=.ok cv w/\VRel pl M v cv:=by
 unfold gj at he;split at he
 ·rename_i id ep off len cap e0;simp at e0;subst e0;split at he
  ·rename_i xs hrow;obtain⟨op,hg⟩:=AK hrow;obtain⟨p,c,t',ad,cap',q1,rfl,q3,q4,q5,q6,q7,q8,q9,q10,q11,q12,q13,q14,q15,q16,q17⟩:=nZ hr hx hg;have hroomcap:room xs.length off cap<=cap':=by
    cases cap with
    |none=>grind[room]
    |some k=>grind[room]
   have hroomlen:len<=room xs.length off cap:=by
    cases cap with
    |none=>grind[room]
    |some k=>grind[room]
   split at he
   ·rename_i l hnl;have hcl:(clo=none/\l=0)\/∃k,clo=some (.int k (l:Int)):=by grind[ny]
    split at he
    ·rename_i hi';cases cmx with
     |some c=>exact hmx.elim
     | none=>
      split at he
      ·rename_i u hnu;have hcu:(chi=none/\u=len)\/∃k,chi=some (.int k (u:Int)):=by grind[ny]
       obtain⟨b1,b2,_⟩:=uJ he;refine⟨_,kX ht hs (n6 hcl hcu b1 (b0 b2 hroomcap) w),?_⟩;have he2:qj id ep off l u cap' cap=some v:=by grind[qj,bd]
       refine Ta (cap:=cap) q1 q4 q5 q6 q12 q13 (by omega) q16 q17 b2 b1 (b0 b2 hroomcap) (ar _) q15 ?_ he2;cases cap with
       |none=>simp_all
       |some k=>exact .inr ⟨k,rfl,q12 k rfl,ar _⟩
      simp_all
    ·rename_i m hi';cases cmx with
     |none=>exact hmx.elim
     | some cm=>
      cases chi with
      |none=>exact hhi.elim
      | some cu=>
       split at he
       ·rename_i m' u hnm hnu;obtain⟨k1,rfl⟩:=ig hmx hnm;obtain⟨k2,rfl⟩:=ig hhi hnu;rw[bd]at he;by_cases hmr:m'<=room xs.length off cap
        ·simp[hmr]at he;obtain⟨b1,b2,_⟩:=uJ he;refine⟨_,kX ht hs (qR hcl b1 b2 (b0 hmr hroomcap) w),?_⟩;exact Ta (cap:=cap) q1 q4 q5 q6 q12 q13 (by omega) q16 q17 (b0 b2 hmr) b1 b2 (b0 hmr hroomcap) q15 (.inr ⟨m',rfl,rfl,hmr⟩) he
        simp_all
       simp_all
    simp_all
   simp_all
  simp_all
 ·rename_i xs tight e0;simp at e0;subst e0;split at he
  ·rename_i hsz;split at he
   ·rename_i l hnl;have hcl:(clo=none/\l=0)\/∃k,clo=some (.int k (l:Int)):=by grind[ny]
    split at he
    ·rename_i hi';cases cmx with
     |some c=>exact hmx.elim
     | none=>
      split at he
      ·rename_i u hnu;obtain⟨b1,b2,rfl⟩:=Bs he;have hcu:(chi=none/\u=xs.length)\/∃k,chi=some (.int k (u:Int)):=by grind[ny]
       cases hx with
       |ps hl htt hm hs2 hc=>
        rename_i ad cap sz c;obtain⟨ad2,cap2,e1,e2,e3,e4⟩:=IB (tN:=tight&&Nat.beq u xs.length) (m:=cap) (.ps hl htt hm hs2 hc) hsz b1 b2;simp at e1;obtain⟨rfl,rfl⟩:=e1;refine⟨_,kX ht hs (n6 hcl hcu b1 (b0 b2 e2) w),e4 (b0 b2 e2) (ar _) λhh=>?_⟩;simp_all
      simp_all
    ·rename_i m hi';cases cmx with
     |none=>exact hmx.elim
     | some cm=>
      cases chi with
      |none=>exact hhi.elim
      | some cu=>
       split at he
       ·rename_i m' u hnm hnu;obtain⟨k1,rfl⟩:=ig hmx hnm;obtain⟨k2,rfl⟩:=ig hhi hnu;rw[aD]at he;by_cases hmr:u=m'
        ·simp[hmr]at he;subst hmr;obtain⟨b1,b2,rfl⟩:=Bs he;cases hx with
         |ps hl htt hm hs2 hc=>
          rename_i ad cap sz c;obtain⟨ad2,cap2,e1,e2,e3,e4⟩:=IB (tN:=true) (m:=u) (.ps hl htt hm hs2 hc) hsz b1 b2;simp at e1;obtain⟨rfl,rfl⟩:=e1;exact⟨_,kX ht hs (qR hcl b1 (ar _) (b0 b2 e2) w),e4 (ar _) (b0 b2 e2) λ_=>rfl⟩
        simp_all
       simp_all
    simp_all
   simp_all
  simp_all
 ·rename_i e0;simp at e0;subst e0;cases hx
  split at he
  ·rename_i hi' hnl;cases cmx with
   |some c=>exact hmx.elim
   |none=>
    split at he
    ·rename_i hnu;simp at he;subst he;refine⟨_,kX ht hs (n6 (l:=0) (u:=0) ?_ ?_ (ar _) (ar _) w),by simpa using VRel.nils⟩;all_goals grind[ny]
    simp_all
  ·rename_i m hi' hnl;cases cmx with
   |none=>exact hmx.elim
   | some cm=>
    cases chi with
    |none=>exact hhi.elim
    |some cu=>
     split at he
     ·rename_i hnm hnu;simp at he;subst he;obtain⟨k1,rfl⟩:=ig hmx hnm;obtain⟨k2,rfl⟩:=ig hhi hnu;refine⟨_,kX ht hs (qR (l:=0) ?_ (ar _) (ar _) (ar _) w),by simpa using VRel.nils⟩;grind[ny]
     simp_all
  simp_all
 simp_all
theorem VRel.loose{ys:laa}{t:Bool}{cx:Value}(h:VRel pl M (.ps ys t) cx):VRel pl M (.ps ys false) cx:=by
 cases h with
 |ps hl ht hm hs hc=>exact .ps hl (λh=>by grind) hm hs hc
theorem GA(hr:cS pl M h w){s:Nat}{x v:AV}{cx:Value}{lo hi mx:lae}{clo chi cmx:lbe}(hx:VRel pl M x cx)(hlo:CB pl M lo clo)(hhi:CB pl M hi chi)(hmx:CB pl M mx cmx)
  {t e:TypeId}(ht:P.underlying t=some (.slice e))(hs:dV P e=some s)(he:dt s h (some x) lo hi mx=some v):∃cv,(Instr.sliceAt t cx clo chi cmx).run P w=.ok cv w/\VRel pl M v cv:=by
 unfold dt at he;split at he
 ·rename_i xs e0;simp at e0;subst e0;cases mx with
  |some m=>simp_all
  | none=>
   simp only[]at he;cases hq:gj s h (some (.ps xs false)) lo hi none with
   |none=>grind[Hc]
   | some r=>
    rw[hq]at he;cases hx with
    | lsp hx htop=>
     obtain⟨cv,k1,k2⟩:=tw (P:=P) hr hx hlo hhi hmx ht hs hq;unfold Hc at he;split at he
     ·rename_i ys tt q;cases q
      cases he
      refine⟨cv,k1,.lsp k2.loose ?_⟩;have hsub:∀y,y∈ys->y∈xs:=by
       simp only[gj]at hq;split at hq;all_goals grind[vi]
      exact ke.2 λy hy=>ke.1 htop y (hsub y hy)
     simp_all
    | lsn=>
     have key:gj s h (some .nils) lo hi none=some .nils/\v=.ls []:=by
      simp only[gj]at hq ⊢;split at hq
      ·split at hq
       ·rename_i l hl;simp only[hJ]at hq;split at hq
        ·rename_i u hu;unfold vi at hq;split at hq
         ·rename_i hb;simp only[bd,ba,decide_eq_true_eq,hJ]at hb;grind[Hc]
         simp_all
        simp_all
       simp_all
      simp_all
     obtain⟨k0,rfl⟩:=key;obtain⟨cv,k1,k2⟩:=tw (P:=P) hr .nils hlo hhi hmx ht hs k0;cases k2
     exact⟨_,k1,.lsn⟩
 grind[tw]
theorem Gu{x v:AV}{cx:Value}{lo hi:lae}{clo chi:lbe}(hx:VRel pl M x cx)(hlo:CB pl M lo clo)(hhi:CB pl M hi chi)
  {t:TypeId}(ht:P.underlying t=some .string)(he:lF (some x) lo hi=some v)(w:World):∃cv,(Instr.sliceAt t cx clo chi none).run P w=.ok cv w/\VRel pl M v cv:=by
 unfold lF at he;split at he
 ·rename_i s e0;simp at e0;subst e0;cases hx
  split at he
  ·rename_i u l hnu hnl;rw[bd,bd]at he;by_cases h1:l<=u
   ·by_cases h2:u<=s.length
    ·simp[h1,h2]at he;subst he;refine⟨_,EL ht (n6 ?_ ?_ h1 h2 w) h1 h2,.str _⟩;all_goals grind[ny]
    simp_all
   simp_all
  simp_all
 simp_all
theorem Ry(t:TypeId)(x:Operand)(lo hi mx:Option Operand):jJ P G (.slice t x lo hi mx):=by
 intro pl M A h v h' a w dst ty pos after guard hg hr hf he;simp only[fc]at he;cases hu:P.underlying t with
 |none=>grind[ab]
 | some d=>
  rw[hu]at he;cases d<;>try exact(ab he).elim
  case string=>
   cases mx with
   |some m=>grind[ab]
   | none=>
    obtain⟨u,e1,e2⟩:=bF he;simp at e2;obtain⟨rfl,rfl⟩:=e2;obtain⟨olo,e3,r3⟩:=oH hg hf e1;obtain⟨ohi,e4,r4⟩:=oH hg hf e3;cases hx:(cA G x).run A with
    |none=>grind[lF]
    |some xv=>
     rw[hx]at e4;obtain⟨cv,k1,k2⟩:=Gu (P:=P) (bK hg hf hx) r3 r4 hu e4 w;simp_all[execOp,qr.pure]
  case slice e=>
   cases hs:dV P e with
   |none=>grind[ab]
   | some s=>
    cases s with
    |zero=>grind[ab]
    | succ s=>
     simp only[hs]at he;obtain⟨u,e1,e2⟩:=bF he;simp at e2;obtain⟨rfl,rfl⟩:=e2;obtain⟨olo,e3,r3⟩:=oH hg hf e1;obtain⟨ohi,e4,r4⟩:=oH hg hf e3;obtain⟨omx,e5,r5⟩:=oH hg hf e4;cases hx:(cA G x).run A with
     |none=>grind[dt,gj]
     |some xv=>
      rw[hx]at e5;obtain⟨cv,k1,k2⟩:=GA (P:=P) hr (bK hg hf hx) r3 r4 r5 hu hs e5;simp_all[execOp,qr.pure]
end
section
variable{P:Program}{G:fz}{pl:Pl}{M:dN}{h h':AHeap}{w w':World}{v:AV}{A:Fr}{a:Act}
theorem lI{j k:IntKind}:lX j k=decide (j=k):=by cases j<;>cases k<;>rfl
theorem pL:∀(x y:Int),ae x y=(x==y)
 | .ofNat x,.ofNat y=>by grind[ae,aD]
 | .negSucc x,.negSucc y=>by grind[ae,aD]
 | .ofNat x,.negSucc y=>by simp_all[ae]
 | .negSucc x,.ofNat y=>by simp_all[ae]
theorem wC:∀(x y:Int),aE x y=decide (x<y)
 | .ofNat x,.ofNat y=>by grind[aE,dG]
 | .negSucc x,.negSucc y=>by grind[aE,dG]
 | .ofNat x,.negSucc y=>by grind[aE]
 | .negSucc x,.ofNat y=>by grind[aE]
theorem Qn(a b:UInt8):Nat.beq a.toNat b.toNat=(a==b):=by rw[aD,zd];simp[UInt8.toNat_inj]
theorem ri:∀(x y:lar),ei x y=(x==y)
 |[],[]=>rfl
 |[],_::_=>rfl
 |_::_,[]=>rfl
 |a::x,b::y=>by simp only[ei,Qn,ri x y];rfl
theorem AD:∀(x y:lar),Vs x y=Op.bytesLess x y
 |_,[]=>by grind[Vs,Op.bytesLess]
 |[],_::_=>by simp[Vs,Op.bytesLess]
 |a::x,b::y=>by
  simp only[Vs,Op.bytesLess,Qn,AD x y,dG];congr 1
theorem jx(s:lar):(⟨⟨s⟩⟩:ByteArray).toList=s:=by simp_all
theorem xT{k r:lax}{b:Bool}(e:Bb k r=some b):(r=some true/\k=some b)\/(r=some false/\b=false):=by
 cases r with
 |none=>grind[Bb]
 | some r => cases r<;>simp[Bb]at e
             all_goals simp_all
theorem Bc(xs ys:laa):∀(a b:List (Nat×Nat)),yg xs ys (a++b)=Bb (yg xs ys b) (yg xs ys a)
 |[],b=>rfl
 |(i,t)::r,b=>by
  simp only[zh,yg,Bc xs ys r b];cases Uw t (jI xs i) (jI ys i)with
  |none=>rfl
  |some q=>cases q<;>rfl
theorem fR{d:TypeDesc}{k:Nat}(e:qM d=some k):(d=.bool/\k=0)\/(∃i,d=.int i/\k=1)\/(d=.string/\k=2):=by cases d<;>simp[qM]at e<;>simp[e]
theorem S4{x y:AV}{cx cy:Value}(hx:VRel pl M x cx)(hy:VRel pl M y cy){b:Bool}{k:Nat}(e:K5 k x y=some b){t:TypeId}{d:TypeDesc}
  (ht:P.underlying t=some d)(hk:qM d=some k)(n:Nat)(w:World):(Op.equalIn (n+1) t cx cy).run P w=.ok b w:=by
 unfold K5 at e;split at e
 ·rw[lI]at e;split at e
  ·rename_i hj;simp at hj e;subst hj;cases hx;cases hy
   rcases fR hk with⟨_,h0⟩|⟨i,rfl,_⟩|⟨_,h0⟩
   all_goals grind[run_equalIn_int,pL]
  simp_all
 ·simp at e;cases hx;cases hy
  rcases fR hk with⟨_,h0⟩|⟨i,rfl,h0⟩|⟨rfl,_⟩
  all_goals grind[run_equalIn_string,ri,jx]
 ·simp at e;cases hx;cases hy
  rcases fR hk with⟨rfl,_⟩|⟨i,rfl,h0⟩|⟨_,h0⟩
  all_goals grind[run_equalIn_bool']
 simp_all
theorem S5{k:Nat}{x y:lae}{b:Bool}(e:Uw k x y=some b):∃u v,x=some u/\y=some v/\K5 k u v=some b:=by
 cases x<;>cases y<;>simp[Uw]at e
 simp_all
def rC(P:Program)(t:TypeId)(vx:Array Value)(off:Nat)(cx:Value):Prop:=
 match dW P t with
 |some true=>∃ex,cx=.agg ex/\∀k,k<(dV P t).getD 0->ex[k]?=vx[off+k]?
 |some false=>vx[off]?=some cx
 |none=>False
theorem iy{t:TypeId}{fs:Array Field}(h:P.underlying t=some (.struct fs)):dW P t=some true:=by grind[dW]
theorem oO{t:TypeId}{d:TypeDesc}{k:Nat}(h:P.underlying t=some d)(hk:qM d=some k):dW P t=some false:=by rcases fR hk with⟨rfl,_⟩|⟨i,rfl,_⟩|⟨rfl,_⟩<;>simp[dW,h]
theorem gc{n off:Nat}{t:TypeId}{ls:List (Nat×Nat)}(e:eW P (n+1) t off=some ls):
  (∃fs sz,P.underlying t=some (.struct fs)/\dV P t=some sz/\P.stoodInHeld t=false/\pB P (eW P n) sz off fs.toList=some ls)\/
  (∃d k,P.underlying t=some d/\dV P t=some 1/\qM d=some k/\ls=[(off,k)]):=by
 simp only[eW]at e;cases hu:P.underlying t with
 |none=>simp_all
 | some d=>
  cases hs:dV P t with
  |none=>simp_all
  | some sz=>
   by_cases hd:∃fs,d=.struct fs
   ·grind
   ·have hd2:∀fs,d≠.struct fs:=λfs h=>hd ⟨fs,h⟩
    have h1:sz=1/\∃k,qM d=some k/\ls=[(off,k)]:=by
     rw[hu,hs]at e;cases d<;>first|exact absurd rfl (hd2 _)|skip
     all_goals
      rcases sz with _|_|sz
      ·simp at e
      ·simp[qM]at e;try exact⟨rfl,_,rfl,e.symm⟩
      ·simp at e
    simp_all
theorem pA{f:TypeId->Nat->Option (List (Nat×Nat))}{sz off:Nat}{x:Field}{r:lbc}{ls:List (Nat×Nat)}(e:pB P f sz off (x::r)=some ls):
  x.name≠ "_" /\∃s a b,dV P x.type=some s/\f x.type (off+x.offset)=some a/\pB P f sz off r=some b/\x.offset+s<=sz/\ls=a++b:=by
 grind[pB,bd]
theorem td{t:TypeId}{ag:Bool}{s o off sz:Nat}{ex vx:Array Value}(h1:dW P t=some ag)(h2:dV P t=some s)(hs0:ag=false->s=1)(hfit:o+s<=sz)(hex:∀k,k<sz->ex[k]?=vx[off+k]?)
  (hin:∀k,k<s->(vx[off+o+k]?).isSome=true)(w:World):∃cv,(part t ex o).run P w=.ok cv w/\rC P t vx (off+o) cv:=by
 cases ag with
 |true=>
  refine⟨.agg (ex.extract o (o+s)),by simp_all[part,mL,dZ],?_⟩;simp only[rC,h1,h2,zg];refine⟨_,rfl,λk hk=>?_⟩;have h3:=hex (o+k) (by omega);grind
 |false=>
  have hs:=hs0 rfl;subst hs;have h3:=hex o (by omega);simp_all[part,mL,rC]
theorem Fa{X Y:laa}{vx vy:Array Value}(hX:VRels pl M X vx)(hY:VRels pl M Y vy):∀(n:Nat)(t:TypeId)(off:Nat)(ls:List (Nat×Nat))(cx cy:Value)(b:Bool)(d sz:Nat)(w:World),
  eW P n t off=some ls->dV P t=some sz->off+sz<=X.length->off+sz<=Y.length->rC P t vx off cx->rC P t vy off cy->yg X Y ls=some b->(Op.equalIn (d+n) t cx cy).run P w=.ok b w
 |0,_,_,_,_,_,_,_,_,_,e,_,_,_,_,_,_=>by grind[eW]
 | n+1,t,off,ls,cx,cy,b,d,sz,w,e,hsz,hlx,hly,hcx,hcy,he=>by
  rcases gc e with⟨fs,sz',hu,hs',hst,hl⟩|⟨dd,k,hu,hs1,hk,rfl⟩
  ·rw[hsz]at hs';simp at hs';subst hs';simp only[rC,iy hu,hsz,zg]at hcx hcy;obtain⟨ex,rfl,hex⟩:=hcx;obtain⟨ey,rfl,hey⟩:=hcy;have hfs:P.fieldsOf t=fs:=by grind[Program.fieldsOf]
   rw[show d+(n+1)=(d+n)+1 by omega,run_equalIn_agg _ _ _ _ _ (by simp_all) hst,hfs];generalize fs.toList=fl at hl;clear hu hfs e;induction fl generalizing ls b w with
   |nil=>simp_all[pB,yg,Op.eqFields]
   | cons f r ih=>
    obtain⟨hname,s,a1,b1,g1,g2,g3,g4,rfl⟩:=pA hl;rw[Bc]at he;have hag:∃ag,dW P f.type=some ag/\(ag=false->s=1):=by
     cases n with
     |zero=>grind[eW]
     |succ n=>grind[gc,iy,oO]
    obtain⟨ag,q1,q2⟩:=hag;have hvx:=hX.len;have hvy:=hY.len;obtain⟨cvx,r1,r2⟩:=td (P:=P) (vx:=vx) q1 g1 q2 g4 hex (λk hk=>by grind) w;obtain⟨cvy,r3,r4⟩:=td (P:=P) (vx:=vy) q1 g1 q2 g4 hey (λk hk=>by grind) w;simp only[Op.eqFields,if_pos hname,Sem.run_bind,r1,r3,Result.andThen_ok];rcases xT he with⟨he1,he2⟩|⟨he1,rfl⟩
    ·rw[Fa hX hY n f.type (off+f.offset) a1 cvx cvy true d s w g2 g1 (by omega) (by omega) r2 r4 he1];simp only[Result.andThen_ok,Bool.not_true,gr,if_false];grind
    ·rw[Fa hX hY n f.type (off+f.offset) a1 cvx cvy false d s w g2 g1 (by omega) (by omega) r2 r4 he1];simp
  ·simp only[rC,oO hu hk]at hcx hcy;simp only[yg]at he;have he2:Uw k (jI X off) (jI Y off)=some b:=by grind[xT]
   obtain⟨u,v,e1,e2,e3⟩:=S5 he2;rw[ow]at e1 e2;have hru:=hX.at_ _ _ e1;have hrv:=hY.at_ _ _ e2;have h5:=hX.get e1;have h6:=hY.get e2;grind[S4]
theorem nr:∀(n:Nat)(t:TypeId)(off:Nat)(ls:List (Nat×Nat))(D:Nat),eW P n t off=some ls->n<=D->P.eqGuardType D t=false
 |0,_,_,_,_,e,_=>by grind[eW]
 |n+1,t,off,ls,0,_,h=>by omega
 | n+1,t,off,ls,D+1,e,h=>by
  rcases gc e with⟨fs,sz',hu,hs',hst,hl⟩|⟨dd,k,hu,hs1,hk,rfl⟩
  ·simp only[Program.eqGuardType,hu];rw[<-Array.any_toList];generalize fs.toList=fl at hl;clear hu e;induction fl generalizing ls with
   |nil=>rfl
   |cons f r ih=>
    obtain⟨hname,s,a1,b1,g1,g2,g3,g4,rfl⟩:=pA hl;simp only[zf,nr n f.type _ a1 D g2 (by omega),qD,Bool.false_or];simp_all
  ·rcases fR hk with⟨rfl,_⟩|⟨i,rfl,_⟩|⟨rfl,_⟩<;>simp[Program.eqGuardType,hu]
theorem mK{t:TypeId}{fs:Array Field}{vs:Array Value}(hu:P.underlying t=some (.struct fs)):rC P t vs 0 (.agg vs):=by grind[rC,iy]
theorem sl{n:Nat}{t:TypeId}{ls:List (Nat×Nat)}(ha:dW P t=some true)(e:eW P n t 0=some ls):∃fs,P.underlying t=some (.struct fs):=by
 cases n with
 |zero=>grind[eW]
 |succ n=>
  rcases gc e with⟨fs,sz',hu,_⟩|⟨dd,k,hu,hs1,hk,rfl⟩
  all_goals grind[oO]
theorem S6{x y:AV}{cx cy:Value}(hx:VRel pl M x cx)(hy:VRel pl M y cy){t:TypeId}{b:Bool}(e:Iv (P.underlying t) x y=some b)(n:Nat)(w:World):
  (Op.equalIn (n+1) t cx cy).run P w=.ok b w/\(∀op o1 o2,eqGuard op t o1 o2 cx cy=pure ())/\(∀op,op=.eql\/op=.neq->binOp op t cx cy=(do let r <-Op.equal t cx cy;pure (.bool (if op=.eql then r else !r)))):=by
 unfold Iv at e;split at e<;>(try(simp at e;done))<;>rename_i hu<;>simp at e<;>subst e<;>cases hx<;>cases hy<;>
  refine⟨by simp[Op.equalIn,run_underlying hu],λop o1 o2=>by cases op<;>rfl,λop ho=>?_⟩<;>rcases ho with rfl|rfl<;>simp[binOp]
theorem Zq{x y:AV}{cx cy:Value}(hx:VRel pl M x cx)(hy:VRel pl M y cy){t:TypeId}{b:Bool}(e:Zz (dW P t) (dV P t) (eW P 10 t 0) x y=some b)(w:World):
  ∀(o1 o2:Operand),(eqGuard .eql t o1 o2 cx cy).run P w=.ok () w/\(eqGuard .neq t o1 o2 cx cy).run P w=.ok () w/\
   (binOp .eql t cx cy).run P w=.ok (.bool b) w/\(binOp .neq t cx cy).run P w=.ok (.bool (!b)) w:=by
 intro o1 o2;unfold Zz at e;split at e
 ·rename_i as bs;split at e
  ·rename_i n l h1 h2 h3;rw[aD,aD]at e;by_cases ha:as.length=n
   ·by_cases hb:bs.length=n
    ·simp[ha,hb]at e;obtain⟨fs,hu⟩:=sl h1 h3;cases hx with
     | agg a1 a2 a3=>
      cases hy with
      |agg b1 b2 b3=>
       have hg:=nr 10 t 0 l P.depth h3 (by grind[Program.depth,Made.depth]);have he:=λw=>Fa (P:=P) (pl:=pl) (M:=M) ⟨a1,a3⟩ ⟨b1,b3⟩ 10 t 0 l _ _ b 9990 n w h3 h2 (by omega) (by omega) (mK hu) (mK hu) e
       refine⟨run_eqGuard_agg _ _ _ _ _ _ _ hg,run_eqGuard_agg _ _ _ _ _ _ _ hg,?_,?_⟩
       ·rw[run_eql_struct,he];rfl
       ·rw[run_neq_struct,he];rfl
    simp_all
   simp_all
  simp_all
 ·rw[lI]at e;split at e
  ·rename_i hj;simp at hj e;subst hj;cases hx;cases hy
   rw[<-e,pL];refine⟨by rfl,by rfl,?_,?_⟩
   ·rw[binOp_eql];rfl
   ·rw[binOp_neq];rfl
  simp_all
 ·simp at e;cases hx;cases hy
  rw[<-e,ri];refine⟨by rfl,by rfl,?_,?_⟩<;>simp[binOp,Op.stringOp,jx]
 ·split at e
  ·rename_i hag hl;simp at e;cases hx;cases hy
   have hb:P.underlying t=some .bool:=by
    rcases gc hl with⟨fs,sz',hu,hs',hst,hl2⟩|⟨dd,k,hu,hs1,hk,h9⟩
    ·grind[iy]
    ·simp at h9;rcases fR hk with⟨rfl,_⟩|⟨i,rfl,h0⟩|⟨_,h0⟩
     all_goals omega
   refine⟨by rfl,by rfl,?_,?_⟩;all_goals simp_all[binOp,Op.equal,Op.maxDepth,run_equalIn_bool']
  simp_all
 simp_all
theorem Qo{f:AV->AV->lae}{x y:lae}{v:AV}(e:Uf f x y=some v):∃a b,x=some a/\y=some b/\f a b=some v:=by
 cases x<;>cases y<;>simp[Uf]at e
 simp_all
theorem Rk{f:AV->lae}{x:lae}{v:AV}(e:one f x=some v):∃a,x=some a/\f a=some v:=by
 cases x<;>simp[one]at e
 simp_all
theorem qQ{f:IntKind->Int->Int->lae}{x y v:AV}(e:xZ f x y=some v):∃k a b,x=.int k a/\y=.int k b/\f k a b=some v:=by
 unfold xZ at e;grind[lI]
def gU(P:Program)(op:BinOp)(t:TypeId)(o1 o2:Operand)(cx cy:Value):Sem Value:=do eqGuard op t o1 o2 cx cy;binOp op t cx cy
theorem G8{k r:lax}{b:Bool}(e:ph k r=some b):r=some b\/(r=none/\k=some b):=by
 cases r<;>simp[ph]at e
 all_goals simp_all
theorem ND{x y:AV}{cx cy:Value}(hx:VRel pl M x cx)(hy:VRel pl M y cy){t:TypeId}{b:Bool}(e:ph (Iv (P.underlying t) x y) (Zz (dW P t) (dV P t) (eW P 10 t 0) x y)=some b)(o1 o2:Operand)(w:World):
  (gU P .eql t o1 o2 cx cy).run P w=.ok (.bool b) w/\(gU P .neq t o1 o2 cx cy).run P w=.ok (.bool (!b)) w:=by
 rcases G8 e with e|⟨_,e⟩
 ·obtain⟨h1,h2,h3,h4⟩:=Zq hx hy e w o1 o2;simp_all[gU]
 ·obtain⟨h1,h2,h3⟩:=S6 hx hy e 9999 w;simp_all[gU,Op.equal,Op.maxDepth]
theorem vC{fi:Int->Int->Bool}{fs:lar->lar->Bool}{x y v:AV}(e:PG fi fs x y=some v):
  (∃k a b,x=.int k a/\y=.int k b/\v=.bool (fi a b))\/(∃a b,x=.str a/\y=.str b/\v=.bool (fs a b)):=by
 unfold PG at e;grind[lI]
theorem mZ{b c:Bool}(h:b=c):VRel pl M (.bool b) (.bool c):=by subst h;exact .bool _
theorem WT{op:BinOp}{x y v:AV}{cx cy:Value}(hx:VRel pl M x cx)(hy:VRel pl M y cy){t:TypeId}(e:qm op (P.underlying t) (dW P t) (dV P t) (eW P 10 t 0) x y=some v)(o1 o2:Operand)(w:World):
  ∃cv,(gU P op t o1 o2 cx cy).run P w=.ok cv w/\VRel pl M v cv:=by
 cases op
 case add=>
  simp only[qm]at e;unfold Xz at e;split at e
  ·rw[lI]at e;split at e
   ·rename_i hj;simp at hj e;subst hj;subst e;cases hx;cases hy
    exact⟨_,by simp[gU,eqGuard_add,binOp_add,Op.intArith],.int _ _⟩
   simp_all
  ·rename_i a b;rw[bd]at e;split at e
   ·rename_i hj;simp at hj e;subst e;cases hx;cases hy
    refine⟨.string ⟨⟨a++b⟩⟩,?_,.str _⟩;have h1:(⟨⟨a⟩⟩++⟨⟨b⟩⟩:ByteArray)=⟨⟨a++b⟩⟩:=by
     apply ByteArray.ext;simp_all
    have h2:(⟨⟨a⟩⟩:ByteArray).size=a.length:=rfl;have h3:(⟨⟨b⟩⟩:ByteArray).size=b.length:=rfl;have h4:¬(9223372036854775807<((a.length:Int)+(b.length:Int))):=by omega
    simp_all[gU,eqGuard_add,binOp,Op.stringOp]
   simp_all
  simp_all
 case sub=>
  obtain⟨k,a,b,rfl,rfl,e'⟩:=qQ e;simp at e';subst e';cases hx;cases hy
  exact⟨_,by simp[gU,eqGuard_sub,binOp_sub,Op.intArith],.int _ _⟩
 case mul=>
  obtain⟨k,a,b,rfl,rfl,e'⟩:=qQ e;simp at e';subst e';cases hx;cases hy
  exact⟨_,by simp[gU,eqGuard_mul,binOp_mul,Op.intArith],.int _ _⟩
 case quo=>
  obtain⟨k,a,b,rfl,rfl,e'⟩:=qQ e;rw[pL]at e';split at e'
  ·simp_all
  ·rename_i hb;simp at e' hb;subst e';cases hx;cases hy
   exact⟨_,by simp[gU,eqGuard_quo,binOp_quo,Op.intDiv,hb],.int _ _⟩
 case rem=>
  obtain⟨k,a,b,rfl,rfl,e'⟩:=qQ e;rw[pL]at e';split at e'
  ·simp_all
  ·rename_i hb;simp at e' hb;subst e';cases hx;cases hy
   exact⟨_,by simp[gU,eqGuard_rem,binOp_rem,Op.intDiv,hb],.int _ _⟩
 case eql=>
  simp only[qm]at e;split at e
  ·rename_i b hb;simp at e;subst e;exact⟨_,(ND hx hy hb o1 o2 w).1,.bool _⟩
  simp_all
 case neq=>
  simp only[qm]at e;split at e
  ·rename_i b hb;simp at e;subst e;exact⟨_,(ND hx hy hb o1 o2 w).2,.bool _⟩
  simp_all
 case lss=>
  rcases vC e with⟨k,a,b,rfl,rfl,rfl⟩|⟨a,b,rfl,rfl,rfl⟩<;>cases hx<;>cases hy
  ·exact⟨.bool (decide (a<b)),by simp[gU,eqGuard_lss,binOp_lss],mZ (wC _ _)⟩
  ·exact⟨.bool (Op.bytesLess a b),by simp[gU,eqGuard_lss,binOp,Op.stringOp,jx],mZ (AD _ _)⟩
 case leq=>
  rcases vC e with⟨k,a,b,rfl,rfl,rfl⟩|⟨a,b,rfl,rfl,rfl⟩<;>cases hx<;>cases hy
  ·refine⟨.bool (decide (a<=b)),by simp[gU,eqGuard_leq,binOp_leq],mZ ?_⟩;rw[wC,zd];simp
  ·exact⟨.bool (Op.bytesLess a b||a==b),by simp[gU,eqGuard_leq,binOp,Op.stringOp,jx],mZ (by rw[AD,ri])⟩
 case gtr=>
  rcases vC e with⟨k,a,b,rfl,rfl,rfl⟩|⟨a,b,rfl,rfl,rfl⟩<;>cases hx<;>cases hy
  ·exact⟨.bool (decide (b<a)),by simp[gU,eqGuard_gtr,binOp_gtr],mZ (wC _ _)⟩
  ·exact⟨.bool (!(Op.bytesLess a b||a==b)),by simp[gU,eqGuard_gtr,binOp,Op.stringOp,jx],mZ (by rw[AD,ri])⟩
 case geq=>
  rcases vC e with⟨k,a,b,rfl,rfl,rfl⟩|⟨a,b,rfl,rfl,rfl⟩<;>cases hx<;>cases hy
  ·refine⟨.bool (decide (b<=a)),by simp[gU,eqGuard_geq,binOp,Op.intCmp],mZ ?_⟩;rw[wC,zd];simp
  ·exact⟨.bool (!Op.bytesLess a b),by simp[gU,eqGuard_geq,binOp,Op.stringOp,jx],mZ (by rw[AD])⟩
 case shl=>
  simp only[qm]at e;unfold aah at e;split at e
  ·rename_i k a j b;simp at e;subst e;cases hx;cases hy
   have h0:¬((Int.ofNat b)<0):=by simp
   exact⟨_,by simp only[gU,eqGuard_shl,binOp,Op.shift,Sem.run_bind,Sem.run_pure,Result.andThen_ok,h0,if_false];rfl,.int _ _⟩
  simp_all
 case shr=>
  simp only[qm]at e;unfold aag at e;split at e
  ·rename_i k a j b;simp at e;subst e;cases hx;cases hy
   have h0:¬((Int.ofNat b)<0):=by simp
   exact⟨_,by simp only[gU,eqGuard_shr,binOp,Op.shift,Sem.run_bind,Sem.run_pure,Result.andThen_ok,h0,if_false];rfl,.int _ _⟩
  simp_all
 all_goals simp[qm]at e
theorem Rf(op:BinOp)(t:TypeId)(x y:Operand)(t2:TypeId):jJ P G (.binOp op t x y t2):=by
 intro pl M A h v h' a w dst ty pos after guard hg hr hf he;obtain⟨u,e1,e2⟩:=bF he;simp at e2;obtain⟨rfl,rfl⟩:=e2;obtain⟨xv,yv,hx,hy,e3⟩:=Qo e1;obtain⟨cv,k1,k2⟩:=WT (P:=P) (bK hg hf hx) (bK hg hf hy) e3 x y w;have:(execOp a.eval ⟨dst,.binOp op t x y t2,ty,pos,after,guard⟩).run P w=.ok (.value cv) w:=by
  show((do let r <-gU P op t x y (a.eval x) (a.eval y);pure (.value r)):Sem Next).run P w=_
  simp_all
 grind[qr.pure]
theorem VY(op:UnOp)(t:TypeId)(x:Operand):jJ P G (.unOp op t x):=by
 intro pl M A h v h' a w dst ty pos after guard hg hr hf he;obtain⟨u,e1,e2⟩:=bF he;simp at e2;obtain⟨rfl,rfl⟩:=e2;obtain⟨xv,hx,e3⟩:=Rk e1;have hxv:=bK hg hf hx;generalize hq:a.eval x=cx at hxv;unfold unR at e3;split at e3<;>simp at e3<;>subst e3<;>cases hxv
 ·simpa[execOp,hq,Op.unary]using qr.pure hr (.bool _)
 ·rename_i k n;have:=qr.pure (h:=h') hr (VRel.int (pl:=pl) (M:=M) k (k.wrap (0-n)));simp_all[execOp,Op.unary,Op.intArith]
end
section
variable{P:Program}{G:fz}{pl:Pl}{M:dN}{h h':AHeap}{w w':World}{v:AV}{A:Fr}{a:Act}
theorem WSame.push(w:World)(o:Obj):WSame w {w with heap:=w.heap.push o}:=⟨rfl,rfl,rfl,ar _⟩
theorem ZE(hr:cS pl M h w){z:AV}{cz:Value}(hz:VRel pl M z cz){r:ARes}(e:sm h (some z)=some r)(t:TypeId):
  ∃w' pl',(newVar t cz).run P w=.ok ⟨w.heap.size,0,none⟩ w'/\r=.val (.ptr h.n 0 0 0) (h.push (.row z.cells.length false 0 [z]))/\
   VRel pl' M (.ptr h.n 0 0 0) (.pointer (some ⟨w.heap.size,0,none⟩))/\cS pl' M (h.push (.row z.cells.length false 0 [z])) w'/\dK h pl M w (h.push (.row z.cells.length false 0 [z])) pl' M w':=by
 simp only[sm]at e;cases hc:z.cells with
 |nil=>simp_all
 | cons c0 cr=>
  simp only[hc]at e;cases hf:fj z with
  |false=>simp_all
  | true=>
   simp[hf]at e;have hlen:z.cells.length=cr.length+1:=by simp_all
   rw[<-hlen]at e;rw[<-hc];have hcz:=hz.cells;have hsc:=hz.sc hf;have hpos:0<z.cells.length:=by omega
   let p:Place:=⟨w.heap.size,0,z.cells.length,1,z.cells.length⟩
   have hext:nS pl (upd pl h.n p):=λid q hq=>⟨q,by rw[dj (by have:=hr.dom id q hq;omega)];omega,ar _,λ_=>rfl⟩
   obtain⟨h1,h2⟩:=cS.alloc (o:=.row z.cells.length false 0 [z]) (ob:=.cells cz.cells t) (p:=p) (w':={w with heap:=w.heap.push (.cells cz.cells t)}) hr rfl (WSame.push _ _) rfl (by
    refine⟨rfl,rfl,rfl,hcz.len,rfl,hpos,λ_=>by simp[hcz.len],⟨by simp[hcz.len],λx hx=>?_,λi x j y hi hj=>?_⟩⟩
    ·simp_all
    ·cases i with
     |zero=>simp at hi;subst hi;simpa using((hcz.at_ j y hj).mono hext λ_ _ h=>h)
     |succ i=>simp_all)
   refine⟨_,_,by simp[newVar,newRow],e.symm,.ptr (eY _ _ _) (ar _) λ_=>by grind,h1,h2⟩
theorem Da(hr:cS pl M h w){z:AV}{cz:Value}(hz:VRel pl M z cz){r:ARes}(e:sm h (some z)=some r)(he:r=.val v h')(t:TypeId):
  qr pl M h w ((do pure (Next.value (.pointer (some (<-newVar t cz)))):Sem Next).run P w) v h':=by
 obtain⟨w',pl',k1,k2,k3,k4,k5⟩:=ZE (P:=P) hr hz e t;rw[k2]at he;simp at he;obtain⟨rfl,rfl⟩:=he;exact⟨pl',M,_,w',_,by simp_all,.inl rfl,k3,k4,k5,by show h.n<=h.n+1;omega⟩
theorem Yf(t:TypeId)(x:Operand):jJ P G (.box t x):=by
 intro pl M A h v h' a w dst ty pos after guard hg hr hf he;cases hx:(cA G x).run A with
 |none=>grind[fc,sm]
 |some xv=>
  have he2:sm h (some xv)=some (.val v h'):=by rw[<-hx];exact he
  have:=Da (P:=P) hr (bK hg hf hx) he2 rfl t;have e2:(execOp a.eval ⟨dst,.box t x,ty,pos,after,guard⟩)=(do pure (Next.value (.pointer (some (<-newVar t (a.eval x)))))):=by simp[execOp,Instr.box]
  simp_all
theorem Rg(t:TypeId):jJ P G (.alloc t):=by
 intro pl M A h v h' a w dst ty pos after guard hg hr hf he;simp only[fc]at he;cases hz:iP P t with
 |none=>grind[ab]
 | some z=>
  cases hs:dV P t with
  |none=>grind[ab]
  | some s=>
   simp only[hz,hs]at he;cases hb:Nat.beq z.cells.length s with
   |false=>grind[ab]
   |true=>
    simp only[hb]at he;obtain⟨zv,hz1,hz2⟩:=lG hz;have:=Da (P:=P) hr (dB hz2) he rfl t;have e2:(execOp a.eval ⟨dst,.alloc t,ty,pos,after,guard⟩).run P w=((do pure (Next.value (.pointer (some (<-newVar t zv)))):Sem Next)).run P w:=by simp_all[execOp,Instr.alloc]
    simp_all
theorem J9(t:TypeId)(r:Option Operand):jJ P G (.makeMap t r):=by
 intro pl M A h v h' a w dst ty pos after guard hg hr hf he;have key:v=.map h.n->h'=h.push (.map [] 0)->(Instr.makeMap t (r.map a.eval)).run P w=.ok (.map (some w.heap.size)) {w with heap:=w.heap.push (.map #[] 0)}->
   qr pl M h w ((execOp a.eval ⟨dst,.makeMap t r,ty,pos,after,guard⟩).run P w) v h':=by
  intro e1 e2 e3;subst e1;subst e2;let p:Place:=⟨w.heap.size,0,0,0,0⟩
  obtain⟨h1,h2⟩:=cS.alloc (o:=.map [] 0) (ob:=.map #[] 0) (p:=p) (w':={w with heap:=w.heap.push (.map #[] 0)}) hr rfl (WSame.push _ _) rfl
   ⟨rfl,rfl,rfl,λi e hi=>by simp_all⟩
  exact⟨_,M,_,_,_,by simp only[execOp,Sem.run_bind,e3,Result.andThen_ok];rfl,.inl rfl,.map (eY _ _ _) (λ_=>rfl),h1,h2,by show h.n<=h.n+1;omega⟩
 cases r with
 | none=>
  simp only[fc]at he;cases hu:P.underlying t with
  |none=>grind[ab]
  |some d=>
   rw[hu]at he;cases d<;>try exact(ab he).elim
   simp at he;obtain⟨rfl,rfl⟩:=he;exact key rfl rfl (by simp[Instr.makeMap])
 | some r=>
  simp only[fc]at he;cases hu:P.underlying t with
  |none=>grind[ab]
  | some d=>
   rw[hu]at he;cases d<;>try exact(ab he).elim
   simp only[]at he;cases hx:(cA G r).run A with
   |none=>simp_all
   |some x=>
    have hxv:=bK hg hf hx;rw[hx]at he;cases x<;>simp at he
    obtain⟨rfl,rfl⟩:=he;generalize hq:a.eval r=cx at hxv;cases hxv
    exact key rfl rfl (by simp_all[Instr.makeMap,run_underlying,asInt,asIntOf])
theorem jS{n b:Nat}(e:small n b=true):n<=2^40/\n*b<=2^40:=by simp_all[small]
theorem fy{z:AV}{cz:Value}(hz:VRel pl M z cz)(hf:fj z=true)(n:Nat){s:Nat}(hs:z.cells.length=s)(hs0:0<s):
  InMem pl M ((Array.range (n*s)).map (cz.cells[· %cz.cells.size]!)) 0 s (List.replicate n z):=by
 have hc:=hz.cells;have hsz:cz.cells.size=s:=by rw[<-hc.len];omega
 refine⟨by simp,λx hx=>?_,λi x j y hi hj=>?_⟩
 ·rw[List.mem_replicate]at hx;rw[hx.2];exact⟨hs,hz.sc hf⟩
 ·rw[List.getElem?_replicate]at hi;split at hi
  ·rename_i hin;simp at hi;subst hi;have hj2:j<s:=by grind
   have h1:=hc.at_ j y hj;have h2:(i+1)*s<=n*s:=e9 _ hin;rw[kQ]at h2;have h3:0+i*s+j<n*s:=by omega
   have h4:(0+i*s+j)%s=j:=by simp_all[Nat.mod_eq_of_lt]
   simp_all
  simp_all
theorem jQ{t e:TypeId}(h:fU P t=some e):P.underlying t=some (.slice e):=by grind[fU]
theorem Ce{t e:TypeId}{i:TypeInfo}{zv:Value}(ht:P.underlying t=some (.slice e))(hi:P.info? e=some i)(hz:∀w,(zeroValue e).run P w=.ok zv w){n m:Nat}(hnm:n<=m)(hm:m<=2^40)(hb:m*i.bytes<=2^40)
  (k k2:IntKind)(w:World):(Instr.makeSlice t (.int k (n:Int)) (.int k2 (m:Int))).run P w=
   .ok (.slice (some ⟨w.heap.size,0,none⟩) n m) {w with heap:=w.heap.push (.cells ((Array.range (m*i.size)).map (zv.cells[· %zv.cells.size]!)) e)}:=by
 have g1:IntKind.i64.wrap (n:Int)=(n:Int):=IntWalk.i64_in _ ⟨by omega,by omega⟩;have g2:IntKind.i64.wrap (m:Int)=(m:Int):=IntWalk.i64_in _ ⟨by omega,by omega⟩;have g3:¬((m:Int)<0):=by omega
 have g4:((i.bytes:Int)*(m:Int))<=1099511627776:=by grind
 have g4':¬(281474976710656<(i.bytes:Int)*(m:Int)):=by omega
 have g5:¬((n:Int)<0):=by omega
 have g6:¬((m:Int)<(n:Int)):=by omega
 have hsz:dV P e=some i.size:=by grind[dV]
 by_cases g8:m*i.size=0
 ·simp[Instr.makeSlice,run_underlying ht,asInt,asIntOf,typeInfo,hi,g1,g2,g3,g4',g5,g6,dZ hsz,g8,newRow];grind
 ·simp[Instr.makeSlice,run_underlying ht,asInt,asIntOf,typeInfo,hi,g1,g2,g3,g4',g5,g6,dZ hsz,g8,newRow,hz]
theorem E1 (t:TypeId)(l c:Operand):jJ P G (.makeSlice t l c):=by
 intro pl M A h v h' a w dst ty pos after guard hg hr hf he;simp only[fc]at he;cases h1:fU P t with
 |none=>grind[ab]
 | some e=>
  simp only[h1]at he;cases h2:P.info? e with
  |none=>grind[ab]
  | some i=>
   cases h3:iP P e with
   |none=>grind[ab]
   | some z=>
    simp only[h2,h3,aD,dG]at he;by_cases c1:z.cells.length=i.size
    ·by_cases c2:0<i.size
     ·by_cases c3:fj z=true
      ·simp only[c1,c2,c3,decide_true,ze]at he;unfold pt at he;cases hl:(cA G l).run A with
       |none=>grind[fJ]
       | some lv=>
        cases hc:(cA G c).run A with
        |none=>grind[fJ]
        | some cv=>
         have hlv:=bK hg hf hl;have hcv:=bK hg hf hc;rw[hl,hc]at he;split at he
         ·rename_i k n k2 m q1 q2;simp at q1 q2;subst q1;subst q2;rw[bd]at he;by_cases c4:n<=m
          ·cases c5:small m i.bytes with
           |false=>grind[fJ]
           | true=>
            simp[c4,c5,fJ]at he;obtain⟨rfl,rfl⟩:=he;obtain⟨b1,b2⟩:=jS c5;generalize hq1:a.eval l=cl at hlv;generalize hq2:a.eval c=cc at hcv;cases hlv;cases hcv
            obtain⟨zv,hz1,hz2⟩:=lG h3;have hzr:=dB (pl:=pl) (M:=M) hz2;have hsz:dV P e=some i.size:=by grind[dV]
            let p:Place:=⟨w.heap.size,0,i.size,m,m*i.size⟩
            have hext:nS pl (upd pl h.n p):=λid q hq=>⟨q,by rw[dj (by have:=hr.dom id q hq;omega)];omega,ar _,λ_=>rfl⟩
            have hin:=(fy hzr c3 m c1 c2).mono hext (λ_ _ h=>h);let cells:=(Array.range (m*i.size)).map (zv.cells[· %zv.cells.size]!)
            obtain⟨r1,r2⟩:=cS.alloc (o:=.row i.size false 0 (List.replicate m z)) (ob:=.cells cells e) (p:=p) (w':={w with heap:=w.heap.push (.cells cells e)}) hr rfl (WSame.push _ _) rfl
             ⟨rfl,rfl,by grind,by grind,rfl,c2,λ_=>by grind,hin⟩
            have hrun:(Instr.makeSlice t (.int k (n:Int)) (.int k2 (m:Int))).run P w=.ok (.slice (some ⟨w.heap.size,0,none⟩) n m) {w with heap:=w.heap.push (.cells cells e)}:=by exact Ce (jQ h1) h2 hz1 c4 b1 b2 _ _ _
            refine⟨_,M,_,_,_,?_,.inl rfl,.slice (a:=⟨w.heap.size,0,none⟩) (eY _ _ _) (ar _) (by omega) (λk hk=>by simp_all) (λ_=>⟨.inr (by grind),by grind,by grind,(λhk=>by grind),(λk hk=>by grind)⟩),r1,r2,by show h.n<=h.n+1;omega⟩;simp only[execOp,hq1,hq2,Sem.run_bind];simp_all
          grind[fJ]
         grind[fJ]
      grind[ab]
     grind[ab]
    grind[ab]
end
section
variable{P:Program}{G:fz}{pl:Pl}{M:dN}{h h':AHeap}{w w':World}{v:AV}{A:Fr}{a:Act}
theorem Gq:∀(l:lao)(off k:Nat)(c:Array Value),off+k+l.length<=c.size->(l.zipIdx k).foldl (λcs (x:Value×Nat)=>cs.setIfInBounds (off+x.2) x.1) c=over c (off+k) l
 |[],off,k,c,_=>by simp[over]
 |v::r,off,k,c,hl=>by
  simp only[dw]at hl;rw[List.zipIdx_cons,mS,Gq r off (k+1) _ (by simp;omega)];exact Dx (by omega)
theorem CP{v:Value}{off:Nat}{c:Array Value}(hl:off+v.cells.size<=c.size):
  v.cells.zipIdx.foldl (λcs (x:Value×Nat)=>cs.setIfInBounds (off+x.2) x.1) c=over c off v.cells.toList:=by
 rw[<-Array.foldl_toList,Array.toList_zipIdx];simp_all[Gq]
theorem Jn{cs new:laa}{vs nv:Array Value}{off:Nat}(h1:VRels pl M cs vs)(h2:VRels pl M new nv)(hl:off+new.length<=cs.length):VRels pl M (pa cs off new) (over vs off nv.toList):=by
 have e1:=h1.len;have e2:=h2.len;have hl2:off+nv.toList.length<=vs.size:=by simp_all
 refine⟨by grind[sL,lz],λj y hj=>?_⟩;rcases py hl hj with⟨a1,a2,a3⟩|⟨a1,a2⟩
 ·have e3:j=off+(j-off):=by omega
  grind[pg,xg,cases VRels]
 grind[jA,cases VRels]
theorem Oo{cs new:laa}{off:Nat}(h1:∀y,y∈cs->dq y=true)(h2:∀y,y∈new->dq y=true):∀y,y∈pa cs off new->dq y=true:=by grind[pa]
theorem NB{place:Nat->Option (Nat×Nat)}(hg:qc G pl M)(hf:FrRel pl M A a):∀(parts:List (Nat×Operand))(l:List ((Nat×Nat)×Operand))(cs:laa)(vs:Array Value)(out:laa),
  (∀(k:Nat)(p:Nat×Operand),parts[k]?=some p->∃q,l[k]?=some (q,p.2)/\place p.1=some q)->l.length=parts.length->VRels pl M cs vs->(∀y,y∈cs->dq y=true)->
  Bv cs (l.map λp=>(p.1,(cA G p.2).run A))=some out->∃cv,Instr.fill place vs (parts.map λp=>(p.1,a.eval p.2))=some cv/\VRels pl M out cv/\∀y,y∈out->dq y=true
 |[],[],cs,vs,out,_,_,hv,hs,e=>by simp[Bv]at e;subst e;exact⟨vs,rfl,hv,hs⟩
 |[],_::_,_,_,_,_,hl,_,_,_=>by simp_all
 |_::_,[],_,_,_,_,hl,_,_,_=>by simp_all
 | (i,x)::r,((off,sz),y)::l,cs,vs,out,hp,hl,hv,hs,e=>by
  obtain⟨q,h1,h2⟩:=hp 0 (i,x) rfl;simp at h1;obtain⟨rfl,rfl⟩:=h1;simp only[eT,Bv]at e;cases hx:(cA G y).run A with
  |none=>grind[Bv]
  | some u=>
   simp only[hx,Bv,aD,bd]at e;split at e
   ·rename_i hc;simp at hc;obtain⟨⟨c1,c2⟩,c3⟩:=hc;have hu:=bK hg hf hx;have huc:=hu.cells;have hul:=huc.len;have hvl:=hv.len;have h3:=Jn (off:=off) hv huc (by omega);obtain⟨cv,k1,k2,k3⟩:=NB (place:=place) hg hf r l _ _ out (λk p hk=>by simpa using hp (k+1) p (by simp_all)) (by simp_all) h3 (Oo hs (hu.sc c3)) e;refine⟨cv,?_,k2,k3⟩;have c4:(a.eval y).cells.size=sz:=by omega
    have c5:¬(vs.size<off+(a.eval y).cells.size):=by omega
    rw[eT,Instr.fill];grind[CP]
   simp_all
theorem Hb(fs:lbc)(l:List (Nat×Nat))(w:World)(h:nj P fs=some l):((fs.mapM λf=>(do pure (f.offset,<-sizeOf f.type):Sem (Nat×Nat)))).run P w=.ok l w:=by
 induction fs generalizing l with
 |nil=>simp_all[nj]
 | cons f r ih=>
  simp only[nj]at h;cases h1:dV P f.type with
  |none=>simp_all
  | some s=>
   cases h2:nj P r with
   |none=>simp_all
   |some l2=>
    simp[h1,h2]at h;subst h;rw[List.mapM_cons];simp only[Sem.run_bind,dZ h1,Result.andThen_ok,Sem.run_pure];simp_all
theorem Ab{pls:List (Nat×Nat)}:∀(parts:List (Nat×Operand))(l:List ((Nat×Nat)×Operand)),pf pls parts=some l->l.length=parts.length/\∀(k:Nat)(p:Nat×Operand),parts[k]?=some p->∃q:Nat×Nat,l[k]?=some (q,p.2)/\pls.toArray[p.1]?=some q
 |[],l,e=>by
  simp[pf]at e;simp_all
 | (i,x)::r,l,e=>by
  simp only[pf,ow]at e;cases h1:pls[i]? with
  |none=>simp_all
  | some p=>
   cases h2:pf pls r with
   |none=>simp_all
   |some l2=>
    simp[h1,h2]at e;subst e;obtain⟨a1,a2⟩:=Ab r l2 h2;grind
theorem Ln{o:lbh}{v:AV}(e:T9 o=some v):∃cs,o=some cs/\v=.agg cs:=by
 cases o<;>simp[T9]at e
 simp_all
theorem Jf{t:TypeId}{z:AV}{zv:Value}(ho:ofValue zv=some z):VRels pl M z.cells zv.cells:=(dB ho).cells
theorem Oq{zv:Value}{z:AV}(ho:ofValue zv=some z)(hf:fj z=true):∀y,y∈z.cells->dq y=true:=(dB (pl:=λ_=>none) (M:=λ_=>none) ho).sc hf
theorem Re(t:TypeId)(parts:Array (Nat×Operand)):jJ P G (.build t parts):=by
 intro pl M A h v h' a w dst ty pos after guard hg hr hf he;simp only[fc]at he;have key:∀(place:Nat->Option (Nat×Nat))(l:List ((Nat×Nat)×Operand)),(∀(k:Nat)(p:Nat×Operand),parts.toList[k]?=some p->∃q,l[k]?=some (q,p.2)/\place p.1=some q)->l.length=parts.toList.length->
   (Cu P G t l).run A h=some (.val v h')->(∀zv cv,(∀w,(zeroValue t).run P w=.ok zv w)->Instr.fill place zv.cells (parts.toList.map λp=>(p.1,a.eval p.2))=some cv->
    (Instr.build t (parts.map λ(i,x)=>(i,a.eval x))).run P w=.ok (.agg cv) w)->qr pl M h w ((execOp a.eval ⟨dst,.build t parts,ty,pos,after,guard⟩).run P w) v h':=by
  intro place l hpl hlen e hrun;unfold Cu at e;cases hz:iP P t with
  |none=>grind[ab]
  | some z=>
   simp only[hz]at e;cases hfz:fj z with
   |false=>grind[ab]
   |true=>
    simp only[hfz]at e;obtain⟨u,e1,e2⟩:=bF e;simp at e2;obtain⟨rfl,rfl⟩:=e2;obtain⟨cs,e3,rfl⟩:=Ln e1;obtain⟨zv,hz1,hz2⟩:=lG hz;obtain⟨cv,k1,k2,k3⟩:=NB (place:=place) hg hf parts.toList l _ _ cs hpl hlen (Jf (t:=t) hz2) (Oq hz2 hfz) e3;have:=hrun zv cv hz1 k1;simpa[execOp,this]using qr.pure hr (.agg k2.len k3 k2.at_)
 have emap:(parts.map λ(i,x)=>(i,a.eval x)).toList=parts.toList.map λp=>(p.1,a.eval p.2):=by simp
 cases hu:P.underlying t with
 |none=>grind[ab]
 | some d=>
  rw[hu]at he;cases d<;>try exact(ab he).elim
  case struct fs=>
   cases h1:nj P fs.toList with
   |none=>grind[ab]
   | some pls=>
    cases h2:pf pls parts.toList with
    |none=>grind[ab]
    |some l=>
     simp only[h1,h2]at he;obtain⟨b1,b2⟩:=Ab _ _ h2;refine key (λi=>pls.toArray[i]?) l b2 b1 he λzv cv hz hfill=>?_
     have hm:(fs.mapM λf=>(do pure (f.offset,<-sizeOf f.type):Sem (Nat×Nat))).run P w=.ok pls.toArray w:=by rw[Array.mapM_eq_mapM_toList,Sem.run_map,Hb _ _ _ h1];rfl
     simp only[Instr.build,Sem.run_bind,hz,Result.andThen_ok,run_underlying hu,hm,emap,hfill];rfl
  case array n e=>
   cases h1:dV P e with
   |none=>grind[ab]
   |some s=>
    simp only[h1]at he;refine key (λi=>some (i*s,s)) _ (λk p hk=>⟨(p.1*s,s),by simp_all,rfl⟩) (by simp) he λzv cv hz hfill=>?_
    simp only[Instr.build,Sem.run_bind,hz,Result.andThen_ok,run_underlying hu,dZ h1,emap,hfill];rfl
theorem OE{o:lbh}{v:AV}(e:Yw o=some v):∃cs,o=some cs/\v=.ps cs true:=by
 cases o<;>simp[Yw]at e
 simp_all
theorem MY{s:Nat}(hs0:0<s)(hg:qc G pl M)(hf:FrRel pl M A a):∀(parts:List (Nat×Operand))(xs out:laa)(c:Array Value),InMem pl M c 0 s xs->
  AX s xs (parts.map λp=>(p.1,(cA G p.2).run A))=some out->∃c',Instr.fill (λi=>some (i*s,s)) c (parts.map λp=>(p.1,a.eval p.2))=some c'/\InMem pl M c' 0 s out/\out.length=xs.length/\c'.size=c.size
 |[],xs,out,c,hm,e=>by simp[AX]at e;subst e;exact⟨c,rfl,hm,rfl,rfl⟩
 | (i,x)::r,xs,out,c,hm,e=>by
  simp only[eT,AX]at e;cases hx:(cA G x).run A with
  |none=>grind[AX]
  | some u=>
   simp only[hx,AX,aD,dG]at e;split at e
   ·rename_i hc;simp at hc;obtain⟨⟨c1,c2⟩,c3⟩:=hc;have hu:=bK hg hf hx;have hxi:xs[i]?=some xs[i]:=lE c1;have hel:=hm.elem xs[i] (Eh c1);obtain⟨k1,k2⟩:=hm.put (off:=0) (z:=u) hxi hu (by omega) (by omega) (hu.sc c3) (λj q hq=>by grind);have hul:=hu.cells.len;simp only[qK]at k1 k2;obtain⟨c',q1,q2,q3,q4⟩:=MY hs0 hg hf r _ out _ k2 e;refine⟨c',?_,q2,by simp_all,by grind[lz]⟩;have c4:(a.eval x).cells.size=s:=by omega
    have c5:i*s+(a.eval x).cells.size<=c.size:=by omega
    rw[eT,Instr.fill];grind[CP]
   simp_all
theorem Cl(t:TypeId)(n:Nat)(parts:Array (Nat×Operand)):jJ P G (.buildSlice t n parts):=by
 intro pl M A h v h' a w dst ty pos after guard hg hr hf he;simp only[fc]at he;cases h1:fU P t with
 |none=>grind[ab]
 | some e=>
  cases h2:dV P e with
  |none=>grind[ab]
  | some s0=>
   cases s0 with
   |zero=>grind[ab]
   | succ s0=>
    cases h3:iP P e with
    |none=>grind[ab]
    | some z=>
     simp only[h1,h2,h3,aD,bd]at he;generalize hs:s0+1=s at *;have hs0:0<s:=by omega
     split at he
     ·rename_i hc;simp at hc;obtain⟨⟨c1,c2⟩,c3⟩:=hc;obtain⟨u,e1,e2⟩:=bF he;simp at e2;obtain⟨rfl,rfl⟩:=e2;obtain⟨cs,e3,rfl⟩:=OE e1;obtain⟨zv,hz1,hz2⟩:=lG h3;have hin:=fy (dB (pl:=pl) (M:=M) hz2) c3 n c1 hs0;obtain⟨c',q1,q2,q3,q4⟩:=MY hs0 hg hf parts.toList _ cs _ hin e3;obtain⟨r1,r2⟩:=CK (c:=c') (t:=e) (fr:=(0,0)) (w':={w with heap:=w.heap.push (.cells c' e)}) hr rfl (WSame.push _ _);have hmx:qo M (zu M w.heap.size c'):=r2.mem;have emap:(parts.map λ(i,x)=>(i,a.eval x)).toList=parts.toList.map λp=>(p.1,a.eval p.2):=by simp
      have hlen:cs.length=n:=by simp_all
      have hrun:(Instr.buildSlice t n (parts.map λ(i,x)=>(i,a.eval x))).run P w=.ok (.slice (some ⟨w.heap.size,0,none⟩) n n) {w with heap:=w.heap.push (.cells c' e)}:=by
       have g1:¬(16777216<n*s):=by omega
       by_cases g8:n*s=0
       ·have hn0:n=0:=by
         rcases Nat.mul_eq_zero.1 g8 with h9|h9
         all_goals omega
        subst hn0;simp only[Nat.zero_mul]at q1;have hr0:(Array.map (λx=>zv.cells[x%zv.cells.size]!) (Array.range 0))=(Array.map (λx=>(#[]:Array Value)[x%(#[]:Array Value).size]!) (Array.range 0)):=by simp_all
        rw[hr0]at q1;simp only[Instr.buildSlice,Sem.run_bind,run_underlying (jQ h1),Result.andThen_ok,dZ h2,Nat.zero_mul,Sem.run_ite,if_true,Sem.run_pure,emap,newRow];simp_all
       ·simp only[Instr.buildSlice,Sem.run_bind,run_underlying (jQ h1),Result.andThen_ok,dZ h2,Sem.run_ite,if_neg g8,hz1,emap,newRow];simp_all
      refine⟨pl,_,_,_,_,by simp only[execOp,Sem.run_bind,hrun,Result.andThen_ok];rfl,.inl rfl,?_,r1,r2,ar _⟩;rw[<-hlen];refine .ps (sz:=s) (c:=c') (ar _) (λ_=>rfl) (λ_=>⟨rfl,by simp[zu],by simp_all,hs0⟩) q2.elem (λi x j y hi hj=>?_);have:=(q2.cell i x j y hi hj).mono (nS.refl _) hmx;omega
     grind[ab]
end
section
variable{P:Program}{G:fz}{pl:Pl}{M:dN}{h h':AHeap}{w w':World}{v:AV}{A:Fr}{a:Act}
theorem mF{sz:Nat}:∀{xs:laa},dL sz xs=true->∀x,x∈xs->x.cells.length=sz/\fj x=true
 |[],_,x,hx=>by grind
 |y::r,e,x,hx=>by
  simp only[dL,aD,ba,decide_eq_true_eq]at e;rcases dO.1 hx with rfl|hx
  ·simp_all
  ·exact mF e.2 x hx
def cut(c:Array Value)(o n:Nat):lao:=(List.range n).map λj=>c.getD (o+j) undef
theorem ia(c:Array Value)(o n:Nat):(cut c o n).length=n:=by simp[cut]
theorem sq{c:Array Value}{o n j:Nat}(hj:j<n):(cut c o n)[j]?=some (c.getD (o+j) undef):=by grind[cut]
theorem RX(hr:cS pl M h w){ys:laa}{tight:Bool}{cx:Value}(hx:VRel pl M (.ps ys tight) cx):
  ∃(ad:Addr)(cap':Nat)(news:lao)(sz:Nat),cx=.slice (some ad) ys.length cap'/\news.length=ys.length*sz/\(∀(j:Nat)(u:Value),news[j]?=some u->w.cell? (ad.add j)=some u)/\
   (ys≠[]->0<sz)/\InMem pl M news.toArray 0 sz ys:=by
  cases hx with
  | ps hl ht hm hs hc=>
   rename_i ad cap sz c;by_cases hne:ys=[]
   ·subst hne;exact⟨ad,cap,[],sz,rfl,by simp,λj u hj=>by simp_all,λhh=>absurd rfl hh,⟨by simp,(λx hx=>by grind),(λi x j y hi=>by simp_all)⟩⟩
   ·obtain⟨h1,h2,h3,h4⟩:=hm hne;obtain⟨t,fr,hb⟩:=hr.imm _ _ h2;have had:ad=⟨ad.block,ad.off,none⟩:=by cases ad;simp_all
    refine⟨ad,cap,cut c ad.off (ys.length*sz),sz,rfl,ia _ _ _,λj u hj=>?_,λ_=>h4,⟨by simp[ia],hs,λi x j y hi hj=>?_⟩⟩
    ·grind[ia,sq,Addr.add_lit,oJ]
    ·have hii:=(fP.1 hi).1;have hjj:=(fP.1 hj).1;rw[(hs x (bC hi)).1]at hjj;have h5:(i+1)*sz<=ys.length*sz:=e9 _ hii;rw[kQ]at h5;have h6:=hc i x j y hi hj;rw[iZ,ou,sq (by omega),zg];grind
theorem kz(hr:cS pl M h w){x:AV}{cx:Value}{xs:laa}(hx:VRel pl M x cx)(he:kI h x=some xs):
  (cx=.slice none 0 0/\xs=[])\/∃(ad:Addr)(cap':Nat)(news:lao)(sz:Nat),cx=.slice (some ad) xs.length cap'/\news.length=xs.length*sz/\(∀(j:Nat)(u:Value),news[j]?=some u->w.cell? (ad.add j)=some u)/\
   (xs≠[]->0<sz)/\InMem pl M news.toArray 0 sz xs:=by
 unfold kI at he;split at he
 ·grind[cases VRel]
 ·grind[RX]
 ·rename_i ys;simp at he;subst he;cases hx with
  |lsn=>simp_all
  |lsp hx _=>grind[RX]
 ·rename_i id ep off len cap;split at he
  ·rename_i sz op ep' ys hg;rw[aD]at he;by_cases hep:ep=ep'
   ·subst hep;simp at he;subst he;obtain⟨p,c,t,ad,cap',q1,rfl,q3,q4,q5,q6,q7,q8,q9,q10,q11,q12,q13,q14,q15,q16,q17⟩:=nZ hr hx hg;right;have hlen:((ys.drop off).take len).length=len:=by grind
    by_cases h0:len=0
    ·subst h0;refine⟨ad,cap',[],sz,by simp,by simp,λj u hj=>by simp_all,λhh=>by omega,⟨by simp,(λx hx=>by simp_all),(λi x j y hi=>by simp_all)⟩⟩
    ·have had:ad=⟨p.blk,off*sz,none⟩:=by grind
     have hget:∀(i:Nat)(x:AV),((ys.drop off).take len)[i]?=some x->i<len/\ys[off+i]?=some x:=by grind
     have hfit2:off*sz+len*sz<=c.size:=by
      have:=q10.fit;have h7:(off+len)*sz<=ys.length*sz:=e9 _ q15;grind
     refine⟨ad,cap',cut c (off*sz) (len*sz),sz,by simp_all,by grind[ia],λj u hj=>?_,λ_=>q8,⟨by grind[ia],λx hx=>q10.elem x (Qz (sE hx)),λi x j y hi hj=>?_⟩⟩
     ·grind[ia,sq,Addr.add_lit,oJ]
     ·obtain⟨hii,hyi⟩:=hget i x hi;have hjj:=(fP.1 hj).1;rw[(q10.elem x (bC hyi)).1]at hjj;have h5:(i+1)*sz<=len*sz:=e9 _ hii;rw[kQ]at h5;have h6:=q10.cell (off+i) x j y hyi hj;rw[iZ,ou,sq (by omega),zg];grind
   simp_all
  simp_all
 simp_all
theorem Ex:∀(xs:laa)(l:lar),wT xs=some l->xs=l.map λb=>.int .u8 (b.toNat:Int)
 |[],l,e=>by simp[wT]at e;simp_all
 | x::r,l,e=>by
  unfold wT at e;split at e
  ·simp_all
  ·rename_i n r' e0;simp at e0;obtain⟨rfl,rfl⟩:=e0;rw[dG]at e;split at e
   ·rename_i hn;simp at hn;split at e
    ·rename_i l' hl';simp at e;subst e;rw[Ex r l' hl'];grind[UInt8.toNat_ofNat']
    simp_all
   simp_all
  simp_all
theorem J2(l:lar):∀(s:lar),(l.map λb=>(b.toNat:Int)).foldl (λ(r:ByteArray) n=>r.push (UInt8.ofNat n.toNat)) ⟨⟨s⟩⟩=⟨⟨s++l⟩⟩:=by
 induction l with
 |nil=>simp_all
 |cons b r ih=>simp_all
theorem Fq{w':World}{o:Obj}(hsz:w'.heap.size=w.heap.size+1)(hold:∀b,b<w.heap.size->w'.heap[b]?=w.heap[b]?)(hnew:w'.heap[w.heap.size]?=some o):w'.heap=w.heap.push o:=by grind
theorem KZ (s d:TypeId)(x:Operand):jJ P G (.convert s d x):=by
 intro pl M A h v h' a w dst ty pos after guard hg hr hf he;simp only[fc]at he;unfold wR at he;have fin:∀cv,(convert s d (a.eval x)).run P w=.ok cv w->VRel pl M v cv->h'=h->qr pl M h w ((execOp a.eval ⟨dst,.convert s d x,ty,pos,after,guard⟩).run P w) v h':=by simp_all[execOp,qr.pure]
 split at he
 ·rename_i ds k hs hd;obtain⟨u,e1,e2⟩:=bF he;simp at e2;obtain⟨rfl,rfl⟩:=e2;cases hx:(cA G x).run A with
  |none=>grind[Fp]
  |some xv=>
   have hxv:=bK hg hf hx;rw[hx]at e1;cases xv<;>simp[Fp]at e1
   subst e1;generalize hq:a.eval x=cx at hxv;cases hxv
   exact fin _ (by simp_all[convert,run_underlying,Conv.intToInt]) (.int _ _) rfl
 ·rename_i e hs hd;split at he
  ·rename_i hu;obtain⟨u,e1,e2⟩:=bF he;simp at e2;obtain⟨rfl,rfl⟩:=e2;cases hx:(cA G x).run A with
   |none=>grind[pS]
   | some xv=>
    have hxv:=bK hg hf hx;rw[hx]at e1;simp only[pS]at e1;cases hel:kI h' xv with
    |none=>simp_all
    | some xs=>
     rw[hel]at e1;cases hb:wT xs with
     |none=>simp_all
     | some l=>
      simp[hb]at e1;subst e1;have hxs:=Ex xs l hb;rcases kz hr hxv hel with⟨h1,h2⟩|⟨ad,cap',news,sz,h1,h2,h3,h4,h5⟩
      ·subst h2;have hl:l=[]:=by simp_all
       subst hl;exact fin (.string ⟨⟨[]⟩⟩) (by rw[h1];simp[convert,run_underlying hs,run_underlying hd,run_underlying hu,Conv.bytesToString];rfl) (.str _) rfl
      ·have hnews:news=l.map λb=>Value.int .u8 (b.toNat:Int):=by
        by_cases hne:xs=[]
        ·subst hne;have hl:l=[]:=by simp_all
         subst hl;simp at h2;grind
        ·have hs1:sz=1:=by
          cases l with
          |nil=>simp_all
          |cons b r=>
           have:=(h5.elem (.int .u8 (b.toNat:Int)) (by simp_all)).1;rw[<-this];rfl
         subst hs1;rw[hxs]at h2 h5;apply List.ext_getElem?;intro j;by_cases hj:j<l.length
         ·have h6:(l.map λb=>AV.int .u8 (b.toNat:Int))[j]?=some (.int .u8 (l[j].toNat:Int)):=by simp_all
          have h7:=h5.cell j _ 0 _ h6 rfl;rw[iZ,ou]at h7;grind[cases VRel]
         simp_all
       have hlen:xs.length=l.length:=by grind
       have hld:=run_loadCells_list (P:=P) w ad news h3;have hnl:news.length=xs.length:=by grind
       rw[hnl,hnews]at hld;have hmm:(l.map λb=>Value.int .u8 (b.toNat:Int))=(l.map λb=>(b.toNat:Int)).map (Value.int .u8):=by simp
       rw[hmm]at hld;have hrun:=run_bytesToString (P:=P) w ad xs.length cap' _ hld;refine fin (.string ⟨⟨l⟩⟩) ?_ (.str _) rfl;rw[h1,show convert s d (.slice (some ad) xs.length cap')=convert s d (.slice (some ad) xs.length cap')from rfl];have:(convert s d (.slice (some ad) xs.length cap')).run P w=(Conv.bytesToString (.slice (some ad) xs.length cap')).run P w:=by simp[convert,run_underlying hs,run_underlying hd,run_underlying hu]
       rw[this,hrun];have:=J2 l [];simp only[xj]at this;rw[show ByteArray.empty=⟨⟨[]⟩⟩from rfl,this]
  grind[ab]
 ·rename_i hs hd;obtain⟨u,e1,e2⟩:=bF he;simp at e2;obtain⟨rfl,rfl⟩:=e2;cases hx:(cA G x).run A with
  |none=>grind[Fo]
  |some xv=>
   have hxv:=bK hg hf hx;rw[hx]at e1;cases xv<;>simp[Fo]at e1
   subst e1;generalize hq:a.eval x=cx at hxv;cases hxv
   exact fin _ (by simp_all[convert,run_underlying]) (.str _) rfl
 ·rename_i e hs hd;split at he
  ·rename_i hu;obtain⟨u,e1,e2⟩:=bF he;simp at e2;obtain⟨rfl,rfl⟩:=e2;cases hx:(cA G x).run A with
   |none=>grind[kN]
   | some xv=>
    have hxv:=bK hg hf hx;rw[hx]at e1;cases xv<;>simp only[kN]at e1<;>(try(simp at e1;done))
    rename_i l;rw[bd]at e1;split at e1
    ·simp at e1;subst e1;generalize hq:a.eval x=cx at hxv;cases hxv
     have hrun:=Lib.run_convert_string_bytes (P:=P) w s d e ⟨⟨l⟩⟩ hs hd hu;have hheap:=Fq (w:=w) (Lib.bytesWorld_size w e ⟨⟨l⟩⟩) (λb hb=>Lib.bytesWorld_at_old w e ⟨⟨l⟩⟩ b hb) (Lib.bytesWorld_at_new w e ⟨⟨l⟩⟩);obtain⟨r1,r2⟩:=CK hr hheap ⟨rfl,rfl,rfl,by unfold Lib.bytesWorld;(first|exact ar _|exact om _|simp)⟩;have hsz:(⟨⟨l⟩⟩:ByteArray).size=l.length:=rfl;have hge:=grownCap_ge w l.length 0 e;refine⟨pl,_,_,_,_,by simp only[execOp,hq,Sem.run_bind,hrun,Result.andThen_ok];rfl,.inl rfl,?_,r1,r2,ar _⟩;rw[hsz];generalize grownCap w l.length 0 e=cap at hge;have hlm:(l.map λb=>AV.int .u8 (Int.ofNat b.toNat)).length=l.length:=by simp
     rw[<-hlm];refine .ps (sz:=1) (c:=Lib.bytesCells w e ⟨⟨l⟩⟩) (by simp_all) (λh=>by grind) (λ_=>⟨rfl,by simp[zu],by simp[Lib.bytesCells],by omega⟩) (λx hx=>?_) (λi x j y hi hj=>?_)
     ·simp at hx;obtain⟨b,_,rfl⟩:=hx;exact⟨rfl,λy hy=>by simp[AV.cells]at hy;subst hy;rfl⟩
     ·rw[qC]at hi;cases hli:l[i]? with
      |none=>simp_all
      | some b=>
       simp[hli]at hi;subst hi;cases j with
       |succ j=>grind[AV.cells]
       |zero=>
        simp[AV.cells]at hj;subst hj;have hil:=(fP.1 hli).1;have:(Lib.bytesCells w e ⟨⟨l⟩⟩).getD (0+i*1+0) undef=.int .u8 (b.toNat:Int):=by simp_all[Lib.bytesCells,Array.getElem?_append_left]
        show VRel pl _ (.int .u8 (b.toNat:Int)) ((Lib.bytesCells w e ⟨⟨l⟩⟩).getD (0+i*1+0) undef)
        rw[this];exact .int _ _
    simp_all
  grind[ab]
 grind[ab]
end
section
variable{P:Program}{G:fz}{pl:Pl}{M:dN}{h h':AHeap}{w w':World}{v:AV}{A:Fr}{a:Act}
theorem InMem.over{c:Array Value}{sz k:Nat}{xs new ys:laa}{news:lao}(hx:InMem pl M c 0 sz xs)(hn:InMem pl M news.toArray 0 sz new)(hnl:news.length=new.length*sz)
  (hfit:(k+new.length)*sz<=c.size)(hys:ys.length*sz<=c.size)
  (hy:∀(i:Nat)(x:AV),ys[i]?=some x->(i<k/\xs[i]?=some x)\/(k<=i/\i<k+new.length/\new[i-k]?=some x)\/(k+new.length<=i/\xs[i]?=some x)):
  k*sz+news.length<=c.size/\InMem pl M (Ev.over c (k*sz) news) 0 sz ys:=by
 have hl:k*sz+news.length<=c.size:=by grind
 refine⟨hl,by grind[lz],λx hxm=>?_,λi x j y hi hj=>?_⟩
 ·obtain⟨i,hi⟩:=GU.1 hxm;rcases hy i x hi with⟨_,q⟩|⟨_,_,q⟩|⟨_,q⟩
  ·exact hx.elem x (bC q)
  ·exact hn.elem x (bC q)
  ·exact hx.elem x (bC q)
 ·have hjs:j<sz:=by grind[cases InMem]
  rcases hy i x hi with⟨q0,q⟩|⟨q0,q1,q⟩|⟨q0,q⟩
  ·have h1:(i+1)*sz<=k*sz:=e9 _ q0;grind[jA,cases InMem]
  ·have h1:i*sz=k*sz+(i-k)*sz:=by rw[<-kQ];simp_all
   have h2:(i-k+1)*sz<=new.length*sz:=e9 _ (by omega);rw[kQ]at h2;have h3:=hn.cell (i-k) x j y q hj;rw[iZ,ou]at h3;rw[show 0+i*sz+j=k*sz+((i-k)*sz+j) by omega,pg hl (by omega),List.getD_eq_getElem?_getD];simp_all
  ·have h1:(k+new.length)*sz<=i*sz:=e9 _ q0;grind[jA,cases InMem]
theorem ka{xs new:laa}{k:Nat}(hl:k+new.length<=xs.length):(bN xs k new).length=xs.length:=by grind[bN]
theorem xy{xs new:laa}{k:Nat}(hl:k+new.length<=xs.length){i:Nat}{x:AV}(hi:(bN xs k new)[i]?=some x):
  (i<k/\xs[i]?=some x)\/(k<=i/\i<k+new.length/\new[i-k]?=some x)\/(k+new.length<=i/\xs[i]?=some x):=by
 rcases py (cs:=xs) (new:=new) (off:=k) hl hi with⟨a1,a2,a3⟩|⟨a1|a1,a2⟩
 all_goals simp_all
structure SrcRel(P:Program)(pl:Pl)(M:dN)(w:World)(cx:Value)(ys:laa)(sz:Nat)(news:lao):Prop where
 len:∀w':World,(Builtin.lenOf cx).run P w'=.ok ys.length w'
 cells:∀n,n<=ys.length->∀w':World,w'.heap=w.heap->(Builtin.firstCells sz n cx).run P w'=.ok (news.take (n*sz)).toArray w'
 newsLen:news.length=ys.length*sz
 mem:InMem pl M news.toArray 0 sz ys
theorem PI{w w':World}(h:w'.heap=w.heap)(a:Addr):w'.cell? a=w.cell? a:=by grind[World.cell?]
theorem zR(hr:cS pl M h w){x:AV}{cx:Value}{ys:laa}(hx:VRel pl M x cx)(he:kh h x=some ys){sz:Nat}(hne:ys≠[])(hfit:dL sz ys=true):∃news,SrcRel P pl M w cx ys sz news:=by
 have hf:=mF hfit;unfold kh at he;split at he
 ·rename_i s;simp at he;subst he;have hs:sz=1:=by
   cases s with
   |nil=>simp_all
   |cons b r=>exact((hf _ (by simp;exact .inl rfl)).1).symm
  subst hs;cases hx
  refine⟨s.map λb=>.int .u8 (b.toNat:Int),⟨λw'=>by simp[Builtin.lenOf];rfl,λn hn w' _=>?_,by simp,⟨by simp,λx hx=>?_,λi x j y hi hj=>?_⟩⟩⟩
  ·simp_all[Builtin.firstCells]
  ·simp at hx;obtain⟨b,_,rfl⟩:=hx;exact⟨rfl,λy hy=>by simp[AV.cells]at hy;subst hy;rfl⟩
  ·rw[qC]at hi;cases hsi:s[i]? with
   |none=>simp_all
   | some b=>
    simp[hsi]at hi;subst hi;cases j with
    |succ j=>grind
    |zero=>
     simp[AV.cells]at hj;subst hj;simp[iZ,hsi];exact .int _ _
 ·rcases kz hr hx he with⟨_,h2⟩|⟨ad,cap',news,sz',h1,h2,h3,h4,h5⟩
  ·simp_all
  ·have hs:sz'=sz:=by
    cases ys with
    |nil=>simp_all
    |cons y r=>rw[<-(h5.elem y (by simp)).1];simp_all
   subst hs;subst h1;refine⟨news,⟨λw'=>rfl,λn hn w' hw=>?_,h2,h5⟩⟩;grind[Nat.mul_le_mul_right,run_firstCells_some,PI]
theorem SrcRel.one{cx:Value}{ys:laa}{sz:Nat}{news:lao}(hs:SrcRel P pl M w cx ys sz news):∀u∈news,u.oneCell'=true:=by
 intro u hu;obtain⟨j,hj,rfl⟩:=List.mem_iff_getElem.1 hu;have hpos:0<sz:=by grind[cases SrcRel]
 have hj2:j<ys.length*sz:=by grind[cases SrcRel]
 have hi:j/sz<ys.length:=(Nat.div_lt_iff_lt_mul hpos).2 hj2;have hx:ys[j/sz]?=some ys[j/sz]:=lE hi;have he:=hs.mem.elem ys[j/sz] (Eh hi);have hm:j%sz<ys[j/sz].cells.length:=by simp_all[Nat.mod_lt]
 have hy:=lE hm;have hc:=hs.mem.cell (j/sz) _ (j%sz) _ hx hy;have e1:0+j/sz*sz+j%sz=j:=by grind[Nat.div_add_mod]
 rw[e1,iZ,ou,lE hj,zg]at hc;exact hc.one (he.2 _ (Eh hm))
theorem SrcRel.src{cx:Value}{ys:laa}{sz:Nat}{news:lao}(hs:SrcRel P pl M w cx ys sz news){tx:TypeId}(hk:(∃e',P.underlying tx=some (.slice e'))\/P.underlying tx=some .string):
  Src P sz tx cx ys.length news w:=by
 have e1:=hs.cells ys.length (ar _);rw[<-hs.newsLen,List.take_length]at e1;exact⟨hk,hs.len,e1 w rfl,e1 w.drew rfl,hs.newsLen,hs.one⟩
theorem vN{ts:Array TypeId}{t tx ty:TypeId}{args:Array Value}(h0:ts[0]?=some t)(h1:ts[1]?=some tx):Builtin.append_ ts ty args=Builtin.append_ #[t,tx] ty args:=by
 unfold Builtin.append_;simp only[h0,h1];rfl
theorem wl(hr:cS pl M h w){e:TypeId}{sz:Nat}{zs ys:laa}{z:Value}{w2:World}{cells:Array Value}{cap:Nat}(hs0:0<sz)(hw:w2.heap=w.heap.push (.cells cells e))(hs:WSame w w2)
  (hsz:cells.size=cap*sz)(hcap:ys.length<=cap)(hin:InMem pl M cells 0 sz ys):
  ∃pl',VRel pl' M (.slice h.n 0 0 ys.length none) (.slice (some ⟨w.heap.size,0,none⟩) ys.length cap)/\cS pl' M (h.push (.row sz true 0 ys)) w2/\dK h pl M w (h.push (.row sz true 0 ys)) pl' M w2:=by
 let p:Place:=⟨w.heap.size,0,sz,ys.length,cap*sz⟩
 have hext:nS pl (upd pl h.n p):=λid q hq=>⟨q,by rw[dj (by have:=hr.dom id q hq;omega)];omega,ar _,λ_=>rfl⟩
 obtain⟨r1,r2⟩:=cS.alloc (o:=.row sz true 0 ys) (p:=p) hr hw hs rfl ⟨rfl,rfl,rfl,hsz.symm,rfl,hs0,λhh=>by grind,hin.mono hext (λ_ _ h=>h)⟩;exact⟨_,.slice (eY _ _ _) (ar _) hcap (λk hk=>by grind) (λ_=>⟨.inr (by grind),by grind,by grind,(λ_=>by grind),(λk hk=>by grind)⟩),r1,r2⟩
theorem kr{sz:Nat}{xs:laa}{r:AV×AHeap}(e:iR sz h xs=some r):r=(.slice h.n 0 0 xs.length none,h.push (.row sz true 0 xs)):=by grind[iR]
theorem kE{sz:Nat}{xs ys:laa}{olds news:lao}(h1:InMem pl M olds.toArray 0 sz xs)(h2:InMem pl M news.toArray 0 sz ys)(l1:olds.length=xs.length*sz)(l2:news.length=ys.length*sz)(rest:Array Value):
  InMem pl M ((olds++news).toArray++rest) 0 sz (xs++ys):=by
 refine⟨by grind[Nat.add_mul],λx hx=>?_,λi x j y hi hj=>?_⟩
 ·rcases ie.1 hx with hx|hx
  ·exact h1.elem x hx
  ·exact h2.elem x hx
 ·by_cases hlt:i<xs.length
  ·rw[sC hlt]at hi;have h3:=h1.cell i x j y hi hj;have hjs:j<sz:=by grind[cases InMem]
   have h4:(i+1)*sz<=xs.length*sz:=e9 _ hlt;rw[kQ]at h4;have h5:0+i*sz+j<olds.length:=by omega
   rw[iZ]at h3 ⊢;grind
  ·rw[ot (by omega)]at hi;have h3:=h2.cell (i-xs.length) x j y hi hj;have hjs:j<sz:=by grind[cases InMem]
   have hii:=(fP.1 hi).1;have h4:(i-xs.length+1)*sz<=ys.length*sz:=e9 _ hii;rw[kQ]at h4;have h6:i*sz=xs.length*sz+(i-xs.length)*sz:=by rw[<-kQ];simp_all
   rw[iZ]at h3 ⊢;grind
theorem oR(c:Array Value)(sz:Nat):InMem pl M c 0 sz []:=⟨by simp,λx hx=>by grind,λi x j y hi=>by simp_all⟩
theorem zZ(hr:cS pl M h w){t tx e:TypeId}{ty:TypeId}{i:TypeInfo}{z:Value}(ht:P.underlying t=some (.slice e))(hi:P.info? e=some i)(hz:i.zero=some z)(hzs:z.cells.size=i.size)(hs0:0<i.size)
  {base:lbf}{sLen sCap:Nat}{xs ys:laa}{olds news:lao}{cx:Value}(hol:olds.length=xs.length*i.size)(hoi:InMem pl M olds.toArray 0 i.size xs)(hxl:xs.length=sLen)
  (hold:(Builtin.firstCells i.size sLen (.slice base sLen sCap)).run P w.drew=.ok olds.toArray w.drew)(hs:SrcRel P pl M w cx ys i.size news)
  (hk:(∃e',P.underlying tx=some (.slice e'))\/P.underlying tx=some .string)(hg:sCap<sLen+ys.length)(hsm:small (sLen+ys.length) i.bytes=true):
  ∃cap w2 pl',(Builtin.append_ #[t,tx] ty #[.slice base sLen sCap,cx]).run P w=.ok (.slice (some ⟨w.heap.size,0,none⟩) (sLen+ys.length) cap) w2/\w2.heap.size=w.heap.size+1/\
   VRel pl' M (.slice h.n 0 0 (xs++ys).length none) (.slice (some ⟨w.heap.size,0,none⟩) (sLen+ys.length) cap)/\cS pl' M (h.push (.row i.size true 0 (xs++ys))) w2/\dK h pl M w (h.push (.row i.size true 0 (xs++ys))) pl' M w2/\
   ∃cells,w2.heap=w.heap.push (.cells cells e)/\cells.size=cap*i.size/\(xs++ys).length<=cap/\InMem pl M cells 0 i.size (xs++ys)/\WSame w w2:=by
 obtain⟨b1,b2⟩:=jS hsm;have hrun:=run_append_grow_src (P:=P) w t tx ty e i z ht hi hz base sLen sCap olds hold cx ys.length news (hs.src hk) hg (by omega) (growslice_fits hg (by omega));have hge:=grownCap_ge w (sLen+ys.length) sCap e;have hin:=kE hoi hs.mem hol hs.newsLen (Builtin.zeroCells z.cells (grownCap w (sLen+ys.length) sCap e-(sLen+ys.length)));have hlen:(xs++ys).length=sLen+ys.length:=by simp_all
 have hcs:((olds++news).toArray++Builtin.zeroCells z.cells (grownCap w (sLen+ys.length) sCap e-(sLen+ys.length))).size=grownCap w (sLen+ys.length) sCap e*i.size:=by
  simp only[GY,CN,eA,hol,hs.newsLen,size_zeroCells,hzs,<-kQ];simp_all
 have hwd:(w.drew.alloc (.cells ((olds++news).toArray++Builtin.zeroCells z.cells (grownCap w (sLen+ys.length) sCap e-(sLen+ys.length))) e)).heap=w.heap.push (.cells ((olds++news).toArray++Builtin.zeroCells z.cells (grownCap w (sLen+ys.length) sCap e-(sLen+ys.length))) e):=rfl;obtain⟨pl',k1,k2,k3⟩:=wl (zs:=[]) (z:=z) hr hs0 hwd ⟨rfl,rfl,rfl,om _⟩ hcs (by omega) hin;refine⟨_,_,pl',hrun,by simp_all,?_,k2,k3,_,hwd,hcs,by omega,hin,⟨rfl,rfl,rfl,om _⟩⟩;simp_all
theorem MC(hr:cS pl M h w){t tx e:TypeId}{ty:TypeId}{i:TypeInfo}(ht:P.underlying t=some (.slice e))(hi:P.info? e=some i)
  {id off len cap':Nat}{cap:lan}{op:Bool}{ep:Nat}{xs ys:laa}{p:Place}{c:Array Value}{t':TypeId}{ad:Addr}{news:lao}{cx:Value}
  (hg:h.get id=some (.row i.size op ep xs))(q1:pl id=some p)(q3:w.heap[p.blk]?=some (.cells c t' (0,0)))(q4:p.ep=ep)(q5:p.sz=i.size)(q6:p.n=xs.length)(q7:p.tot=c.size)(q8:0<i.size)
  (q9:op=false->c.size=xs.length*i.size)(q10:InMem pl M c 0 i.size xs)(q11:len<=cap')(q12:∀k,cap=some k->cap'=k)(q13:cap'=0\/ad=⟨p.blk,off*i.size,none⟩)(q14:(off+cap')*i.size<=c.size)
  (q16:cap=none->xs.length<=off+cap')(q17:∀k,cap=some k->off+k<=xs.length)(hs:SrcRel P pl M w cx ys i.size news)(hk:(∃e',P.underlying tx=some (.slice e'))\/P.underlying tx=some .string)
  (hne:ys≠[])(hroom:len+ys.length<=cap')(hin:off+len+ys.length<=xs.length):
  ∃w2,(Builtin.append_ #[t,tx] ty #[.slice (some ad) len cap',cx]).run P w=.ok (.slice (some ad) (len+ys.length) cap') w2/\
   VRel pl M (.slice id ep off (len+ys.length) cap) (.slice (some ad) (len+ys.length) cap')/\cS pl M (h.put id (.row i.size op ep (bN xs (off+len) ys))) w2/\dK h pl M w (h.put id (.row i.size op ep (bN xs (off+len) ys))) pl M w2:=by
 have hpos:0<ys.length:=qB.2 hne;have had:ad=⟨p.blk,off*i.size,none⟩:=by grind
 have hfit0:(off+len+ys.length)*i.size<=c.size:=by
  have:=q10.fit;have h9:(off+len+ys.length)*i.size<=xs.length*i.size:=e9 _ hin;omega
 obtain⟨hl,hmem⟩:=q10.over hs.mem hs.newsLen (k:=off+len) (ys:=bN xs (off+len) ys) hfit0 (by rw[ka hin];have:=q10.fit;omega) (λi x hi=>xy hin hi);have hoff:off*i.size+len*i.size=(off+len)*i.size:=(kQ _ _ _).symm;have hrun:=run_append_room_src (P:=P) w t tx ty e i ht hi p.blk (off*i.size) len cap' cx ys.length news (hs.src hk) hroom (λj hj=>by rw[hoff,oJ q3 (by omega)];rfl) (λj hj=>by grind[World.frozen?]);rw[hoff,<-had]at hrun;obtain⟨r1,r2⟩:=cS.store (ys:=bN xs (off+len) ys) hr q1 hg q3 q4 q5 q6 q7 q8 q9 (ka hin) hl hmem;exact⟨_,hrun,.slice q1 (by omega) hroom q12 (λ_=>⟨by grind,by grind,by omega,(by grind),(by grind)⟩),r1,r2⟩
theorem yy{xs ys:laa}{k:Nat}(hk:k<=xs.length){i:Nat}{x:AV}(hi:(xs.take k++ys)[i]?=some x):
  (i<k/\xs[i]?=some x)\/(k<=i/\i<k+ys.length/\ys[i-k]?=some x)\/(k+ys.length<=i/\xs[i]?=some x):=by
 grind
theorem YW(hr:cS pl M h w){t tx e:TypeId}{ty:TypeId}{i:TypeInfo}{z:Value}(ht:P.underlying t=some (.slice e))(hi:P.info? e=some i)(hz:i.zero=some z)(hzs:z.cells.size=i.size)
  {id len cap':Nat}{ep:Nat}{xs ys:laa}{p:Place}{c:Array Value}{t':TypeId}{ad:Addr}{news:lao}{cx:Value}
  (hg:h.get id=some (.row i.size true ep xs))(q1:pl id=some p)(q3:w.heap[p.blk]?=some (.cells c t' (0,0)))(q4:p.ep=ep)(q5:p.sz=i.size)(q6:p.n=xs.length)(q7:p.tot=c.size)(q8:0<i.size)
  (q10:InMem pl M c 0 i.size xs)(q11:len<=cap')(q13:cap'=0\/ad=⟨p.blk,0,none⟩)(q14:cap'*i.size<=c.size)(q15:len<=xs.length)
  (hs:SrcRel P pl M w cx ys i.size news)(hk:(∃e',P.underlying tx=some (.slice e'))\/P.underlying tx=some .string)
  (hne:ys≠[])(hsm:small (len+ys.length) i.bytes=true):
  ∃cv w2 pl',(Builtin.append_ #[t,tx] ty #[.slice (some ad) len cap',cx]).run P w=.ok cv w2/\
   VRel pl' M (.slice id (ep+1) 0 (len+ys.length) none) cv/\cS pl' M (h.put id (.row i.size true (ep+1) (xs.take len++ys))) w2/\dK h pl M w (h.put id (.row i.size true (ep+1) (xs.take len++ys))) pl' M w2:=by
 have hpos:0<ys.length:=qB.2 hne;have hlen:(xs.take len++ys).length=len+ys.length:=by simp_all
 by_cases hroom:len+ys.length<=cap'
 ·have had:ad=⟨p.blk,0,none⟩:=by grind
  have hfit0:(len+ys.length)*i.size<=c.size:=b0 (e9 _ hroom) q14;obtain⟨hl,hmem⟩:=q10.over hs.mem hs.newsLen (k:=len) (ys:=xs.take len++ys) hfit0 (by simp_all) (λi x hi=>yy q15 hi);have hrun:=run_append_room_src (P:=P) w t tx ty e i ht hi p.blk 0 len cap' cx ys.length news (hs.src hk) hroom (λj hj=>by rw[fx,oJ q3 (by omega)];rfl) (λj hj=>by grind[World.frozen?]);rw[fx,<-had]at hrun;let p':Place:=⟨p.blk,ep+1,i.size,len+ys.length,c.size⟩
  have hext:nS pl (upd pl id p'):=by
   intro k q hq;by_cases ek:k=id
   ·grind[eY]
   ·exact⟨q,by grind[dj],ar _,λ_=>rfl⟩
  obtain⟨r1,r2⟩:=cS.change (p':=p') (o':=.row i.size true (ep+1) (xs.take len++ys)) (w':=w.setCells p.blk (len*i.size) news) hr q1 hg (.inr (by grind)) (oU _ _ _ _)
   (by grind[ju]) (λb _ hb=>nK _ _ hb _ _ _) (.inl rfl) (by grind[ju]) (by
    show bm (upd pl id p') M p' _ (w.setCells p.blk (len*i.size) news).heap[p.blk]?
    rw[oq p.blk t' (0,0) news (len*i.size) w c q3 hl];exact⟨rfl,rfl,hlen.symm,by grind[lz],rfl,q8,λhh=>by grind,hmem.mono hext (λ_ _ h=>h)⟩)
  refine⟨_,_,_,hrun,.slice (eY _ _ _) (ar _) hroom (λk hk=>by grind) (λ_=>⟨?_,by grind,by grind,(λ_=>by grind),(λk hk=>by grind)⟩),r1,r2⟩;grind
 ·have hol:(cut c 0 (len*i.size)).length=(xs.take len).length *i.size:=by grind[ia]
  have hfit1:len*i.size<=c.size:=by
   have:=q10.fit;have h9:len*i.size<=xs.length*i.size:=e9 _ q15;omega
  have hoi:InMem pl M (cut c 0 (len*i.size)).toArray 0 i.size (xs.take len):=by
   refine⟨by simp_all,λx hx=>q10.elem x (sE hx),λk x j y hk hj=>?_⟩;have hkl:=(fP.1 hk).1;have hkl2:k<len:=by simp_all
   rw[LL hkl2]at hk;have hjj:=(fP.1 hj).1;rw[(q10.elem x (bC hk)).1]at hjj;have h5:(k+1)*i.size<=len*i.size:=e9 _ hkl2;rw[kQ]at h5;have h6:=q10.cell k x j y hk hj;rw[iZ,ou,sq (by omega),zg];simp_all
  have hold:(Builtin.firstCells i.size len (.slice (some ad) len cap')).run P w.drew=.ok (cut c 0 (len*i.size)).toArray w.drew:=by
   by_cases h0:len=0
   ·simp_all[Builtin.firstCells,loadCells,loadCellsFrom]
   ·have had:ad=⟨p.blk,0,none⟩:=by grind
    refine run_firstCells_some w.drew i.size len ad len cap' _ (ia _ _ _) (λj u hj=>?_);have hlt:=(fP.1 hj).1;rw[ia]at hlt;rw[sq hlt]at hj;rw[had,Addr.add_lit,<-hj];exact oJ (w:=w.drew) q3 (by omega)
  obtain⟨cap,w2,pl2,k1,k2,k3,k4,k5,cells,k6,k7,k8,k9,k10⟩:=zZ (P:=P) (tx:=tx) (ty:=ty) hr ht hi hz hzs q8 hol hoi (by simp_all) hold hs hk (by omega) hsm;let p':Place:=⟨w.heap.size,ep+1,i.size,len+ys.length,cells.size⟩
  have hext:nS pl (upd pl id p'):=by
   intro k q hq;by_cases ek:k=id
   ·grind[eY]
   ·exact⟨q,by grind[dj],ar _,λ_=>rfl⟩
  obtain⟨r1,r2⟩:=cS.change (p':=p') (o':=.row i.size true (ep+1) (xs.take len++ys)) (w':=w2) hr q1 hg (.inr (by grind)) k10
   (by omega) (λb hb _=>by grind) (.inr (ar _)) (by grind) (by
    show bm (upd pl id p') M p' _ w2.heap[w.heap.size]?
    rw[k6,RQ];exact⟨rfl,rfl,hlen.symm,rfl,rfl,q8,λhh=>by grind,k9.mono hext (λ_ _ h=>h)⟩)
  refine⟨_,_,_,k1,.slice (eY _ _ _) (ar _) (by omega) (λk hk=>by grind) (λ_=>⟨.inr (by grind),by grind,by grind,(λ_=>by grind),(λk hk=>by grind)⟩),r1,r2⟩
theorem mY{t tx e:TypeId}{ty:TypeId}{i:TypeInfo}(ht:P.underlying t=some (.slice e))(hi:P.info? e=some i){x:AV}{cx:Value}(hr:cS pl M h w)(hx:VRel pl M x cx)(he:kh h x=some [])
  (hk:(∃e',P.underlying tx=some (.slice e'))\/P.underlying tx=some .string){base:lbf}{len cap:Nat}(hl:len<=cap):
  (Builtin.append_ #[t,tx] ty #[.slice base len cap,cx]).run P w=.ok (.slice base len cap) w:=by
 have h1:(∀w',(Builtin.lenOf cx).run P w'=.ok 0 w')/\(∀w',(Builtin.firstCells i.size 0 cx).run P w'=.ok #[] w'):=by
  unfold kh at he;split at he
  ·rename_i s;simp at he;subst he;cases hx
   exact⟨λw'=>rfl,λw'=>by simp[Builtin.firstCells]⟩
  ·rcases kz hr hx he with⟨h1,_⟩|⟨ad,cap',news,sz,h1,_⟩
   ·subst h1;exact⟨λw'=>rfl,λw'=>by simp[Builtin.firstCells]⟩
   ·subst h1;exact⟨λw'=>rfl,λw'=>by simp[Builtin.firstCells,loadCells,loadCellsFrom]⟩
 obtain⟨h2,h3⟩:=h1;rcases hk with⟨e',hk⟩|hk<;>cases base<;>simp[Builtin.append_,run_underlying ht,run_underlying hk,sizeOf,typeInfo,hi,h2,h3,hl,storeCells]
theorem Lf (hr:cS pl M h w){t tx e:TypeId}{ty:TypeId}{i:TypeInfo}{z:Value}(ht:P.underlying t=some (.slice e))(hi:P.info? e=some i)(hz:i.zero=some z)(hzs:z.cells.size=i.size)(hs0:0<i.size)
  (hk:(∃e',P.underlying tx=some (.slice e'))\/P.underlying tx=some .string){s x:AV}{cs cx:Value}(hs:VRel pl M s cs)(hx:VRel pl M x cx){r:AV×AHeap}(he:ge i.size i.bytes h s x=some r):
  ∃cv w2 pl',(Builtin.append_ #[t,tx] ty #[cs,cx]).run P w=.ok cv w2/\VRel pl' M r.1 cv/\cS pl' M r.2 w2/\dK h pl M w r.2 pl' M w2/\h.n<=r.2.n:=by
 unfold ge at he;cases hsrc:kh h x with
 |none=>simp_all
 | some ys=>
  rw[hsrc]at he;simp only[]at he;unfold gE at he;split at he
  ·split at he<;>simp at he<;>subst he
   ·cases hs
    exact⟨_,_,pl,mY ht hi hr hx hsrc hk (ar _),.nils,hr,dK.refl _ _ _ _,ar _⟩
   ·have hs':=hs;cases hs with
    |ps hl=>exact⟨_,_,pl,mY ht hi hr hx hsrc hk hl,hs',hr,dK.refl _ _ _ _,ar _⟩
   ·have hs':=hs;cases hs with
    |lsn=>exact⟨_,_,pl,mY ht hi hr hx hsrc hk (ar _),hs',hr,dK.refl _ _ _ _,ar _⟩
    |lsp h1 _=>cases h1 with
     |ps hl=>exact⟨_,_,pl,mY ht hi hr hx hsrc hk hl,hs',hr,dK.refl _ _ _ _,ar _⟩
   ·have hs':=hs;cases hs with
    |slice hp hle hl=>exact⟨_,_,pl,mY ht hi hr hx hsrc hk hl,hs',hr,dK.refl _ _ _ _,ar _⟩
  ·rename_i y0 yr;have hne:y0::yr≠[]:=by simp
   split at he
   ·simp_all
   ·rename_i hfit;obtain⟨news,hsr⟩:=zR (P:=P) hr hx hsrc hne hfit;have hpos:0<(y0::yr).length:=by simp
    generalize hys:y0::yr=ys at *;split at he
    ·
     cases hs
     split at he
     ·rename_i hsm;have:=kr he;subst this;obtain⟨cap,w2,pl2,k1,k2,k3,k4,k5,_⟩:=zZ (P:=P) (t:=t) (tx:=tx) (ty:=ty) (base:=none) (sLen:=0) (sCap:=0) (xs:=[]) (olds:=[]) hr ht hi hz hzs hs0 (by simp) (oR _ _) rfl (by simp[Builtin.firstCells]) hsr hk (by omega) (by simp_all);simp only[fx,xj]at k1 k3 k4;exact⟨_,_,_,k1,k3,k4,k5,by show h.n<=h.n+1;omega⟩
     simp_all
    ·
     rename_i xs;split at he
     ·rename_i hsm;simp at hsm;have:=kr he;subst this;have hxf:=mF hsm.2;rcases kz (xs:=xs) hr hs rfl with⟨h1,_⟩|⟨ad,cap',olds,sz,h1,h2,h3,h4,h5⟩
      ·subst h1;cases hs
      ·subst h1;cases hs with
       | ps hl htt hm hs2 hc=>
        have hcap:=htt rfl;subst hcap;have hsz:xs=[]\/sz=i.size:=by
         cases xs with
         |nil=>simp_all
         |cons y r=>right;rw[<-(h5.elem y (by simp)).1];simp_all
        have hol:olds.length=xs.length*i.size:=by grind
        have hoi:InMem pl M olds.toArray 0 i.size xs:=by grind[oR]
        have hold:(Builtin.firstCells i.size xs.length (.slice (some ad) xs.length xs.length)).run P w.drew=.ok olds.toArray w.drew:=run_firstCells_some w.drew i.size xs.length ad _ _ olds hol (λj u hj=>by simp_all);obtain⟨cap,w2,pl2,k1,k2,k3,k4,k5,_⟩:=zZ (P:=P) (tx:=tx) (ty:=ty) hr ht hi hz hzs hs0 hol hoi rfl hold hsr hk (by omega) hsm.1;refine⟨_,_,_,k1,?_,k4,k5,by show h.n<=h.n+1;omega⟩;omega
     simp_all
    ·
     rename_i id ep off len cap;split at he
     ·rename_i sz' op ep' xs hg;rw[aD,aD]at he;split at he
      ·simp_all
      ·rename_i hc;simp at hc;obtain⟨⟨c1,c2⟩,c3⟩:=hc;subst c1;subst c2;obtain⟨p,c,t',ad,cap',q1,rfl,q3,q4,q5,q6,q7,q8,q9,q10,q11,q12,q13,q14,q15,q16,q17⟩:=nZ hr hs hg;split at he
       ·rename_i k;have hcap:=q12 k rfl;subst hcap;rw[bd]at he;split at he
        ·rename_i hroom;simp at hroom;rw[bd]at he;split at he
         ·rename_i hin;simp at hin;simp at he;subst he;obtain⟨w2,k1,k2,k3,k4⟩:=MC (P:=P) (tx:=tx) (ty:=ty) hr ht hi hg q1 q3 q4 q5 q6 q7 q8 q9 q10 q11 q12 q13 q14 q16 q17 hsr hk (by omega) hroom hin;exact⟨_,_,_,k1,k2,k3,k4,ar _⟩
         simp_all
        ·rename_i hroom;simp at hroom;have:=kr he;subst this;rcases kz (xs:=(xs.drop off).take len) hr hs (by grind[kI,aD])with⟨h1,_⟩|⟨ad2,cap2,olds,sz,h1,h2,h3,h4,h5⟩
         ·simp_all
         ·have hlen2:((xs.drop off).take len).length=len:=by grind
          simp at h1;obtain⟨rfl,_,rfl⟩:=h1;have hsz:(xs.drop off).take len=[]\/sz=i.size:=by
           cases hxs:(xs.drop off).take len with
           |nil=>grind
           |cons y r=>
            right;have hmem:y∈(xs.drop off).take len:=by grind
            grind[cases InMem]
          have hol:olds.length=((xs.drop off).take len).length *i.size:=by grind
          have hoi:InMem pl M olds.toArray 0 i.size ((xs.drop off).take len):=by grind[oR]
          have hold:(Builtin.firstCells i.size len (.slice (some ad) len cap')).run P w.drew=.ok olds.toArray w.drew:=run_firstCells_some w.drew i.size len ad _ _ olds (by grind) (λj u hj=>by grind[World.cell?_drew]);obtain⟨cap,w2,pl2,k1,k2,k3,k4,k5,_⟩:=zZ (P:=P) (tx:=tx) (ty:=ty) hr ht hi hz hzs hs0 hol hoi hlen2 hold hsr hk (by omega) c3;refine⟨_,_,_,k1,?_,k4,k5,by show h.n<=h.n+1;omega⟩;omega
       ·rw[bd]at he;split at he
        ·rename_i hin;simp at hin;simp at he;subst he;have:=q16 rfl;obtain⟨w2,k1,k2,k3,k4⟩:=MC (P:=P) (tx:=tx) (ty:=ty) hr ht hi hg q1 q3 q4 q5 q6 q7 q8 q9 q10 q11 q12 q13 q14 q16 q17 hsr hk (by omega) (by omega) hin;exact⟨_,_,_,k1,k2,k3,k4,ar _⟩
        ·split at he
         ·simp at he;subst he;obtain⟨cv,w2,pl2,k1,k2,k3,k4⟩:=YW (P:=P) (tx:=tx) (ty:=ty) hr ht hi hz hzs hg q1 q3 q4 q5 q6 q7 q8 q10 q11 (by simpa using q13) (by simp_all) (by omega) hsr hk (by omega) c3;exact⟨_,_,_,k1,k2,k3,k4,ar _⟩
         simp_all
     simp_all
    simp_all
theorem RI(hr:cS pl M h w){t tn e:TypeId}{ty:TypeId}{i:TypeInfo}{zv:Value}{z:AV}(ht:P.underlying t=some (.slice e))(htn:P.underlying tn=some (.int .i64))(hi:P.info? e=some i)(hz:i.zero=some zv)(hzo:ofValue zv=some z)
  {s:AV}{k:Nat}{cs:Value}(hs:VRel pl M s cs){r:AV×AHeap}(he:NV i.size i.bytes z h s k=some r):
  ∃cv w2 pl',(Builtin.append_ #[t,tn] ty #[cs,.int .i64 k]).run P w=.ok cv w2/\VRel pl' M r.1 cv/\cS pl' M r.2 w2/\dK h pl M w r.2 pl' M w2/\h.n<=r.2.n:=by
 unfold NV at he;split at he
 ·rename_i id ep off len c0;split at he
  ·rename_i sz' op ep' xs hg;split at he
   ·rename_i hc;rw[aD,aD,bd]at hc;simp only[ba,decide_eq_true_eq]at hc;obtain⟨⟨⟨⟨⟨⟨c1,c2⟩,c3⟩,c4⟩,c5⟩,c6⟩,c7⟩:=hc;subst c1;subst c2;have c6:c0<len+k:=wQ c6;obtain⟨s1,s2⟩:=jS c3;obtain⟨s3,s4⟩:=jS c4;have:=kr he;subst this;obtain⟨p,c,t',ad,cap',q1,rfl,q3,q4,q5,q6,q7,q8,q9,q10,q11,q12,q13,q14,q15,q16,q17⟩:=nZ hr hs hg;have hcap:=q12 c0 rfl;subst hcap;rcases kz (xs:=(xs.drop off).take len) hr hs (by grind[kI,aD])with⟨h1,_⟩|⟨ad2,cap2,olds,sz,h1,h2,h3,h4,h5⟩
    ·simp_all
    ·have hlen2:((xs.drop off).take len).length=len:=by grind
     simp at h1;obtain⟨rfl,_,rfl⟩:=h1;have hsz:(xs.drop off).take len=[]\/sz=i.size:=by
      cases hxs:(xs.drop off).take len with
      |nil=>grind
      |cons y r=>
       right;have hmem:y∈(xs.drop off).take len:=by grind
       grind[cases InMem]
     have hol:olds.length=((xs.drop off).take len).length *i.size:=by grind
     have hoi:InMem pl M olds.toArray 0 i.size ((xs.drop off).take len):=by grind[oR]
     have hold:(Builtin.firstCells i.size len (.slice (some ad) len cap')).run P w.drew=.ok olds.toArray w.drew:=run_firstCells_some w.drew i.size len ad _ _ olds (by grind) (λj u hj=>by grind[World.cell?_drew]);have hzr:=dB (pl:=pl) (M:=M) hzo;have hzf:=mF c7 z (by simp);have hzsz:zv.cells.size=i.size:=by rw[<-hzr.cells.len];omega
     have hin:=fy hzr hzf.2 k hzf.1 q8;have hzl:(Builtin.zeroCells zv.cells k).toList.toArray=(Array.range (k*i.size)).map (zv.cells[· %zv.cells.size]!):=by grind[Builtin.zeroCells]
     have hnl:(Builtin.zeroCells zv.cells k).toList.length=(List.replicate k z).length *i.size:=by grind[Builtin.zeroCells]
     have hrun:=Lib.run_append_grow_zeros (P:=P) w t tn ty e i zv .i64 .i64 ht htn hi hz (some ad) len cap' olds hold k (by omega) q8 (by omega) (by omega) (by omega) (growslice_fits (by omega) (by omega));have hge:=grownCap_ge w (len+k) cap' e;have hin2:=kE (news:=(Builtin.zeroCells zv.cells k).toList) hoi (by grind) hol hnl (Builtin.zeroCells zv.cells (grownCap w (len+k) cap' e-(len+k)));have hlen:((xs.drop off).take len++List.replicate k z).length=len+k:=by grind
     have hce:(olds++(Builtin.zeroCells zv.cells k).toList).toArray++Builtin.zeroCells zv.cells (grownCap w (len+k) cap' e-(len+k))=olds.toArray++Builtin.zeroCells zv.cells k++Builtin.zeroCells zv.cells (grownCap w (len+k) cap' e-(len+k)):=by grind
     rw[hce]at hin2;have hcs:(olds.toArray++Builtin.zeroCells zv.cells k++Builtin.zeroCells zv.cells (grownCap w (len+k) cap' e-(len+k))).size=grownCap w (len+k) cap' e*i.size:=by
      simp only[GY,CN,hol,hlen2,size_zeroCells,hzsz,<-kQ];grind
     have hwd:(w.drew.alloc (.cells (olds.toArray++Builtin.zeroCells zv.cells k++Builtin.zeroCells zv.cells (grownCap w (len+k) cap' e-(len+k))) e)).heap=w.heap.push (.cells (olds.toArray++Builtin.zeroCells zv.cells k++Builtin.zeroCells zv.cells (grownCap w (len+k) cap' e-(len+k))) e):=rfl;obtain⟨pl',k1,k2,k3⟩:=wl (zs:=[]) (z:=zv) hr q8 hwd ⟨rfl,rfl,rfl,om _⟩ hcs (by omega) hin2;refine⟨_,_,pl',hrun,?_,k2,k3,by show h.n<=h.n+1;omega⟩;grind
   simp_all
  simp_all
 ·split at he
  ·rename_i hc;simp only[ba]at hc;obtain⟨⟨⟨c4,c5⟩,c6⟩,c7⟩:=hc;have c5:1<=k:=wQ c5;have q8:0<i.size:=wQ c6;obtain⟨s3,s4⟩:=jS c4;have:=kr he;subst this;cases hs
   have hzr:=dB (pl:=pl) (M:=M) hzo;have hzf:=mF c7 z (by simp);have hzsz:zv.cells.size=i.size:=by rw[<-hzr.cells.len];omega
   have hin:=fy hzr hzf.2 k hzf.1 q8;have hzl:(Builtin.zeroCells zv.cells k).toList.toArray=(Array.range (k*i.size)).map (zv.cells[· %zv.cells.size]!):=by grind[Builtin.zeroCells]
   have hnl:(Builtin.zeroCells zv.cells k).toList.length=(List.replicate k z).length *i.size:=by simp_all
   have hrun:=Lib.run_append_grow_zeros (P:=P) w t tn ty e i zv .i64 .i64 ht htn hi hz none 0 0 [] (by simp[Builtin.firstCells]) k (by omega) q8 (by omega) (by omega) (by omega) (growslice_fits (by omega) (by grind));have hge:=grownCap_ge w (0+k) 0 e;have hin2:=kE (olds:=[]) (xs:=[]) (news:=(Builtin.zeroCells zv.cells k).toList) (oR _ _) (by rw[hzl];exact hin) (by simp) hnl (Builtin.zeroCells zv.cells (grownCap w (0+k) 0 e-(0+k)));have hlen:(List.replicate k z).length=k:=qA;have hce:([]++(Builtin.zeroCells zv.cells k).toList).toArray++Builtin.zeroCells zv.cells (grownCap w (0+k) 0 e-(0+k))=([]:lao).toArray++Builtin.zeroCells zv.cells k++Builtin.zeroCells zv.cells (grownCap w (0+k) 0 e-(0+k)):=by
    apply Array.ext';simp
   rw[hce]at hin2;have hcs:(([]:lao).toArray++Builtin.zeroCells zv.cells k++Builtin.zeroCells zv.cells (grownCap w (0+k) 0 e-(0+k))).size=grownCap w (0+k) 0 e*i.size:=by
    simp only[GY,CN,hJ,size_zeroCells,hzsz,fx,<-kQ];simp_all
   have hwd:(w.drew.alloc (.cells (([]:lao).toArray++Builtin.zeroCells zv.cells k++Builtin.zeroCells zv.cells (grownCap w (0+k) 0 e-(0+k))) e)).heap=w.heap.push (.cells (([]:lao).toArray++Builtin.zeroCells zv.cells k++Builtin.zeroCells zv.cells (grownCap w (0+k) 0 e-(0+k))) e):=rfl;obtain⟨pl',k1,k2,k3⟩:=wl (zs:=[]) (z:=zv) hr q8 hwd ⟨rfl,rfl,rfl,om _⟩ hcs (by simp_all) hin2;refine⟨_,_,pl',hrun,?_,k2,k3,by show h.n<=h.n+1;omega⟩;simp_all
  simp_all
 simp_all
end
section
variable{P:Program}{G:fz}{pl:Pl}{M:dN}{h h':AHeap}{w w':World}{v:AV}{A:Fr}{a:Act}
theorem Gz(hr:cS pl M h w){id off sz:Nat}{op:Bool}{ep:Nat}{xs ys:laa}{p:Place}{c:Array Value}{t':TypeId}{news:lao}
  (hg:h.get id=some (.row sz op ep xs))(q1:pl id=some p)(q3:w.heap[p.blk]?=some (.cells c t' (0,0)))(q4:p.ep=ep)(q5:p.sz=sz)(q6:p.n=xs.length)(q7:p.tot=c.size)(q8:0<sz)
  (q9:op=false->c.size=xs.length*sz)(q10:InMem pl M c 0 sz xs)(hn:InMem pl M news.toArray 0 sz ys)(hnl:news.length=ys.length*sz)(h1:∀u∈news,u.oneCell'=true)(hin:off+ys.length<=xs.length):
  (storeCells ⟨p.blk,off*sz,none⟩ news).run P w=.ok () (w.setCells p.blk (off*sz) news)/\
   cS pl M (h.put id (.row sz op ep (bN xs off ys))) (w.setCells p.blk (off*sz) news)/\dK h pl M w (h.put id (.row sz op ep (bN xs off ys))) pl M (w.setCells p.blk (off*sz) news):=by
 have hfit0:(off+ys.length)*sz<=c.size:=by
  have:=q10.fit;have h9:(off+ys.length)*sz<=xs.length*sz:=e9 _ hin;omega
 obtain⟨hl,hmem⟩:=q10.over hn hnl (k:=off) (ys:=bN xs off ys) hfit0 (by grind[ka,cases InMem]) (λi x hi=>xy hin hi);grind[qV,cS.store,ka]
theorem KO(l:lar):dL 1 (l.map λb=>AV.int .u8 (Int.ofNat b.toNat))=true:=by
 induction l with
 |nil=>rfl
 |cons b r ih=>simp_all[dL,AV.cells,fj]
theorem Tb (hr:cS pl M h w){t e ty:TypeId}{s:Nat}(ht:P.underlying t=some (.slice e))(hsz:dV P e=some s){d x:AV}{cd cx:Value}(hd:VRel pl M d cd)(hx:VRel pl M x cx){r:AV×AHeap}
  (he:vu s h (some d) (some x)=some r){ts:Array TypeId}(hts:ts[0]?=some t):
  ∃cv w2,(Builtin.copy_ ts ty #[cd,cx]).run P w=.ok cv w2/\VRel pl M r.1 cv/\cS pl M r.2 w2/\dK h pl M w r.2 pl M w2/\h.n<=r.2.n:=by
 simp only[vu]at he;cases hsrc:kh h x with
 |none=>simp_all
 | some ys=>
  rw[hsrc]at he;simp only[N1]at he;split at he
  ·rename_i id ep off len cap;split at he
   ·rename_i sz' op ep' xs hg;rw[aD,aD]at he;split at he
    ·rename_i hc;simp at hc he;obtain⟨⟨c1,c2⟩,c3⟩:=hc;subst c1;subst c2;subst he;obtain⟨p,c,t',ad,cap',q1,rfl,q3,q4,q5,q6,q7,q8,q9,q10,q11,q12,q13,q14,q15,q16,q17⟩:=nZ hr hd hg;by_cases hne:ys.take len=[]
     ·have hmin:min ys.length len=0:=by
       have h9:(ys.take len).length=0:=by simp_all
       grind
      have hw:bN xs off (ys.take len)=xs:=by rw[hne];simp[bN]
      have hl0:(∀w',(Builtin.lenOf cx).run P w'=.ok ys.length w')/\(∀w',(Builtin.firstCells s 0 cx).run P w'=.ok #[] w'):=by
       unfold kh at hsrc;split at hsrc
       ·rename_i l;simp at hsrc;subst hsrc;cases hx
        exact⟨λw'=>by simp[Builtin.lenOf];rfl,λw'=>by simp[Builtin.firstCells]⟩
       ·rcases kz hr hx hsrc with⟨h1,h2⟩|⟨ad2,cap2,news,sz,h1,_⟩
        ·subst h1;subst h2;exact⟨λw'=>rfl,λw'=>by simp[Builtin.firstCells]⟩
        ·subst h1;exact⟨λw'=>rfl,λw'=>by simp[Builtin.firstCells,loadCells,loadCellsFrom]⟩
      refine⟨.int .i64 (0:Int),w,?_,?_,?_,?_,ar _⟩
      ·have hm0:Nat.min ys.length len=0:=hmin;simp[Builtin.copy_,hts,run_underlying ht,hl0.1,hm0,dZ hsz,hl0.2,storeCells,goInt]
      ·have:(Int.ofNat (min ys.length len))=0:=by simp_all
       show VRel pl M (.int .i64 (Int.ofNat (min ys.length len))) _
       rw[this];exact .int _ _
      ·show cS pl M (h.put id _) w
       rw[hw];exact(hr.samePut q1 hg).1
      ·show dK h pl M w (h.put id _) pl M w
       rw[hw];exact(hr.samePut q1 hg).2
     ·have hys:ys≠[]:=by simp_all
      have hlen0:len≠0:=by simp_all
      have hfits:∃news,SrcRel P pl M w cx ys s news:=by
       unfold kh at hsrc;cases ys with
       |nil=>simp_all
       | cons y0 yr=>
        have hy0:y0.cells.length=s:=by
         cases len with
         |zero=>omega
         |succ n=>grind[mF]
        split at hsrc
        ·rename_i l;refine zR (h:=h) hr hx (by grind[kh]) (by simp) ?_;simp at hsrc;have hs1:s=1:=by
          rw[<-hy0];cases l with
          |nil=>simp_all
          |cons b r=>simp at hsrc;rw[<-hsrc.1];rfl
         grind[KO]
        ·refine zR (h:=h) hr hx (by grind[kh]) (by simp) ?_;rcases kz hr hx hsrc with⟨_,h2⟩|⟨ad2,cap2,news,sz,h1,h2,h3,h4,h5⟩
         ·simp_all
         ·have hs2:sz=s:=by grind[cases InMem]
          subst hs2;have:∀l:laa,(∀x,x∈l->x.cells.length=sz/\Sc x)->dL sz l=true:=by
           intro l;induction l with
           |nil=>intro _;rfl
           |cons b r ih=>
            intro hl;have hb:=hl b (by simp);have hfb:fj b=true:=by cases b<;>first|rfl|(have:=hb.2 _ (by simp[AV.cells];rfl);grind[dq])
            grind[dL,aD]
          exact this _ h5.elem
      obtain⟨news,hsr⟩:=hfits;have had:ad=⟨p.blk,off*s,none⟩:=by grind
      have hn:Nat.min ys.length len=(ys.take len).length:=by grind
      have hle:(ys.take len).length<=ys.length:=by grind
      have hcells:=hsr.cells (ys.take len).length hle w rfl;have hnl:(news.take ((ys.take len).length *s)).length=(ys.take len).length *s:=by
       rw[List.length_take,hsr.newsLen];simp_all
      have hin2:InMem pl M (news.take ((ys.take len).length *s)).toArray 0 s (ys.take len):=by
       refine⟨by simp_all,λx hx=>hsr.mem.elem x (sE hx),λi x j y hi hj=>?_⟩;have hil:=(fP.1 hi).1;have hil2:i<len:=by grind
       rw[LL hil2]at hi;have hjj:=(fP.1 hj).1;rw[(hsr.mem.elem x (bC hi)).1]at hjj;have h5:(i+1)*s<=(ys.take len).length *s:=e9 _ hil;rw[kQ]at h5;have h6:=hsr.mem.cell i x j y hi hj;rw[iZ,ou]at h6 ⊢;grind
      obtain⟨k1,k2,k3⟩:=Gz (P:=P) (off:=off) hr hg q1 q3 q4 q5 q6 q7 q8 q9 q10 hin2 hnl (λu hu=>hsr.one u (sE hu)) (by grind);rw[<-had]at k1;refine⟨.int .i64 ((ys.take len).length:Int),_,?_,?_,k2,k3,ar _⟩
      ·clear hin2 hnl k2 k3 hle;generalize (ys.take len).length=n at hn hcells k1;simp[Builtin.copy_,hts,run_underlying ht,hsr.len,hn,dZ hsz,hcells,k1,goInt]
      ·have:(Int.ofNat (min ys.length len))=((ys.take len).length:Int):=by simp_all
       show VRel pl M (.int .i64 (Int.ofNat (min ys.length len))) _
       rw[this];exact .int _ _
    simp_all
   simp_all
  simp_all
theorem PH(hr:cS pl M h w){t e ty:TypeId}{s:Nat}{z:AV}(ht:P.underlying t=some (.slice e))(hz:iP P e=some z){x:AV}{cx:Value}(hx:VRel pl M x cx){r:AV×AHeap}
  (he:wS s z h (some x)=some r){ts:Array TypeId}(hts:ts[0]?=some t):
  ∃cv w2,(Builtin.clear_ ts ty #[cx]).run P w=.ok cv w2/\VRel pl M r.1 cv/\cS pl M r.2 w2/\dK h pl M w r.2 pl M w2/\h.n<=r.2.n:=by
 unfold wS at he;split at he
 ·rename_i id ep off len cap e0;simp at e0;subst e0;split at he
  ·rename_i sz' op ep' xs hg;rw[aD,aD]at he;split at he
   ·rename_i hc;simp at hc he;obtain⟨⟨c1,c2⟩,c3⟩:=hc;subst c1;subst c2;subst he;obtain⟨p,c,t',ad,cap',q1,rfl,q3,q4,q5,q6,q7,q8,q9,q10,q11,q12,q13,q14,q15,q16,q17⟩:=nZ hr hx hg;obtain⟨zv,hz1,hz2⟩:=lG hz;have hzr:=dB (pl:=pl) (M:=M) hz2;have hzf:=mF c3 z (by simp);have hzc:=hzr.cells;have hzsz:zv.cells.size=s:=by rw[<-hzc.len];omega
    by_cases h0:len=0
    ·subst h0;have hw:bN xs off (List.replicate 0 z)=xs:=by simp[bN]
     refine⟨.tuple #[],w,by simp_all[Builtin.clear_,run_underlying],.tuple rfl (λj y h=>by simp_all),?_,?_,ar _⟩
     ·show cS pl M (h.put id _) w
      rw[hw];exact(hr.samePut q1 hg).1
     ·show dK h pl M w (h.put id _) pl M w
      rw[hw];exact(hr.samePut q1 hg).2
    ·have had:ad=⟨p.blk,off*s,none⟩:=by grind
     have hin:=fy hzr hzf.2 len hzf.1 q8;have hzl:(Builtin.zeroCells zv.cells len).toList.toArray=(Array.range (len*s)).map (zv.cells[· %zv.cells.size]!):=by grind[Builtin.zeroCells]
     have hnl:(Builtin.zeroCells zv.cells len).toList.length=(List.replicate len z).length *s:=by simp_all
     obtain⟨k1,k2,k3⟩:=Gz (P:=P) (off:=off) (ys:=List.replicate len z) (news:=(Builtin.zeroCells zv.cells len).toList) hr hg q1 q3 q4 q5 q6 q7 q8 q9 q10 (by grind) hnl (by
      have hs:SrcRel P pl M w (.nilIface) (List.replicate len z) s (Builtin.zeroCells zv.cells len).toList->True:=λ_=>trivial
      intro u hu;simp only[Builtin.zeroCells,Array.toList_map,iO]at hu;obtain⟨k,_,rfl⟩:=hu;have hmod:k%zv.cells.size<zv.cells.size:=Nat.mod_lt _ (by omega);have:zv.cells[k%zv.cells.size]! =zv.cells[k%zv.cells.size]:=by grind
      rw[this];exact hzc.one (hzr.sc hzf.2) _ (by simp)) (by simp_all)
     rw[<-had]at k1;refine⟨.tuple #[],_,?_,.tuple rfl (λj y h=>by simp_all),k2,k3,ar _⟩;simp_all[Builtin.clear_,run_underlying]
   simp_all
  simp_all
 simp_all
end
section
variable{P:Program}{G:fz}{pl:Pl}{M:dN}{h h':AHeap}{w w':World}{v:AV}{A:Fr}{a:Act}
theorem lq{o:Option (AV×AHeap)}{r:ARes}(e:fJ o=some r):∃p,o=some p/\r=.val p.1 p.2:=by
 cases o with
 |none=>grind[fJ]
 |some p=>obtain⟨v,h⟩:=p;simp[fJ]at e;simp_all
theorem bind_some{α β:Type}{o:Option α}{f:α->Option β}{b:β}(e:o.bind f=some b):∃a,o=some a/\f a=some b:=by
 cases o with
 |none=>simp_all
 |some a=>simp_all
theorem fK{b:Builtin}{ts:Array TypeId}{args:Array Operand}{dst:lau}{ty:TypeId}{pos:String}{after:Array Edge}{guard:Option (Nat×Bool)}{s:Sem Value}{cv:Value}{pl':Pl}{M':dN}
  (hb:∀cs,builtin b ts ty cs (args.map a.eval)=(do pure (.value (<-s))))(hrun:s.run P w=.ok cv w')(hv:VRel pl' M' v cv)(hr:cS pl' M' h' w')(hs:dK h pl M w h' pl' M' w')(hn:h.n<=h'.n):
  qr pl M h w ((execOp a.eval ⟨dst,.call ⟨.builtin b,args,ts⟩,ty,pos,after,guard⟩).run P w) v h':=by
 refine⟨pl',M',cv,w',.value cv,?_,.inl rfl,hv,hr,hs,hn⟩;simp_all[execOp,resolve,invoke]
theorem tY{args:Array Operand}{x:Operand}(h:args.toList=[x]):args=#[x]:=by grind
theorem zA{args:Array Operand}{x y:Operand}(h:args.toList=[x,y]):args=#[x,y]:=by grind
def mm:Bool->Value->Value->Sem Value
 |true=>Builtin.max2
 |false=>Builtin.min2
theorem E8(mx:Bool){k:IntKind}:∀(l:laa)(a0:Int)(cs:lao),VRels pl M l cs.toArray->PQ mx k a0 l=some v->∃r,v=.int k r/\∀w:World,(cs.foldlM (mm mx) (.int k a0)).run P w=.ok (.int k r) w
 |[],a0,cs,hc,e=>by
  simp[PQ]at e;have:cs=[]:=sB (by grind[cases VRels]);simp_all
 | x::r,a0,cs,hc,e=>by
  cases x with
  | int kb b=>
   simp only[PQ,Dg,O9]at e;cases cs with
   |nil=>grind[cases VRels]
   | cons c cr=>
    have h0:=hc.at_ 0 _ rfl;simp[Array.getD]at h0;cases h0
    obtain⟨rr,h1,h2⟩:=E8 mx r _ cr ⟨by grind[cases VRels],λj y hj=>by
     have:=hc.at_ (j+1) y (by simp_all);simp_all⟩ e
    refine⟨rr,h1,λw=>?_⟩;rw[List.foldlM_cons];cases mx
    ·simp only[mm,Sem.run_bind,Builtin.min2,Sem.run_pure,Result.andThen_ok];grind[wC,mm]
    ·simp only[mm,Sem.run_bind,Builtin.max2,Sem.run_pure,Result.andThen_ok];grind[wC,mm]
  |_=>simp[PQ]at e
theorem KX(b:Builtin)(args:Array Operand)(ts:Array TypeId):jJ P G (.call ⟨.builtin b,args,ts⟩):=by
 intro pl M A h v h' a w dst ty pos after guard hg hr hf he;simp only[fc]at he;unfold iD at he;split at he
 ·
  rename_i x hargs;have hargs:=tY hargs;subst hargs;split at he
  ·rename_i ht;obtain⟨t,ht0,ht1⟩:=bind_some ht;obtain⟨u,e1,e2⟩:=bF he;simp at e2;obtain⟨rfl,rfl⟩:=e2;cases hx:(cA G x).run A with
   |none=>grind[Kz]
   |some xv=>
    have hxv:=bK hg hf hx;rw[hx]at e1;cases xv<;>simp[Kz]at e1
    subst e1;generalize hq:a.eval x=cx at hxv;cases hxv
    rename_i l;refine fK (s:=Builtin.len_ ts ty #[.string ⟨⟨l⟩⟩]) (cv:=.int .i64 (l.length:Int)) (λcs=>by grind[builtin]) ?_ (.int _ _) hr (dK.refl _ _ _ _) (ar _);simp[Builtin.len_,ht0,run_underlying ht1,goInt];rfl
  ·rename_i e' ht;obtain⟨t,ht0,ht1⟩:=bind_some ht;obtain⟨u,e1,e2⟩:=bF he;simp at e2;obtain⟨rfl,rfl⟩:=e2;cases hx:(cA G x).run A with
   |none=>grind[RN]
   | some xv=>
    have hxv:=bK hg hf hx;rw[hx]at e1;have key:∃ad n c,a.eval x=.slice ad n c/\v=.int .i64 (Int.ofNat n):=by
     generalize a.eval x=cx at hxv;cases xv<;>simp[RN]at e1
     case ls xs=>
      subst e1;cases hxv with
      |lsn=>grind
      |lsp h _=>cases h;grind
     case sl0 id ep n c=>
      subst e1;cases hxv with
      |sl0n h=>cases h with|lsn=>grind|lsp h _=>cases h;grind
      |sl0s h=>cases h;grind
     all_goals (subst e1;cases hxv;exact⟨_,_,_,rfl,rfl⟩)
    obtain⟨ad,n,c,hq,rfl⟩:=key;refine fK (s:=Builtin.len_ ts ty #[.slice ad n c]) (cv:=.int .i64 (Int.ofNat n)) (λcs=>by grind[builtin]) ?_ (.int _ _) hr (dK.refl _ _ _ _) (ar _);simp_all[Builtin.len_,run_underlying,goInt]
  ·rename_i k' e' ht;obtain⟨t,ht0,ht1⟩:=bind_some ht;obtain⟨u,e1,e2⟩:=bF he;simp at e2;obtain⟨rfl,rfl⟩:=e2;cases hx:(cA G x).run A with
   |none=>grind[Kk]
   | some xv=>
    have hxv:=bK hg hf hx;rw[hx]at e1;unfold Kk at e1;split at e1
    ·rename_i q;simp at q;subst q;simp at e1;subst e1;generalize hq:a.eval x=cx at hxv;cases hxv
     refine fK (s:=Builtin.len_ ts ty #[.map none]) (cv:=.int .i64 0) (λcs=>by grind[builtin]) ?_ (.int _ _) hr (dK.refl _ _ _ _) (ar _);simp_all[Builtin.len_,run_underlying,goInt]
    ·rename_i id q;simp at q;subst q;split at e1
     ·rename_i es clock hgo;simp at e1;subst e1;generalize hq:a.eval x=cx at hxv;cases hxv with
      | map hp ha=>
       rename_i r p;have ho:=hr.obj id p _ hp hgo;cases hb:w.heap[p.blk]? with
       |none=>grind[bm]
       |some ob=>
        rw[hb]at ho;cases ob<;>simp only[bm]at ho
        rename_i entries clock';obtain⟨h1,h2,h3,h4⟩:=ho;have hrb:=ha h1;subst hrb;refine fK (s:=Builtin.len_ ts ty #[.map (some p.blk)]) (cv:=.int .i64 (Int.ofNat es.length)) (λcs=>by grind[builtin]) ?_ (.int _ _) hr (dK.refl _ _ _ _) (ar _);simp_all[Builtin.len_,run_underlying,goInt,getObj,Sem.run]
     simp_all
    simp_all
  grind[ab]
 ·
  rename_i x hargs;have hargs:=tY hargs;subst hargs;split at he
  ·rename_i e' ht;obtain⟨t,ht0,ht1⟩:=bind_some ht;obtain⟨u,e1,e2⟩:=bF he;simp at e2;obtain⟨rfl,rfl⟩:=e2;cases hx:(cA G x).run A with
   |none=>grind[Zl]
   | some xv=>
    have hxv:=bK hg hf hx;rw[hx]at e1;have key:∃ad n c,a.eval x=.slice ad n c/\v=.int .i64 (Int.ofNat c):=by
     generalize a.eval x=cx at hxv;unfold Zl at e1;split at e1<;>simp at e1<;>subst e1
     ·rename_i q;simp at q;subst q;cases hxv;grind
     ·rename_i q;simp at q;subst q;cases hxv with
      |ps hl ht hm hs hc=>grind
     ·rename_i q;simp at q;subst q;cases hxv with
      |slice hp hle hl hk ha=>grind
    obtain⟨ad,n,c,hq,rfl⟩:=key;refine fK (s:=Builtin.cap_ ts ty #[.slice ad n c]) (cv:=.int .i64 (Int.ofNat c)) (λcs=>by grind[builtin]) ?_ (.int _ _) hr (dK.refl _ _ _ _) (ar _);simp_all[Builtin.cap_,run_underlying,goInt]
  grind[ab]
 ·
  rename_i s x hargs;have hargs:=zA hargs;subst hargs;split at he
  ·rename_i e tx ht htx;obtain⟨t,ht0,ht1⟩:=bind_some ht;obtain⟨t2,ht2,ht3⟩:=bind_some htx;have key:∀i:TypeInfo,P.info? e=some i->((∃e',P.underlying t2=some (.slice e'))\/P.underlying t2=some .string)->
     (match i.size,iP P e with
      |sz+1,some z=>match Nat.beq z.cells.length (sz+1)with
       |true=>(⟨λA h=>fJ (dx (sz+1) i.bytes h ((cA G s).run A) ((cA G x).run A))⟩:ROp)
       |false=>dP
      |_,_=>dP).run A h=some (.val v h')->qr pl M h w ((execOp a.eval ⟨dst,.call ⟨.builtin .append,#[s,x],ts⟩,ty,pos,after,guard⟩).run P w) v h':=by
    intro i hi hk he;split at he
    ·rename_i sz z hsz hz;rw[aD]at he;split at he
     ·rename_i hzl;simp at hzl;obtain⟨p,e1,e2⟩:=lq he;simp at e2;obtain⟨rfl,rfl⟩:=e2;cases hs:(cA G s).run A with
      |none=>grind[dx]
      | some sv=>
       cases hx:(cA G x).run A with
       |none=>grind[dx]
       |some xv=>
        rw[hs,hx]at e1;simp only[dx]at e1;have hsz:i.size=sz+1:=hsz;rw[<-hsz]at e1 hzl;obtain⟨i2,zv,hz1,hz2,hz3⟩:=m6 hz;rw[hi]at hz1;simp at hz1;subst hz1;have hzc:=(dB (pl:=pl) (M:=M) hz3).cells.len;obtain⟨cv,w2,pl2,k1,k2,k3,k4,k5⟩:=Lf (P:=P) (ty:=ty) hr (jQ ht1) hi hz2 (by omega) (by omega) hk (bK hg hf hs) (bK hg hf hx) e1;refine fK (s:=Builtin.append_ ts ty #[a.eval s,a.eval x]) (λcs=>by simp[builtin]) (by grind[vN]) k2 k3 k4 k5
     grind[ab]
    grind[ab]
   cases hi:P.info? e with
   |none=>rw[hi]at he;cases tx<;>first|exact(ab he).elim |grind[ab]
   | some i=>
    rw[hi]at he;cases tx<;>try exact(ab he).elim
    case int kd=>
     cases kd<;>try exact(ab he).elim
     simp only[]at he;split at he
     ·rename_i sz z hsz hz;rw[aD]at he;split at he
      ·rename_i hzl;simp at hzl;obtain⟨p,e1,e2⟩:=lq he;simp at e2;obtain⟨rfl,rfl⟩:=e2;cases hs:(cA G s).run A with
       |none=>grind[Dn]
       | some sv=>
        cases hx:(cA G x).run A with
        |none=>grind[Dn]
        | some xv=>
         rw[hs,hx]at e1;have hxr:=bK hg hf hx;have hsr:=bK hg hf hs;unfold Dn at e1;split at e1
         ·rename_i s0 k0 q1 q2;cases q1;cases q2
          have hsz:i.size=sz+1:=hsz;rw[<-hsz]at e1;obtain⟨i2,zv,hz1,hz2,hz3⟩:=m6 hz;rw[hi]at hz1;simp at hz1;subst hz1;generalize hq:a.eval x=cx at hxr;cases hxr
          obtain⟨cv,w2,pl2,k1,k2,k3,k4,k5⟩:=RI (P:=P) (ty:=ty) hr (jQ ht1) ht3 hi hz2 hz3 hsr e1;refine fK (s:=Builtin.append_ ts ty #[a.eval s,a.eval x]) (λcs=>by simp[builtin]) (by grind[vN]) k2 k3 k4 k5
         ·grind
      grind[ab]
     grind[ab]
    all_goals grind
  grind[ab]
 ·
  rename_i d s hargs;have hargs:=zA hargs;subst hargs;split at he
  ·rename_i e ht;obtain⟨t,ht0,ht1⟩:=bind_some ht;split at he
   ·rename_i n hsz;obtain⟨p,e1,e2⟩:=lq he;simp at e2;obtain⟨rfl,rfl⟩:=e2;cases hd:(cA G d).run A with
    |none=>grind[vu]
    | some dv=>
     cases hs:(cA G s).run A with
     |none=>grind[vu]
     |some sv=>
      rw[hd,hs]at e1;obtain⟨cv,w2,k1,k2,k3,k4,k5⟩:=Tb (P:=P) (ty:=ty) hr (jQ ht1) hsz (bK hg hf hd) (bK hg hf hs) e1 ht0;exact fK (s:=Builtin.copy_ ts ty #[a.eval d,a.eval s]) (λcs=>by simp[builtin]) k1 k2 k3 k4 k5
   grind[ab]
  grind[ab]
 ·
  rename_i x hargs;have hargs:=tY hargs;subst hargs;split at he
  ·rename_i e ht;obtain⟨t,ht0,ht1⟩:=bind_some ht;split at he
   ·rename_i n z hsz hz;obtain⟨p,e1,e2⟩:=lq he;simp at e2;obtain⟨rfl,rfl⟩:=e2;cases hx:(cA G x).run A with
    |none=>grind[wS]
    |some xv=>
     rw[hx]at e1;obtain⟨cv,w2,k1,k2,k3,k4,k5⟩:=PH (P:=P) (ty:=ty) hr (jQ ht1) hz (bK hg hf hx) e1 ht0;exact fK (s:=Builtin.clear_ ts ty #[a.eval x]) (λcs=>by simp[builtin]) k1 k2 k3 k4 k5
   grind[ab]
  grind[ab]
 ·
  simp only[]at he;split at he
  ·rename_i l hl;obtain⟨u,e1,e2⟩:=bF he;simp at e2;obtain⟨rfl,rfl⟩:=e2;have hvs:=rT hg hf _ _ hl;unfold Vc at e1;split at e1
   ·rename_i k a0 r;cases hargs:args.toList with
    |nil=>grind[cases VRels]
    | cons x xs=>
     rw[hargs]at hvs;have h0:=hvs.at_ 0 _ rfl;simp[Array.getD]at h0;generalize hq:a.eval x=cx at h0;cases h0
     obtain⟨rr,h1,h2⟩:=E8 (P:=P) false r a0 (xs.map a.eval) ⟨by grind[cases VRels],λj y hj=>by
      have:=hvs.at_ (j+1) y (by simp_all);simpa[iZ]using this⟩ e1
     subst h1;have hm:(args.map a.eval).toList =.int k a0::xs.map a.eval:=by simp_all
     refine fK (s:=Builtin.min_ ts ty (args.map a.eval)) (cv:=.int k rr) (λcs=>rfl) ?_ (.int _ _) hr (dK.refl _ _ _ _) (ar _);simp only[Builtin.min_,hm];exact h2 w
   simp_all
  simp_all
 ·
  simp only[]at he;split at he
  ·rename_i l hl;obtain⟨u,e1,e2⟩:=bF he;simp at e2;obtain⟨rfl,rfl⟩:=e2;have hvs:=rT hg hf _ _ hl;unfold Vc at e1;split at e1
   ·rename_i k a0 r;cases hargs:args.toList with
    |nil=>grind[cases VRels]
    | cons x xs=>
     rw[hargs]at hvs;have h0:=hvs.at_ 0 _ rfl;simp[Array.getD]at h0;generalize hq:a.eval x=cx at h0;cases h0
     obtain⟨rr,h1,h2⟩:=E8 (P:=P) true r a0 (xs.map a.eval) ⟨by grind[cases VRels],λj y hj=>by
      have:=hvs.at_ (j+1) y (by simp_all);simpa[iZ]using this⟩ e1
     subst h1;have hm:(args.map a.eval).toList =.int k a0::xs.map a.eval:=by simp_all
     refine fK (s:=Builtin.max_ ts ty (args.map a.eval)) (cv:=.int k rr) (λcs=>rfl) ?_ (.int _ _) hr (dK.refl _ _ _ _) (ar _);simp only[Builtin.max_,hm];exact h2 w
   simp_all
  simp_all
 grind[ab]
end
section
variable{P:Program}{G:fz}{pl:Pl}{M:dN}{h h':AHeap}{w w':World}{v:AV}{A:Fr}{a:Act}
theorem qk(em:Bool){vx:Array Value}:∀(n:Nat)(t:TypeId)(off:Nat)(ls:List (Nat×Nat))(cx:Value)(d sz:Nat)(w:World),
  eW P n t off=some ls->dV P t=some sz->off+sz<=vx.size->rC P t vx off cx->(Instr.checkKey em (d+n) t cx).run P w=.ok () w
 |0,_,_,_,_,_,_,_,e,_,_,_=>by grind[eW]
 | n+1,t,off,ls,cx,d,sz,w,e,hsz,hlx,hcx=>by
  rcases gc e with⟨fs,sz',hu,hs',hst,hl⟩|⟨dd,k,hu,hs1,hk,rfl⟩
  ·rw [hsz]at hs';simp at hs';subst hs';simp only[rC,iy hu,hsz,zg]at hcx;obtain⟨ex,rfl,hex⟩:=hcx;rw[show d+(n+1)=(d+n)+1 by omega,Instr.checkKey];simp only[Sem.run_bind,run_underlying hu,Result.andThen_ok];rw[<-Array.forIn_toList];generalize fs.toList=fl at hl;clear hu e;induction fl generalizing ls with
   |nil=>simp
   | cons f r ih=>
    obtain⟨hname,s,a1,b1,g1,g2,g3,g4,rfl⟩:=pA hl;have hag:∃ag,dW P f.type=some ag/\(ag=false->s=1):=by
     cases n with
     |zero=>grind[eW]
     |succ n=>
      rcases gc g2 with⟨fs2,sz2,k1,k2,k3,k4⟩|⟨d2,k2,k3,k4,k5,k6⟩
      all_goals simp_all[iy,oO]
    obtain⟨ag,q1,q2⟩:=hag;obtain⟨cvx,r1,r2⟩:=td (P:=P) (vx:=vx) q1 g1 q2 g4 hex (λk hk=>by grind) w;simp only[List.forIn_cons,Sem.run_bind,hname,ne_eq,not_false_eq_true,if_true,Result.andThen_ok,r1,qk em n f.type (off+f.offset) a1 cvx d s w g2 g1 (by omega) r2,Sem.run_pure];simp_all
  ·rw[show d+(n+1)=(d+n)+1 by omega,Instr.checkKey];simp only[Sem.run_bind,run_underlying hu,Result.andThen_ok];rcases fR hk with⟨rfl,_⟩|⟨i,rfl,_⟩|⟨rfl,_⟩<;>simp
theorem mB{n:Nat}{t:TypeId}{ag:Bool}{ls:List (Nat×Nat)}(ha:dW P t=some ag)(e:eW P n t 0=some ls):
  (ag=true/\∃fs,P.underlying t=some (.struct fs))\/(ag=false/\∃d k,P.underlying t=some d/\dV P t=some 1/\qM d=some k/\ls=[(0,k)]):=by
 cases n with
 |zero=>grind[eW]
 |succ n=>grind[gc,iy,oO]
structure KeyT(P:Program)(kt:TypeId)(ag:Bool)(sz:Nat)(lv:List (Nat×Nat)):Prop where
 ag:dW P kt=some ag
 sz:dV P kt=some sz
 lv:eW P 10 kt 0=some lv
theorem pD{kt:TypeId}{ag:Bool}{sz:Nat}{lv:List (Nat×Nat)}(hk:KeyT P kt ag sz lv){k:AV}{ck:Value}(hr:VRel pl M k ck)(e:Hm ag sz k=true)(em:Bool)(w:World):
  (Instr.checkKey em 10000 kt ck).run P w=.ok () w:=by
 rcases mB hk.ag hk.lv with⟨rfl,fs,hu⟩|⟨rfl,d,t,hu,h1,h2,h3⟩
 ·cases k<;>simp[Hm,aD]at e
  cases hr with
  |agg h1 h2 h3=>exact qk em 10 kt 0 lv _ 9990 sz w hk.lv hk.sz (by omega) (mK hu)
 ·rw[show(10000:Nat)=9999+1 from rfl,Instr.checkKey];simp only[Sem.run_bind,run_underlying hu,Result.andThen_ok];rcases fR h2 with⟨rfl,_⟩|⟨i,rfl,_⟩|⟨rfl,_⟩<;>simp
theorem A4{ag:Bool}{sz:Nat}{lv:List (Nat×Nat)}{x y:AV}{b:Bool}(e:rx ag sz lv x y=some b):
  (∃as bs,ag=true/\x=.agg as/\y=.agg bs/\as.length=sz/\bs.length=sz/\yg as bs lv=some b)\/(∃o t,ag=false/\lv=[(o,t)]/\K5 t x y=some b):=by
 unfold rx at e;split at e
 ·rename_i as bs;rw[aD,aD]at e;grind
 all_goals grind
theorem Hn{kt:TypeId}{ag:Bool}{sz:Nat}{lv:List (Nat×Nat)}(hk:KeyT P kt ag sz lv){x y:AV}{cx cy:Value}(hx:VRel pl M x cx)(hy:VRel pl M y cy){b:Bool}(e:rx ag sz lv x y=some b)(w:World):
  (Op.equal kt cx cy).run P w=.ok b w:=by
 rcases A4 e with⟨as,bs,rfl,rfl,rfl,h1,h2,h3⟩|⟨o,t,rfl,rfl,h3⟩
 ·rcases mB hk.ag hk.lv with⟨_,fs,hu⟩|⟨h,_⟩
  ·cases hx with
   |agg a1 a2 a3=>
    cases hy with
    |agg b1 b2 b3=>exact Fa (P:=P) (pl:=pl) (M:=M) ⟨a1,a3⟩ ⟨b1,b3⟩ 10 kt 0 lv _ _ b 9990 sz w hk.lv hk.sz (by omega) (by omega) (mK hu) (mK hu) h3
  ·grind
 ·rcases mB hk.ag hk.lv with⟨h,_⟩|⟨_,d,k,hu,g1,g2,g3⟩
  ·grind
  ·simp at g3;obtain⟨_,rfl⟩:=g3;exact S4 hx hy h3 hu g2 9999 w
theorem Ez(x y:lar):((⟨⟨x⟩⟩:ByteArray)==⟨⟨y⟩⟩)=(x==y):=by
 show((⟨x⟩:Array UInt8)==⟨y⟩)=_
 simp_all
theorem JL{d:TypeDesc}{t:Nat}(hd:qM d=some t){x y:AV}{cx cy:Value}(hx:VRel pl M x cx)(hy:VRel pl M y cy){b:Bool}(e:K5 t x y=some b):Instr.sameNow d cx cy=some b:=by
 unfold K5 at e;split at e
 ·rw[lI]at e;split at e
  ·rename_i hj;simp at hj e;subst hj;cases hx;cases hy
   rcases fR hd with⟨_,h0⟩|⟨i,rfl,_⟩|⟨_,h0⟩
   all_goals grind[Instr.sameNow,pL]
  simp_all
 ·simp at e;cases hx;cases hy
  rcases fR hd with⟨_,h0⟩|⟨i,rfl,h0⟩|⟨rfl,_⟩
  all_goals grind[Instr.sameNow,ri,Ez]
 ·simp at e;cases hx;cases hy
  rcases fR hd with⟨rfl,_⟩|⟨i,rfl,h0⟩|⟨_,h0⟩
  all_goals grind[Instr.sameNow]
 simp_all
structure EntsRel(pl:Pl)(M:dN)(es:laq)(ents:List MapEntry):Prop where
 len:es.length=ents.length
 at_:∀(i:Nat)(e:AEnt),es[i]?=some e->∃e':MapEntry,ents[i]?=some e'/\VRel pl M e.key e'.key/\VRel pl M e.val e'.val/\e'.born=e.born
theorem EntsRel.tail{e:AEnt}{es:laq}{c:MapEntry}{cs:List MapEntry}(h:EntsRel pl M (e::es) (c::cs)):EntsRel pl M es cs:=⟨by grind[cases EntsRel],λi e he=>h.at_ (i+1) e (by simp_all)⟩
theorem EntsRel.head{e:AEnt}{es:laq}{c:MapEntry}{cs:List MapEntry}(h:EntsRel pl M (e::es) (c::cs)):VRel pl M e.key c.key/\VRel pl M e.val c.val:=by
 obtain⟨e',h1,h2,h3,_⟩:=h.at_ 0 e rfl;simp_all
def CU(pl:Pl)(M:dN)(es:laq)(i0:Nat):Option (Nat×AEnt)->Option (Nat×Value)->Prop
 |none,none=>True
 |some (i,e),some (j,cv)=>i=j/\i0<=i/\es[i-i0]?=some e/\VRel pl M e.val cv
 |_,_=>False
theorem CU.cons{e:AEnt}{es:laq}{i:Nat}{r:Option (Nat×AEnt)}{cr:Option (Nat×Value)}(h:CU pl M es (i+1) r cr):CU pl M (e::es) i r cr:=by
 rcases r with _|⟨q,en⟩<;>rcases cr with _|⟨j,cv⟩<;>simp only[CU]at h ⊢
 grind
theorem va{ag:Bool}{sz:Nat}{lv:List (Nat×Nat)}{k:AV}{e:AEnt}{es:laq}{i:Nat}{r:Option (Nat×AEnt)}(h:bf ag sz lv k (e::es) i=some r):
  (rx ag sz lv k e.key=some true/\r=some (i,e))\/(rx ag sz lv k e.key=some false/\bf ag sz lv k es (i+1)=some r):=by
 simp only[bf]at h;cases hq:rx ag sz lv k e.key with
 |none=>grind[nl]
 | some b => cases b<;>simp[hq,nl]at h
             all_goals simp_all
theorem s5{kt:TypeId}{ag:Bool}{sz:Nat}{lv:List (Nat×Nat)}(hk:KeyT P kt ag sz lv){k:AV}{ck:Value}(hck:VRel pl M k ck)(w:World):
  ∀(es:laq)(ents:List MapEntry)(i:Nat)(r:Option (Nat×AEnt)),EntsRel pl M es ents->bf ag sz lv k es i=some r->∃cr,(Instr.findAsking kt ck ents i).run P w=.ok cr w/\CU pl M es i r cr
 |[],ents,i,r,he,h=>by
  have:ents=[]:=sB (by have:=he.len;simp_all);subst this;simp[bf]at h;subst h;exact⟨none,rfl,trivial⟩
 |e::es,[],i,r,he,h=>by have:=he.len;simp_all
 |e::es,c::cs,i,r,he,h=>by
  obtain⟨h1,h2⟩:=he.head;rcases va h with⟨k1,rfl⟩|⟨k1,k2⟩
  ·refine⟨some (i,c.val),?_,rfl,ar _,by simp,h2⟩;simp[Instr.findAsking,Hn hk hck h1 k1]
  ·obtain⟨cr,g1,g2⟩:=s5 hk hck w es cs (i+1) r he.tail k2;refine⟨cr,?_,g2.cons⟩;simp[Instr.findAsking,Hn hk hck h1 k1,g1]
theorem Bw{ag:Bool}{sz:Nat}{d:TypeDesc}{o t:Nat}(hd:qM d=some t){k:AV}{ck:Value}(hck:VRel pl M k ck)(hag:ag=false):
  ∀(es:laq)(ents:List MapEntry)(i:Nat)(r:Option (Nat×AEnt)),EntsRel pl M es ents->bf ag sz [(o,t)] k es i=some r->∃cr,Instr.findNow d ck ents i=some cr/\CU pl M es i r cr
 |[],ents,i,r,he,h=>by
  have:ents=[]:=sB (by have:=he.len;simpa using this.symm);subst this;simp[bf]at h;subst h;exact⟨none,rfl,trivial⟩
 |e::es,[],i,r,he,h=>by have:=he.len;simp at this
 | e::es,c::cs,i,r,he,h=>by
  obtain⟨h1,h2⟩:=he.head;have key:∀b,rx ag sz [(o,t)] k e.key=some b->Instr.sameNow d ck c.key=some b:=by
   intro b hb;rcases A4 hb with⟨as,bs,h0,_⟩|⟨o2,t2,_,h3,h4⟩
   ·rw[hag]at h0;cases h0
   ·simp at h3;obtain⟨_,rfl⟩:=h3;exact JL hd hck h1 h4
  rcases va h with⟨k1,rfl⟩|⟨k1,k2⟩
  ·refine⟨some (i,c.val),?_,rfl,ar _,by simp,h2⟩;simp[Instr.findNow,key _ k1]
  ·obtain⟨cr,g1,g2⟩:=Bw hd hck hag es cs (i+1) r he.tail k2;refine⟨cr,?_,g2.cons⟩;simp[Instr.findNow,key _ k1,g1]
theorem j6{kt:TypeId}{ag:Bool}{sz:Nat}{lv:List (Nat×Nat)}(hk:KeyT P kt ag sz lv){k:AV}{ck:Value}(hck:VRel pl M k ck)(w:World){es:laq}{ents:List MapEntry}{r:Option (Nat×AEnt)}
  (he:EntsRel pl M es ents)(h:bf ag sz lv k es 0=some r):∃cr,(Instr.findKey kt ck ents).run P w=.ok cr w/\CU pl M es 0 r cr:=by
 rcases mB hk.ag hk.lv with⟨rfl,fs,hu⟩|⟨rfl,d,t,hu,h1,h2,h3⟩
 ·cases ents with
  |nil=>
   have:es=[]:=sB (by have:=he.len;omega);subst this;simp[bf]at h;subst h;exact⟨none,by simp[Instr.findKey,run_underlying hu,Instr.findNow],trivial⟩
  |cons c cs=>
   obtain⟨cr,g1,g2⟩:=s5 hk hck w es (c::cs) 0 r he h;simp_all[Instr.findKey,run_underlying,Instr.findNow,Instr.sameNow]
 ·subst h3;obtain⟨cr,g1,g2⟩:=Bw h2 hck rfl es ents 0 r he h;simp_all[Instr.findKey,run_underlying]
theorem wX{ok b:Bool}{z:AV}{v:AV}{cz:Value}(h:oV ok (some z) b=some v)(hz:VRel pl M z cz):VRel pl M v (if ok then .tuple #[cz,.bool b]else cz):=by
 cases ok<;>simp[oV]at h<;>subst h
 ·grind
 ·refine .tuple rfl λj y hj=>?_
  match j,hj with
  |0,hj=>simp_all
  |1,hj=>simp at hj;subst hj;exact .bool _
theorem O2 (t:TypeId)(m k:Operand)(ok:Bool):jJ P G (.lookup t m k ok):=by
 intro pl M A h v h' a w dst ty pos after guard hg hr hf he;simp only[fc]at he;split at he
 ·rename_i kt e hu;split at he
  ·rename_i ag sz lv h1 h2 h3;have hk:KeyT P kt ag sz lv:=⟨h1,h2,h3⟩
   obtain⟨u,e1,e2⟩:=bF he;simp at e2;obtain⟨rfl,rfl⟩:=e2;cases hm:(cA G m).run A with
   |none=>grind[u9]
   | some mv=>
    cases hkk:(cA G k).run A with
    |none=>grind[u9]
    | some kv=>
     have hmv:=bK hg hf hm;have hkv:=bK hg hf hkk;rw[hm,hkk]at e1;have zero:∀z,oV ok z false=some v->∃zv,z=some zv/\oV ok (some zv) false=some v:=by
      intro z hz;cases z with
      |none=>grind[oV]
      |some zv=>simp_all
     cases mv<;>simp only[u9]at e1<;>(try(exact absurd e1 (by simp)))
     ·
      split at e1
      ·rename_i hkr;obtain⟨zv,hz1,hz2⟩:=zero _ e1;obtain⟨cz,hz3,hz4⟩:=lG hz1;generalize hq:a.eval m=cm at hmv;cases hmv
       have hc:=λem w=>pD (P:=P) hk hkv hkr em w
       have hfk:∀w,(Instr.findKey kt (a.eval k) []).run P w=.ok none w:=by
        intro w;obtain⟨cr,g1,g2⟩:=j6 (P:=P) (pl:=pl) (M:=M) hk hkv w (es:=[]) (ents:=[]) (r:=none) ⟨rfl,λi e h=>by simp_all⟩ rfl;cases cr with
        |none=>omega
        |some _=>exact g2.elim
       have hrun:(Instr.lookup t (.map none) (a.eval k) ok).run P w=.ok (if ok then .tuple #[cz,.bool false]else cz) w:=by simp_all[Instr.lookup,run_underlying]
       simpa[execOp,hq,hrun]using qr.pure hr (wX hz2 (dB hz4))
      simp_all
     ·
      rename_i id;split at e1
      ·rename_i hkr;split at e1
       ·rename_i es clock hgo;generalize hq:a.eval m=cm at hmv;cases hmv with
        | map hp ha=>
         rename_i r p;have ho:=hr.obj id p _ hp hgo;cases hb:w.heap[p.blk]? with
         |none=>grind[bm]
         | some ob=>
          rw[hb]at ho;cases ob<;>simp only[bm]at ho
          rename_i entries clock';obtain⟨g1,g2,g3,g4⟩:=ho;have hrb:=ha g1;subst hrb;have hgm:(getObj p.blk).run P w=.ok (.map entries clock') w:=by grind[getObj,Sem.run]
          have hents:EntsRel pl M es entries.toList:=⟨by omega,λi e hi=>by simp_all⟩
          have hc:=λem w=>pD (P:=P) hk hkv hkr em w
          unfold fW at e1;split at e1
          ·rename_i i en hfe;obtain⟨cr,q1,q2⟩:=j6 (P:=P) hk hkv w hents hfe;cases cr with
           |none=>exact q2.elim
           |some cr=>
            obtain⟨j,cv⟩:=cr;obtain⟨_,_,_,q3⟩:=q2;have hrun:(Instr.lookup t (.map (some p.blk)) (a.eval k) ok).run P w=.ok (if ok then .tuple #[cv,.bool true]else cv) w:=by simp[Instr.lookup,run_underlying hu,hgm,hc,q1]
            simpa[execOp,hq,hrun]using qr.pure hr (wX e1 q3)
          ·rename_i hfe;obtain⟨zv,hz1,hz2⟩:=zero _ e1;obtain⟨cz,hz3,hz4⟩:=lG hz1;obtain⟨cr,q1,q2⟩:=j6 (P:=P) hk hkv w hents hfe;cases cr with
           |some _=>exact q2.elim
           |none=>
            have hrun:(Instr.lookup t (.map (some p.blk)) (a.eval k) ok).run P w=.ok (if ok then .tuple #[cz,.bool false]else cz) w:=by simp[Instr.lookup,run_underlying hu,hgm,hc,q1,hz3]
            simpa[execOp,hq,hrun]using qr.pure hr (wX hz2 (dB hz4))
          simp_all
       simp_all
      simp_all
  grind[ab]
 grind[ab]
end
end Go.Ev
