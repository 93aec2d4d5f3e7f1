/- An abstract machine for runs of the program, proved sound against the model: part 2. No conditions. -/
import Derived.Test.YtdhkhecalpkngaaGreatDoorMach1
import Derived.Laws.StructEq
import Derived.WalkLawsBesides
import Derived.WalkSpells
import Derived.IntWalk
import Derived.Laws.BytesString
import Derived.Lib.ConvBytes
import Derived.Lib.AppendZerosOnto
import Derived.MapKept
namespace Go.Ev
open Go
section
variable{P:Program}{G:fy}{pl:Pl}{M:dT}{h h':AHeap}{w w':World}{v:AV}{A:Fr}{a:Act}
theorem jY{k:IntKind}{n y:Nat}(hn:n<=y)(code:BoundsCode)(w:World):(Instr.sliceBound (.int k (n:Int)) y code).run P w=.ok n w:=by simp[Instr.sliceBound,asIntOf,hn]
def Cd(pl:Pl)(M:dT)(x:Option AV)(c:Option Value):Prop:=
 match x,c with
 |none,none=>True
 |some x,some c=>VRel pl M x c
 |_,_=>False
theorem oM{x:Option Operand}{k:Option AV->Option AV}{r:AV}(hg:qr G pl M)(hf:FrRel pl M A a)(e:rk G x A k=some r):
  ∃o,k o=some r/\Cd pl M o (x.map a.eval):=by
 cases x with
 |none=>exact⟨none,e,trivial⟩
 |some x=>
  simp only[rk]at e;cases h1:(cE G x).run A with
  |none=>simp_all
  |some v=>rw[h1]at e;exact⟨some v,e,bq hg hf h1⟩
theorem nD{d n:Nat}{x:Option AV}{c:Option Value}(hx:Cd pl M x c)(e:jt d x=some n):(x=none/\c=none/\n=d)\/(∃k,c=some (.int k (n:Int))/\x≠none):=by
 cases x with
 |none=>
  cases c with
  |none=>grind[jt]
  |some c=>exact hx.elim
 | some x=>
  cases c with
  |none=>exact hx.elim
  |some c=>
   obtain⟨k,rfl⟩:=io hx e;simp_all
theorem oX{isSlice:Bool}{len cap l u:Nat}{clo chi:Option Value}(hl:(clo=none/\l=0)\/∃k,clo=some (.int k (l:Int)))(hu:(chi=none/\u=len)\/∃k,chi=some (.int k (u:Int)))
  (h1:l<=u)(h2:u<=cap)(w:World):(Instr.sliceBounds isSlice len cap clo chi none).run P w=.ok (l,u,cap) w:=by
 rcases hl with⟨rfl,rfl⟩|⟨k,rfl⟩<;>rcases hu with⟨rfl,rfl⟩|⟨k',rfl⟩<;>simp[Instr.sliceBounds,jY h2,jY h1]
theorem rW{isSlice:Bool}{len cap l u m:Nat}{clo:Option Value}{k1 k2:IntKind}(hl:(clo=none/\l=0)\/∃k,clo=some (.int k (l:Int)))
  (h1:l<=u)(h2:u<=m)(h3:m<=cap)(w:World):(Instr.sliceBounds isSlice len cap clo (some (.int k1 (u:Int))) (some (.int k2 (m:Int)))).run P w=.ok (l,u,m) w:=by
 rcases hl with⟨rfl,rfl⟩|⟨k,rfl⟩<;>simp[Instr.sliceBounds,jY h2,jY h1,jY h3]
theorem kK{t e:TypeId}{s:Nat}(ht:P.underlying t=some (.slice e))(hs:dZ P e=some s){ad:Option Addr}{len cap l u m:Nat}{clo chi cmx:Option Value}
  (hb:(Instr.sliceBounds true len cap clo chi cmx).run P w=.ok (l,u,m) w):
  (Instr.sliceAt t (.slice ad len cap) clo chi cmx).run P w=.ok (.slice (if m=l then ad else ad.map (·.add (l*s))) (u-l) (m-l)) w:=by
 simp_all[Instr.sliceAt,run_underlying,Instr.slice,cR]
theorem Eh{t:TypeId}(ht:P.underlying t=some .string){s:List UInt8}{l u:Nat}{clo chi:Option Value}
  (hb:(Instr.sliceBounds false s.length s.length clo chi none).run P w=.ok (l,u,s.length) w)(hlu:l<=u)(hus:u<=s.length):
  (Instr.sliceAt t (.string ⟨⟨s⟩⟩) clo chi none).run P w=.ok (.string ⟨⟨(s.take u).drop l⟩⟩) w:=by
 have hsz:(⟨⟨s⟩⟩:ByteArray).size=s.length:=rfl;have he:(⟨⟨s⟩⟩:ByteArray).extract l u=⟨⟨(s.take u).drop l⟩⟩:=by
  apply ByteArray.ext;simp_all[List.drop_take]
 simp_all[Instr.sliceAt,run_underlying,Instr.slice]
theorem uq{id ep off l u m:Nat}{cap:Option Nat}{v:AV}(e:qo id ep off l u m cap=some v):l<=u/\u<=m/\
  ((∃c,cap=some c/\c=l/\v=.slice id ep 0 0 (some 0))\/(∃c,cap=some c/\c≠l/\v=.slice id ep (off+l) (u-l) (some (c-l)))\/(cap=none/\v=.slice id ep (off+l) (u-l) none)):=by
 unfold qo at e;grind[ba,aB]
theorem SM{id ep off len cap' l u m:Nat}{cap capN:Option Nat}{sz:Nat}{xs:List AV}{p:Place}{ad:Addr}{v:AV}(hp:pl id=some p)(hep:p.ep=ep)(hsz:p.sz=sz)(hn:p.n=xs.length)
  (hcap:∀k,cap=some k->cap'=k)(had:cap'=0\/ad=⟨p.blk,off*sz,none⟩)(htot:(off+cap')*sz<=p.tot)(hnone:cap=none->xs.length<=off+cap')(hsome:∀k,cap=some k->off+k<=xs.length)
  (hroom:u<=room xs.length off cap)(hlu:l<=u)(hum:u<=m)(hmc:m<=cap')(hoff:off+len<=xs.length)
  (hcN:(capN=none/\cap=none/\m=cap')\/(∃c,capN=some c/\m=c/\c<=room xs.length off cap))(e:qo id ep off l u m capN=some v):
  VRel pl M v (.slice (if m=l then some ad else(some ad).map (·.add (l*sz))) (u-l) (m-l)):=by
 have hroomN:room xs.length off cap+off<=xs.length\/(room xs.length off cap=0/\xs.length<off):=by
  cases cap with
  |none=>grind[room]
  |some c=>grind[room]
 obtain⟨_,_,hh⟩:=uq e;have haddr:∃ad',(if m=l then some ad else(some ad).map (·.add (l*sz)))=some ad'/\(m-l=0\/ad'=⟨p.blk,(off+l)*sz,none⟩):=by grind[Addr.add_lit,Nat.add_mul]
 obtain⟨ad',h1,h2⟩:=haddr;rw[h1];have htot2:(off+l+(m-l))*p.sz<=p.tot:=by
  rw[hsz];refine bu (fV _ ?_) htot;omega
 rcases hh with⟨c,hc,hcl,rfl⟩|⟨c,hc,hcl,rfl⟩|⟨hc,rfl⟩
 ·rcases hcN with⟨h9,_⟩|⟨c2,h9,h10,_⟩
  ·grind
  ·rw[h9]at hc;simp at hc;have hm0:m-l=0:=by omega
   have hu0:u-l=0:=by omega
   rw[hm0,hu0];exact .slice hp (by omega) (af _) (fun k hk=>by simp_all) fun _=>⟨.inl rfl,by simp,by simp,(fun hk=>by grind),(fun k hk=>by grind)⟩
 ·rcases hcN with⟨h9,_⟩|⟨c2,h9,h10,h11⟩
  ·grind
  ·rw[h9]at hc;simp at hc;refine .slice hp (by omega) (by omega) (fun k hk=>by simp_all) fun _=>⟨by simp_all,htot2,by omega,(fun hk=>by grind),(fun k hk=>by grind)⟩
 ·rcases hcN with⟨_,h9,h10⟩|⟨c2,h9,_⟩
  ·refine .slice hp (by omega) (by omega) (fun k hk=>by grind) fun _=>⟨by simp_all,htot2,by omega,fun _=>by grind,fun k hk=>by grind⟩
  grind
theorem Bl{xs:List AV}{l u:Nat}{tight:Bool}{v:AV}(e:vo xs l u tight=some v):l<=u/\u<=xs.length/\v=.ps ((xs.take u).drop l) tight:=by grind[vo,ba]
theorem Ip{xs:List AV}{tight tN:Bool}{cx:Value}{s l u m:Nat}(hx:VRel pl M (.ps xs tight) cx)(hsz:pM s xs=true)(hlu:l<=u)(hux:u<=xs.length):
  ∃ad cap,cx=.slice (some ad) xs.length cap/\xs.length<=cap/\(tight=true->cap=xs.length)/\(u<=m->m<=cap->(tN=true->m=u)->
   VRel pl M (.ps ((xs.take u).drop l) tN) (.slice (if m=l then some ad else(some ad).map (·.add (l*s))) (u-l) (m-l))):=by
 cases hx with
 | ps hl ht hm hs hc=>
  rename_i ad cap sz c;refine⟨ad,cap,rfl,hl,ht,fun hum hmc htN=>?_⟩;have hlen:((xs.take u).drop l).length=u-l:=by simp_all
  have hget:∀(i:Nat)(x:AV),((xs.take u).drop l)[i]?=some x->xs[l+i]?=some x:=by grind
  have hmem:∀x,x∈(xs.take u).drop l->x∈xs:=fun x hx=>ue (Pn hx)
  rw[<-hlen];by_cases hml:m=l
  ·have hnil:(xs.take u).drop l=[]:=qk (by omega);rw[hnil];simp only[hml,if_true];exact .ps (c:=c) (sz:=sz) (by simp) (fun _=>by simp) (fun hh=>absurd rfl hh) (fun x hx=>by grind) (fun i x j y hi=>by simp_all)
  ·simp only[hml,if_false,Option.map_some];by_cases hnil:(xs.take u).drop l=[]
   ·rw[hnil]at hlen ⊢;simp at hlen;refine .ps (c:=c) (sz:=sz) (by simp) (fun htt=>?_) (fun hh=>absurd rfl hh) (fun x hx=>by grind) (fun i x j y hi=>by grind);grind
   ·have hne:xs≠[]:=by grind
    obtain⟨hspot,hM,hfit,h0⟩:=hm hne;have hsz2:sz=s:=by
     cases xs with
     |nil=>simp_all
     |cons x r=>simp_all[pM]
    subst hsz2;have had:ad=⟨ad.block,ad.off,none⟩:=by cases ad;simp_all
    have hadd:ad.add (l*sz)=⟨ad.block,ad.off+l*sz,none⟩:=by grind[Addr.add_lit]
    rw[hadd];refine .ps (c:=c) (sz:=sz) (by omega) (fun htt=>by grind) (fun _=>⟨rfl,hM,?_,h0⟩) (fun x hx=>hs x (hmem x hx)) (fun i x j y hi hj=>?_)
    ·have:=fV sz hux;have e2:(l+(u-l))*sz=u*sz:=by grind
     grind
    grind
theorem ta(hr:cN pl M h w){s:Nat}{x v:AV}{cx:Value}{lo hi mx:Option AV}{clo chi cmx:Option Value}(hx:VRel pl M x cx)(hlo:Cd pl M lo clo)(hhi:Cd pl M hi chi)(hmx:Cd pl M mx cmx)
  {t e:TypeId}(ht:P.underlying t=some (.slice e))(hs:dZ P e=some s)(he:gp s h (some x) lo hi mx=some v):∃cv,(Instr.sliceAt t cx clo chi cmx).run P w=.ok cv w/\VRel pl M v cv:=by
 unfold gp at he;split at he
 ·rename_i id ep off len cap e0;simp at e0;subst e0;split at he
  ·rename_i xs hrow;obtain⟨op,hg⟩:=zP hrow;obtain⟨p,c,t',ad,cap',q1,rfl,q3,q4,q5,q6,q7,q8,q9,q10,q11,q12,q13,q14,q15,q16,q17⟩:=ny hr hx hg;have hroomcap:room xs.length off cap<=cap':=by
    cases cap with
    |none=>grind[room]
    |some k=>grind[room]
   have hroomlen:len<=room xs.length off cap:=by
    cases cap with
    |none=>grind[room]
    |some k=>grind[room]
   split at he
   ·rename_i l hnl;have hcl:(clo=none/\l=0)\/∃k,clo=some (.int k (l:Int)):=by grind[nD]
    split at he
    ·rename_i hi';cases cmx with
     |some c=>exact hmx.elim
     | none=>
      split at he
      ·rename_i u hnu;have hcu:(chi=none/\u=len)\/∃k,chi=some (.int k (u:Int)):=by grind[nD]
       obtain⟨b1,b2,_⟩:=uq he;refine⟨_,kK ht hs (oX hcl hcu b1 (bu b2 hroomcap) w),?_⟩;have he2:qo id ep off l u cap' cap=some v:=by grind[qo,ba]
       refine SM (cap:=cap) q1 q4 q5 q6 q12 q13 (by omega) q16 q17 b2 b1 (bu b2 hroomcap) (af _) q15 ?_ he2;cases cap with
       |none=>simp_all
       |some k=>exact .inr ⟨k,rfl,q12 k rfl,af _⟩
      simp_all
    ·rename_i m hi';cases cmx with
     |none=>exact hmx.elim
     | some cm=>
      cases chi with
      |none=>exact hhi.elim
      | some cu=>
       split at he
       ·rename_i m' u hnm hnu;obtain⟨k1,rfl⟩:=io hmx hnm;obtain⟨k2,rfl⟩:=io hhi hnu;rw[ba]at he;by_cases hmr:m'<=room xs.length off cap
        ·simp[hmr]at he;obtain⟨b1,b2,_⟩:=uq he;refine⟨_,kK ht hs (rW hcl b1 b2 (bu hmr hroomcap) w),?_⟩;exact SM (cap:=cap) q1 q4 q5 q6 q12 q13 (by omega) q16 q17 (bu b2 hmr) b1 b2 (bu hmr hroomcap) q15 (.inr ⟨m',rfl,rfl,hmr⟩) he
        simp_all
       simp_all
    simp_all
   simp_all
  simp_all
 ·rename_i xs tight e0;simp at e0;subst e0;split at he
  ·rename_i hsz;split at he
   ·rename_i l hnl;have hcl:(clo=none/\l=0)\/∃k,clo=some (.int k (l:Int)):=by grind[nD]
    split at he
    ·rename_i hi';cases cmx with
     |some c=>exact hmx.elim
     | none=>
      split at he
      ·rename_i u hnu;obtain⟨b1,b2,rfl⟩:=Bl he;have hcu:(chi=none/\u=xs.length)\/∃k,chi=some (.int k (u:Int)):=by grind[nD]
       cases hx with
       |ps hl htt hm hs2 hc=>
        rename_i ad cap sz c;obtain⟨ad2,cap2,e1,e2,e3,e4⟩:=Ip (tN:=tight&&Nat.beq u xs.length) (m:=cap) (.ps hl htt hm hs2 hc) hsz b1 b2;simp at e1;obtain⟨rfl,rfl⟩:=e1;refine⟨_,kK ht hs (oX hcl hcu b1 (bu b2 e2) w),e4 (bu b2 e2) (af _) fun hh=>?_⟩;simp_all
      simp_all
    ·rename_i m hi';cases cmx with
     |none=>exact hmx.elim
     | some cm=>
      cases chi with
      |none=>exact hhi.elim
      | some cu=>
       split at he
       ·rename_i m' u hnm hnu;obtain⟨k1,rfl⟩:=io hmx hnm;obtain⟨k2,rfl⟩:=io hhi hnu;rw[aB]at he;by_cases hmr:u=m'
        ·simp[hmr]at he;subst hmr;obtain⟨b1,b2,rfl⟩:=Bl he;cases hx with
         |ps hl htt hm hs2 hc=>
          rename_i ad cap sz c;obtain⟨ad2,cap2,e1,e2,e3,e4⟩:=Ip (tN:=true) (m:=u) (.ps hl htt hm hs2 hc) hsz b1 b2;simp at e1;obtain⟨rfl,rfl⟩:=e1;exact⟨_,kK ht hs (rW hcl b1 (af _) (bu b2 e2) w),e4 (af _) (bu b2 e2) fun _=>rfl⟩
        simp_all
       simp_all
    simp_all
   simp_all
  simp_all
 ·rename_i e0;simp at e0;subst e0;cases hx
  split at he
  ·rename_i hi' hnl;cases cmx with
   |some c=>exact hmx.elim
   |none=>
    split at he
    ·rename_i hnu;simp at he;subst he;refine⟨_,kK ht hs (oX (l:=0) (u:=0) ?_ ?_ (af _) (af _) w),by simpa using VRel.nils⟩;all_goals grind[nD]
    simp_all
  ·rename_i m hi' hnl;cases cmx with
   |none=>exact hmx.elim
   | some cm=>
    cases chi with
    |none=>exact hhi.elim
    |some cu=>
     split at he
     ·rename_i hnm hnu;simp at he;subst he;obtain⟨k1,rfl⟩:=io hmx hnm;obtain⟨k2,rfl⟩:=io hhi hnu;refine⟨_,kK ht hs (rW (l:=0) ?_ (af _) (af _) (af _) w),by simpa using VRel.nils⟩;grind[nD]
     simp_all
  simp_all
 simp_all
theorem VRel.loose{ys:List AV}{t:Bool}{cx:Value}(h:VRel pl M (.ps ys t) cx):VRel pl M (.ps ys false) cx:=by
 cases h with
 |ps hl ht hm hs hc=>exact .ps hl (fun h=>by grind) hm hs hc
theorem Gn(hr:cN pl M h w){s:Nat}{x v:AV}{cx:Value}{lo hi mx:Option AV}{clo chi cmx:Option Value}(hx:VRel pl M x cx)(hlo:Cd pl M lo clo)(hhi:Cd pl M hi chi)(hmx:Cd pl M mx cmx)
  {t e:TypeId}(ht:P.underlying t=some (.slice e))(hs:dZ P e=some s)(he:di s h (some x) lo hi mx=some v):∃cv,(Instr.sliceAt t cx clo chi cmx).run P w=.ok cv w/\VRel pl M v cv:=by
 unfold di at he;split at he
 ·rename_i xs e0;simp at e0;subst e0;cases mx with
  |some m=>simp_all
  | none=>
   simp only[]at he;cases hq:gp s h (some (.ps xs false)) lo hi none with
   |none=>grind[Hx]
   | some r=>
    rw[hq]at he;cases hx with
    | lsp hx htop=>
     obtain⟨cv,k1,k2⟩:=ta (P:=P) hr hx hlo hhi hmx ht hs hq;unfold Hx at he;split at he
     ·rename_i ys tt q;cases q
      cases he
      refine⟨cv,k1,.lsp k2.loose ?_⟩;have hsub:∀y,y∈ys->y∈xs:=by
       simp only[gp]at hq;split at hq;all_goals grind[vo]
      exact kn.2 fun y hy=>kn.1 htop y (hsub y hy)
     simp_all
    | lsn=>
     have key:gp s h (some .nils) lo hi none=some .nils/\v=.ls []:=by
      simp only[gp]at hq ⊢;split at hq
      ·split at hq
       ·rename_i l hl;simp only[iW]at hq;split at hq
        ·rename_i u hu;unfold vo at hq;split at hq
         ·rename_i hb;simp only[ba,bZ,decide_eq_true_eq,iW]at hb;grind[Hx]
         simp_all
        simp_all
       simp_all
      simp_all
     obtain⟨k0,rfl⟩:=key;obtain⟨cv,k1,k2⟩:=ta (P:=P) hr .nils hlo hhi hmx ht hs k0;cases k2
     exact⟨_,k1,.lsn⟩
 grind[ta]
theorem Gm{x v:AV}{cx:Value}{lo hi:Option AV}{clo chi:Option Value}(hx:VRel pl M x cx)(hlo:Cd pl M lo clo)(hhi:Cd pl M hi chi)
  {t:TypeId}(ht:P.underlying t=some .string)(he:mW (some x) lo hi=some v)(w:World):∃cv,(Instr.sliceAt t cx clo chi none).run P w=.ok cv w/\VRel pl M v cv:=by
 unfold mW at he;split at he
 ·rename_i s e0;simp at e0;subst e0;cases hx
  split at he
  ·rename_i u l hnu hnl;rw[ba,ba]at he;by_cases h1:l<=u
   ·by_cases h2:u<=s.length
    ·simp[h1,h2]at he;subst he;refine⟨_,Eh ht (oX ?_ ?_ h1 h2 w) h1 h2,.str _⟩;all_goals grind[nD]
    simp_all
   simp_all
  simp_all
 simp_all
theorem QO(t:TypeId)(x:Operand)(lo hi mx:Option Operand):ja P G (.slice t x lo hi mx):=by
 intro pl M A h v h' a w dst ty pos after guard hg hr hf he;simp only[fC]at he;cases hu:P.underlying t with
 |none=>grind[av]
 | some d=>
  rw[hu]at he;cases d<;>try exact(av he).elim
  case string=>
   cases mx with
   |some m=>grind[av]
   | none=>
    obtain⟨u,e1,e2⟩:=bI he;simp at e2;obtain⟨rfl,rfl⟩:=e2;obtain⟨olo,e3,r3⟩:=oM hg hf e1;obtain⟨ohi,e4,r4⟩:=oM hg hf e3;cases hx:(cE G x).run A with
    |none=>grind[mW]
    |some xv=>
     rw[hx]at e4;obtain⟨cv,k1,k2⟩:=Gm (P:=P) (bq hg hf hx) r3 r4 hu e4 w;simp_all[execOp,qG.pure]
  case slice e=>
   cases hs:dZ P e with
   |none=>grind[av]
   | some s=>
    cases s with
    |zero=>grind[av]
    | succ s=>
     simp only[hs]at he;obtain⟨u,e1,e2⟩:=bI he;simp at e2;obtain⟨rfl,rfl⟩:=e2;obtain⟨olo,e3,r3⟩:=oM hg hf e1;obtain⟨ohi,e4,r4⟩:=oM hg hf e3;obtain⟨omx,e5,r5⟩:=oM hg hf e4;cases hx:(cE G x).run A with
     |none=>grind[di,gp]
     |some xv=>
      rw[hx]at e5;obtain⟨cv,k1,k2⟩:=Gn (P:=P) hr (bq hg hf hx) r3 r4 r5 hu hs e5;simp_all[execOp,qG.pure]
end
section
variable{P:Program}{G:fy}{pl:Pl}{M:dT}{h h':AHeap}{w w':World}{v:AV}{A:Fr}{a:Act}
theorem mV{j k:IntKind}:lk j k=decide (j=k):=by cases j<;>cases k<;>rfl
theorem pT:∀(x y:Int),aa x y=(x==y)
 | .ofNat x,.ofNat y=>by grind[aa,aB]
 | .negSucc x,.negSucc y=>by grind[aa,aB]
 | .ofNat x,.negSucc y=>by simp_all[aa]
 | .negSucc x,.ofNat y=>by simp_all[aa]
theorem wB:∀(x y:Int),aL x y=decide (x<y)
 | .ofNat x,.ofNat y=>by grind[aL,dN]
 | .negSucc x,.negSucc y=>by grind[aL,dN]
 | .ofNat x,.negSucc y=>by grind[aL]
 | .negSucc x,.ofNat y=>by grind[aL]
theorem PM(a b:UInt8):Nat.beq a.toNat b.toNat=(a==b):=by rw[aB,EJ];simp[UInt8.toNat_inj]
theorem mF:∀(x y:List UInt8),dH x y=(x==y)
 |[],[]=>rfl
 |[],_::_=>rfl
 |_::_,[]=>rfl
 |a::x,b::y=>by simp only[dH,PM,mF x y];rfl
theorem Ap:∀(x y:List UInt8),VV x y=Op.bytesLess x y
 |_,[]=>by grind[VV,Op.bytesLess]
 |[],_::_=>by simp[VV,Op.bytesLess]
 |a::x,b::y=>by
  simp only[VV,Op.bytesLess,PM,Ap x y,dN];congr 1
theorem jr(s:List UInt8):(⟨⟨s⟩⟩:ByteArray).toList=s:=by simp_all
theorem xN{k r:Option Bool}{b:Bool}(e:Bx k r=some b):(r=some true/\k=some b)\/(r=some false/\b=false):=by
 cases r with
 |none=>grind[Bx]
 | some r => cases r<;>simp[Bx]at e
             all_goals simp_all
theorem Bj(xs ys:List AV):∀(a b:List (Nat×Nat)),yc xs ys (a++b)=Bx (yc xs ys b) (yc xs ys a)
 |[],b=>rfl
 |(i,t)::r,b=>by
  simp only[zx,yc,Bj xs ys r b];cases TR t (jP xs i) (jP ys i)with
  |none=>rfl
  |some q=>cases q<;>rfl
theorem gX{d:TypeDesc}{k:Nat}(e:qT d=some k):(d=.bool/\k=0)\/(∃i,d=.int i/\k=1)\/(d=.string/\k=2):=by cases d<;>simp[qT]at e<;>simp[e]
theorem Se{x y:AV}{cx cy:Value}(hx:VRel pl M x cx)(hy:VRel pl M y cy){b:Bool}{k:Nat}(e:KA k x y=some b){t:TypeId}{d:TypeDesc}
  (ht:P.underlying t=some d)(hk:qT d=some k)(n:Nat)(w:World):(Op.equalIn (n+1) t cx cy).run P w=.ok b w:=by
 unfold KA at e;split at e
 ·rw[mV]at e;split at e
  ·rename_i hj;simp at hj e;subst hj;cases hx;cases hy
   rcases gX hk with⟨_,h0⟩|⟨i,rfl,_⟩|⟨_,h0⟩
   all_goals grind[run_equalIn_int,pT]
  simp_all
 ·simp at e;cases hx;cases hy
  rcases gX hk with⟨_,h0⟩|⟨i,rfl,h0⟩|⟨rfl,_⟩
  all_goals grind[run_equalIn_string,mF,jr]
 ·simp at e;cases hx;cases hy
  rcases gX hk with⟨rfl,_⟩|⟨i,rfl,h0⟩|⟨_,h0⟩
  all_goals grind[run_equalIn_bool']
 simp_all
theorem Sf{k:Nat}{x y:Option AV}{b:Bool}(e:TR k x y=some b):∃u v,x=some u/\y=some v/\KA k u v=some b:=by
 cases x<;>cases y<;>simp[TR]at e
 simp_all
def rL(P:Program)(t:TypeId)(vx:Array Value)(off:Nat)(cx:Value):Prop:=
 match c8 P t with
 |some true=>∃ex,cx=.agg ex/\∀k,k<(dZ P t).getD 0->ex[k]?=vx[off+k]?
 |some false=>vx[off]?=some cx
 |none=>False
theorem ia{t:TypeId}{fs:Array Field}(h:P.underlying t=some (.struct fs)):c8 P t=some true:=by grind[c8]
theorem oT{t:TypeId}{d:TypeDesc}{k:Nat}(h:P.underlying t=some d)(hk:qT d=some k):c8 P t=some false:=by rcases gX hk with⟨rfl,_⟩|⟨i,rfl,_⟩|⟨rfl,_⟩<;>simp[c8,h]
theorem gu{n off:Nat}{t:TypeId}{ls:List (Nat×Nat)}(e:ej P (n+1) t off=some ls):
  (∃fs sz,P.underlying t=some (.struct fs)/\dZ P t=some sz/\P.stoodInHeld t=false/\pH P (ej P n) sz off fs.toList=some ls)\/
  (∃d k,P.underlying t=some d/\dZ P t=some 1/\qT d=some k/\ls=[(off,k)]):=by
 simp only[ej]at e;cases hu:P.underlying t with
 |none=>simp_all
 | some d=>
  cases hs:dZ P t with
  |none=>simp_all
  | some sz=>
   by_cases hd:∃fs,d=.struct fs
   ·grind
   ·have hd2:∀fs,d≠.struct fs:=fun fs h=>hd ⟨fs,h⟩
    have h1:sz=1/\∃k,qT d=some k/\ls=[(off,k)]:=by
     rw[hu,hs]at e;cases d<;>first|exact absurd rfl (hd2 _)|skip
     all_goals
      rcases sz with _|_|sz
      ·simp at e
      ·simp[qT]at e;try exact⟨rfl,_,rfl,e.symm⟩
      ·simp at e
    simp_all
theorem pG{f:TypeId->Nat->Option (List (Nat×Nat))}{sz off:Nat}{x:Field}{r:List Field}{ls:List (Nat×Nat)}(e:pH P f sz off (x::r)=some ls):
  x.name≠ "_" /\∃s a b,dZ P x.type=some s/\f x.type (off+x.offset)=some a/\pH P f sz off r=some b/\x.offset+s<=sz/\ls=a++b:=by
 grind[pH,ba]
theorem th{t:TypeId}{ag:Bool}{s o off sz:Nat}{ex vx:Array Value}(h1:c8 P t=some ag)(h2:dZ P t=some s)(hs0:ag=false->s=1)(hfit:o+s<=sz)(hex:∀k,k<sz->ex[k]?=vx[off+k]?)
  (hin:∀k,k<s->(vx[off+o+k]?).isSome=true)(w:World):∃cv,(part t ex o).run P w=.ok cv w/\rL P t vx (off+o) cv:=by
 cases ag with
 |true=>
  refine⟨.agg (ex.extract o (o+s)),by simp_all[part,m6,cR],?_⟩;simp only[rL,h1,h2,zz];refine⟨_,rfl,fun k hk=>?_⟩;have h3:=hex (o+k) (by omega);grind
 |false=>
  have hs:=hs0 rfl;subst hs;have h3:=hex o (by omega);simp_all[part,m6,rL]
theorem FZ{X Y:List AV}{vx vy:Array Value}(hX:VRels pl M X vx)(hY:VRels pl M Y vy):∀(n:Nat)(t:TypeId)(off:Nat)(ls:List (Nat×Nat))(cx cy:Value)(b:Bool)(d sz:Nat)(w:World),
  ej P n t off=some ls->dZ P t=some sz->off+sz<=X.length->off+sz<=Y.length->rL P t vx off cx->rL P t vy off cy->yc X Y ls=some b->(Op.equalIn (d+n) t cx cy).run P w=.ok b w
 |0,_,_,_,_,_,_,_,_,_,e,_,_,_,_,_,_=>by grind[ej]
 | n+1,t,off,ls,cx,cy,b,d,sz,w,e,hsz,hlx,hly,hcx,hcy,he=>by
  rcases gu e with⟨fs,sz',hu,hs',hst,hl⟩|⟨dd,k,hu,hs1,hk,rfl⟩
  ·rw[hsz]at hs';simp at hs';subst hs';simp only[rL,ia hu,hsz,zz]at hcx hcy;obtain⟨ex,rfl,hex⟩:=hcx;obtain⟨ey,rfl,hey⟩:=hcy;have hfs:P.fieldsOf t=fs:=by grind[Program.fieldsOf]
   rw[show d+(n+1)=(d+n)+1 by omega,run_equalIn_agg _ _ _ _ _ (by simp_all) hst,hfs];generalize fs.toList=fl at hl;clear hu hfs e;induction fl generalizing ls b w with
   |nil=>simp_all[pH,yc,Op.eqFields]
   | cons f r ih=>
    obtain⟨hname,s,a1,b1,g1,g2,g3,g4,rfl⟩:=pG hl;rw[Bj]at he;have hag:∃ag,c8 P f.type=some ag/\(ag=false->s=1):=by
     cases n with
     |zero=>grind[ej]
     |succ n=>grind[gu,ia,oT]
    obtain⟨ag,q1,q2⟩:=hag;have hvx:=hX.len;have hvy:=hY.len;obtain⟨cvx,r1,r2⟩:=th (P:=P) (vx:=vx) q1 g1 q2 g4 hex (fun k hk=>by grind) w;obtain⟨cvy,r3,r4⟩:=th (P:=P) (vx:=vy) q1 g1 q2 g4 hey (fun k hk=>by grind) w;simp only[Op.eqFields,if_pos hname,Sem.run_bind,r1,r3,Result.andThen_ok];rcases xN he with⟨he1,he2⟩|⟨he1,rfl⟩
    ·rw[FZ hX hY n f.type (off+f.offset) a1 cvx cvy true d s w g2 g1 (by omega) (by omega) r2 r4 he1];simp only[Result.andThen_ok,Bool.not_true,gP,if_false];grind
    ·rw[FZ hX hY n f.type (off+f.offset) a1 cvx cvy false d s w g2 g1 (by omega) (by omega) r2 r4 he1];simp
  ·simp only[rL,oT hu hk]at hcx hcy;simp only[yc]at he;have he2:TR k (jP X off) (jP Y off)=some b:=by grind[xN]
   obtain⟨u,v,e1,e2,e3⟩:=Sf he2;rw[oc]at e1 e2;have hru:=hX.at_ _ _ e1;have hrv:=hY.at_ _ _ e2;have h5:=hX.get e1;have h6:=hY.get e2;grind[Se]
theorem nN:∀(n:Nat)(t:TypeId)(off:Nat)(ls:List (Nat×Nat))(D:Nat),ej P n t off=some ls->n<=D->P.eqGuardType D t=false
 |0,_,_,_,_,e,_=>by grind[ej]
 |n+1,t,off,ls,0,_,h=>by omega
 | n+1,t,off,ls,D+1,e,h=>by
  rcases gu e with⟨fs,sz',hu,hs',hst,hl⟩|⟨dd,k,hu,hs1,hk,rfl⟩
  ·simp only[Program.eqGuardType,hu];rw[<-Array.any_toList];generalize fs.toList=fl at hl;clear hu e;induction fl generalizing ls with
   |nil=>rfl
   |cons f r ih=>
    obtain⟨hname,s,a1,b1,g1,g2,g3,g4,rfl⟩:=pG hl;simp only[List.any_cons,nN n f.type _ a1 D g2 (by omega),zq,Bool.false_or];simp_all
  ·rcases gX hk with⟨rfl,_⟩|⟨i,rfl,_⟩|⟨rfl,_⟩<;>simp[Program.eqGuardType,hu]
theorem mf{t:TypeId}{fs:Array Field}{vs:Array Value}(hu:P.underlying t=some (.struct fs)):rL P t vs 0 (.agg vs):=by grind[rL,ia]
theorem sB{n:Nat}{t:TypeId}{ls:List (Nat×Nat)}(ha:c8 P t=some true)(e:ej P n t 0=some ls):∃fs,P.underlying t=some (.struct fs):=by
 cases n with
 |zero=>grind[ej]
 |succ n=>
  rcases gu e with⟨fs,sz',hu,_⟩|⟨dd,k,hu,hs1,hk,rfl⟩
  all_goals grind[oT]
theorem Sg{x y:AV}{cx cy:Value}(hx:VRel pl M x cx)(hy:VRel pl M y cy){t:TypeId}{b:Bool}(e:IY (P.underlying t) x y=some b)(n:Nat)(w:World):
  (Op.equalIn (n+1) t cx cy).run P w=.ok b w/\(∀op o1 o2,eqGuard op t o1 o2 cx cy=pure ())/\(∀op,op=.eql\/op=.neq->binOp op t cx cy=(do let r <-Op.equal t cx cy;pure (.bool (if op=.eql then r else !r)))):=by
 unfold IY at e;split at e<;>(try(simp at e;done))<;>rename_i hu<;>simp at e<;>subst e<;>cases hx<;>cases hy<;>
  refine⟨by simp[Op.equalIn,run_underlying hu],fun op o1 o2=>by cases op<;>rfl,fun op ho=>?_⟩<;>rcases ho with rfl|rfl<;>simp[binOp]
theorem Yg{x y:AV}{cx cy:Value}(hx:VRel pl M x cx)(hy:VRel pl M y cy){t:TypeId}{b:Bool}(e:Yh (c8 P t) (dZ P t) (ej P 10 t 0) x y=some b)(w:World):
  ∀(o1 o2:Operand),(eqGuard .eql t o1 o2 cx cy).run P w=.ok () w/\(eqGuard .neq t o1 o2 cx cy).run P w=.ok () w/\
   (binOp .eql t cx cy).run P w=.ok (.bool b) w/\(binOp .neq t cx cy).run P w=.ok (.bool (!b)) w:=by
 intro o1 o2;unfold Yh at e;split at e
 ·rename_i as bs;split at e
  ·rename_i n l h1 h2 h3;rw[aB,aB]at e;by_cases ha:as.length=n
   ·by_cases hb:bs.length=n
    ·simp[ha,hb]at e;obtain⟨fs,hu⟩:=sB h1 h3;cases hx with
     | agg a1 a2 a3=>
      cases hy with
      |agg b1 b2 b3=>
       have hg:=nN 10 t 0 l P.depth h3 (by grind[Program.depth,Made.depth]);have he:=fun w=>FZ (P:=P) (pl:=pl) (M:=M) ⟨a1,a3⟩ ⟨b1,b3⟩ 10 t 0 l _ _ b 9990 n w h3 h2 (by omega) (by omega) (mf hu) (mf hu) e
       refine⟨run_eqGuard_agg _ _ _ _ _ _ _ hg,run_eqGuard_agg _ _ _ _ _ _ _ hg,?_,?_⟩
       ·rw[run_eql_struct,he];rfl
       ·rw[run_neq_struct,he];rfl
    simp_all
   simp_all
  simp_all
 ·rw[mV]at e;split at e
  ·rename_i hj;simp at hj e;subst hj;cases hx;cases hy
   rw[<-e,pT];refine⟨by rfl,by rfl,?_,?_⟩
   ·rw[binOp_eql];rfl
   ·rw[binOp_neq];rfl
  simp_all
 ·simp at e;cases hx;cases hy
  rw[<-e,mF];refine⟨by rfl,by rfl,?_,?_⟩<;>simp[binOp,Op.stringOp,jr]
 ·split at e
  ·rename_i hag hl;simp at e;cases hx;cases hy
   have hb:P.underlying t=some .bool:=by
    rcases gu hl with⟨fs,sz',hu,hs',hst,hl2⟩|⟨dd,k,hu,hs1,hk,h9⟩
    ·grind[ia]
    ·simp at h9;rcases gX hk with⟨rfl,_⟩|⟨i,rfl,h0⟩|⟨_,h0⟩
     all_goals omega
   refine⟨by rfl,by rfl,?_,?_⟩;all_goals simp_all[binOp,Op.equal,Op.maxDepth,run_equalIn_bool']
  simp_all
 simp_all
theorem PN{f:AV->AV->Option AV}{x y:Option AV}{v:AV}(e:T6 f x y=some v):∃a b,x=some a/\y=some b/\f a b=some v:=by
 cases x<;>cases y<;>simp[T6]at e
 simp_all
theorem QG{f:AV->Option AV}{x:Option AV}{v:AV}(e:one f x=some v):∃a,x=some a/\f a=some v:=by
 cases x<;>simp[one]at e
 simp_all
theorem qY{f:IntKind->Int->Int->Option AV}{x y v:AV}(e:wP f x y=some v):∃k a b,x=.int k a/\y=.int k b/\f k a b=some v:=by
 unfold wP at e;grind[mV]
def gh(P:Program)(op:BinOp)(t:TypeId)(o1 o2:Operand)(cx cy:Value):Sem Value:=do eqGuard op t o1 o2 cx cy;binOp op t cx cy
theorem G3{k r:Option Bool}{b:Bool}(e:pp k r=some b):r=some b\/(r=none/\k=some b):=by
 cases r<;>simp[pp]at e
 all_goals simp_all
theorem NW{x y:AV}{cx cy:Value}(hx:VRel pl M x cx)(hy:VRel pl M y cy){t:TypeId}{b:Bool}(e:pp (IY (P.underlying t) x y) (Yh (c8 P t) (dZ P t) (ej P 10 t 0) x y)=some b)(o1 o2:Operand)(w:World):
  (gh P .eql t o1 o2 cx cy).run P w=.ok (.bool b) w/\(gh P .neq t o1 o2 cx cy).run P w=.ok (.bool (!b)) w:=by
 rcases G3 e with e|⟨_,e⟩
 ·obtain⟨h1,h2,h3,h4⟩:=Yg hx hy e w o1 o2;simp_all[gh]
 ·obtain⟨h1,h2,h3⟩:=Sg hx hy e 9999 w;simp_all[gh,Op.equal,Op.maxDepth]
theorem vD{fi:Int->Int->Bool}{fs:List UInt8->List UInt8->Bool}{x y v:AV}(e:O5 fi fs x y=some v):
  (∃k a b,x=.int k a/\y=.int k b/\v=.bool (fi a b))\/(∃a b,x=.str a/\y=.str b/\v=.bool (fs a b)):=by
 unfold O5 at e;grind[mV]
theorem mb{b c:Bool}(h:b=c):VRel pl M (.bool b) (.bool c):=by subst h;exact .bool _
theorem WW{op:BinOp}{x y v:AV}{cx cy:Value}(hx:VRel pl M x cx)(hy:VRel pl M y cy){t:TypeId}(e:qD op (P.underlying t) (c8 P t) (dZ P t) (ej P 10 t 0) x y=some v)(o1 o2:Operand)(w:World):
  ∃cv,(gh P op t o1 o2 cx cy).run P w=.ok cv w/\VRel pl M v cv:=by
 cases op
 case add=>
  simp only[qD]at e;unfold Wc at e;split at e
  ·rw[mV]at e;split at e
   ·rename_i hj;simp at hj e;subst hj;subst e;cases hx;cases hy
    exact⟨_,by simp[gh,eqGuard_add,binOp_add,Op.intArith],.int _ _⟩
   simp_all
  ·rename_i a b;rw[ba]at e;split at e
   ·rename_i hj;simp at hj e;subst e;cases hx;cases hy
    refine⟨.string ⟨⟨a++b⟩⟩,?_,.str _⟩;have h1:(⟨⟨a⟩⟩++⟨⟨b⟩⟩:ByteArray)=⟨⟨a++b⟩⟩:=by
     apply ByteArray.ext;simp_all
    have h2:(⟨⟨a⟩⟩:ByteArray).size=a.length:=rfl;have h3:(⟨⟨b⟩⟩:ByteArray).size=b.length:=rfl;have h4:¬(9223372036854775807<((a.length:Int)+(b.length:Int))):=by omega
    simp_all[gh,eqGuard_add,binOp,Op.stringOp]
   simp_all
  simp_all
 case sub=>
  obtain⟨k,a,b,rfl,rfl,e'⟩:=qY e;simp at e';subst e';cases hx;cases hy
  exact⟨_,by simp[gh,eqGuard_sub,binOp_sub,Op.intArith],.int _ _⟩
 case mul=>
  obtain⟨k,a,b,rfl,rfl,e'⟩:=qY e;simp at e';subst e';cases hx;cases hy
  exact⟨_,by simp[gh,eqGuard_mul,binOp_mul,Op.intArith],.int _ _⟩
 case quo=>
  obtain⟨k,a,b,rfl,rfl,e'⟩:=qY e;rw[pT]at e';split at e'
  ·simp_all
  ·rename_i hb;simp at e' hb;subst e';cases hx;cases hy
   exact⟨_,by simp[gh,eqGuard_quo,binOp_quo,Op.intDiv,hb],.int _ _⟩
 case rem=>
  obtain⟨k,a,b,rfl,rfl,e'⟩:=qY e;rw[pT]at e';split at e'
  ·simp_all
  ·rename_i hb;simp at e' hb;subst e';cases hx;cases hy
   exact⟨_,by simp[gh,eqGuard_rem,binOp_rem,Op.intDiv,hb],.int _ _⟩
 case eql=>
  simp only[qD]at e;split at e
  ·rename_i b hb;simp at e;subst e;exact⟨_,(NW hx hy hb o1 o2 w).1,.bool _⟩
  simp_all
 case neq=>
  simp only[qD]at e;split at e
  ·rename_i b hb;simp at e;subst e;exact⟨_,(NW hx hy hb o1 o2 w).2,.bool _⟩
  simp_all
 case lss=>
  rcases vD e with⟨k,a,b,rfl,rfl,rfl⟩|⟨a,b,rfl,rfl,rfl⟩<;>cases hx<;>cases hy
  ·exact⟨.bool (decide (a<b)),by simp[gh,eqGuard_lss,binOp_lss],mb (wB _ _)⟩
  ·exact⟨.bool (Op.bytesLess a b),by simp[gh,eqGuard_lss,binOp,Op.stringOp,jr],mb (Ap _ _)⟩
 case leq=>
  rcases vD e with⟨k,a,b,rfl,rfl,rfl⟩|⟨a,b,rfl,rfl,rfl⟩<;>cases hx<;>cases hy
  ·refine⟨.bool (decide (a<=b)),by simp[gh,eqGuard_leq,binOp_leq],mb ?_⟩;rw[wB,EJ];simp
  ·exact⟨.bool (Op.bytesLess a b||a==b),by simp[gh,eqGuard_leq,binOp,Op.stringOp,jr],mb (by rw[Ap,mF])⟩
 case gtr=>
  rcases vD e with⟨k,a,b,rfl,rfl,rfl⟩|⟨a,b,rfl,rfl,rfl⟩<;>cases hx<;>cases hy
  ·exact⟨.bool (decide (b<a)),by simp[gh,eqGuard_gtr,binOp_gtr],mb (wB _ _)⟩
  ·exact⟨.bool (!(Op.bytesLess a b||a==b)),by simp[gh,eqGuard_gtr,binOp,Op.stringOp,jr],mb (by rw[Ap,mF])⟩
 case geq=>
  rcases vD e with⟨k,a,b,rfl,rfl,rfl⟩|⟨a,b,rfl,rfl,rfl⟩<;>cases hx<;>cases hy
  ·refine⟨.bool (decide (b<=a)),by simp[gh,eqGuard_geq,binOp,Op.intCmp],mb ?_⟩;rw[wB,EJ];simp
  ·exact⟨.bool (!Op.bytesLess a b),by simp[gh,eqGuard_geq,binOp,Op.stringOp,jr],mb (by rw[Ap])⟩
 case shl=>
  simp only[qD]at e;unfold Ze at e;split at e
  ·rename_i k a j b;simp at e;subst e;cases hx;cases hy
   have h0:¬((Int.ofNat b)<0):=by simp
   exact⟨_,by simp only[gh,eqGuard_shl,binOp,Op.shift,Sem.run_bind,Sem.run_pure,Result.andThen_ok,h0,if_false];rfl,.int _ _⟩
  simp_all
 case shr=>
  simp only[qD]at e;unfold Zd at e;split at e
  ·rename_i k a j b;simp at e;subst e;cases hx;cases hy
   have h0:¬((Int.ofNat b)<0):=by simp
   exact⟨_,by simp only[gh,eqGuard_shr,binOp,Op.shift,Sem.run_bind,Sem.run_pure,Result.andThen_ok,h0,if_false];rfl,.int _ _⟩
  simp_all
 all_goals simp[qD]at e
theorem Q1(op:BinOp)(t:TypeId)(x y:Operand)(t2:TypeId):ja P G (.binOp op t x y t2):=by
 intro pl M A h v h' a w dst ty pos after guard hg hr hf he;obtain⟨u,e1,e2⟩:=bI he;simp at e2;obtain⟨rfl,rfl⟩:=e2;obtain⟨xv,yv,hx,hy,e3⟩:=PN e1;obtain⟨cv,k1,k2⟩:=WW (P:=P) (bq hg hf hx) (bq hg hf hy) e3 x y w;have:(execOp a.eval ⟨dst,.binOp op t x y t2,ty,pos,after,guard⟩).run P w=.ok (.value cv) w:=by
  show((do let r <-gh P op t x y (a.eval x) (a.eval y);pure (.value r)):Sem Next).run P w=_
  simp_all
 grind[qG.pure]
theorem UE(op:UnOp)(t:TypeId)(x:Operand):ja P G (.unOp op t x):=by
 intro pl M A h v h' a w dst ty pos after guard hg hr hf he;obtain⟨u,e1,e2⟩:=bI he;simp at e2;obtain⟨rfl,rfl⟩:=e2;obtain⟨xv,hx,e3⟩:=QG e1;have hxv:=bq hg hf hx;generalize hq:a.eval x=cx at hxv;unfold unR at e3;split at e3<;>simp at e3<;>subst e3<;>cases hxv
 ·simpa[execOp,hq,Op.unary]using qG.pure hr (.bool _)
 ·rename_i k n;have:=qG.pure (h:=h') hr (VRel.int (pl:=pl) (M:=M) k (k.wrap (0-n)));simp_all[execOp,Op.unary,Op.intArith]
end
section
variable{P:Program}{G:fy}{pl:Pl}{M:dT}{h h':AHeap}{w w':World}{v:AV}{A:Fr}{a:Act}
theorem WSame.push(w:World)(o:Obj):WSame w {w with heap:=w.heap.push o}:=⟨rfl,rfl,rfl,af _⟩
theorem YN(hr:cN pl M h w){z:AV}{cz:Value}(hz:VRel pl M z cz){r:ARes}(e:sE h (some z)=some r)(t:TypeId):
  ∃w' pl',(newVar t cz).run P w=.ok ⟨w.heap.size,0,none⟩ w'/\r=.val (.ptr h.n 0 0 0) (h.push (.row z.cells.length false 0 [z]))/\
   VRel pl' M (.ptr h.n 0 0 0) (.pointer (some ⟨w.heap.size,0,none⟩))/\cN pl' M (h.push (.row z.cells.length false 0 [z])) w'/\dQ h pl M w (h.push (.row z.cells.length false 0 [z])) pl' M w':=by
 simp only[sE]at e;cases hc:z.cells with
 |nil=>simp_all
 | cons c0 cr=>
  simp only[hc]at e;cases hf:fh z with
  |false=>simp_all
  | true=>
   simp[hf]at e;have hlen:z.cells.length=cr.length+1:=by simp_all
   rw[<-hlen]at e;rw[<-hc];have hcz:=hz.cells;have hsc:=hz.sc hf;have hpos:0<z.cells.length:=by omega
   let p:Place:=⟨w.heap.size,0,z.cells.length,1,z.cells.length⟩
   have hext:n8 pl (upd pl h.n p):=fun id q hq=>⟨q,by rw[dJ (by have:=hr.dom id q hq;omega)];omega,af _,fun _=>rfl⟩
   obtain⟨h1,h2⟩:=cN.alloc (o:=.row z.cells.length false 0 [z]) (ob:=.cells cz.cells t) (p:=p) (w':={w with heap:=w.heap.push (.cells cz.cells t)}) hr rfl (WSame.push _ _) rfl (by
    refine⟨rfl,rfl,rfl,hcz.len,rfl,hpos,fun _=>by simp[hcz.len],⟨by simp[hcz.len],fun x hx=>?_,fun i x j y hi hj=>?_⟩⟩
    ·simp_all
    ·cases i with
     |zero=>simp at hi;subst hi;simpa using((hcz.at_ j y hj).mono hext fun _ _ h=>h)
     |succ i=>simp_all)
   refine⟨_,_,by simp[newVar,newRow],e.symm,.ptr (eh _ _ _) (af _) fun _=>by grind,h1,h2⟩
theorem DX(hr:cN pl M h w){z:AV}{cz:Value}(hz:VRel pl M z cz){r:ARes}(e:sE h (some z)=some r)(he:r=.val v h')(t:TypeId):
  qG pl M h w ((do pure (Next.value (.pointer (some (<-newVar t cz)))):Sem Next).run P w) v h':=by
 obtain⟨w',pl',k1,k2,k3,k4,k5⟩:=YN (P:=P) hr hz e t;rw[k2]at he;simp at he;obtain⟨rfl,rfl⟩:=he;exact⟨pl',M,_,w',_,by simp_all,.inl rfl,k3,k4,k5,by show h.n<=h.n+1;omega⟩
theorem Xu(t:TypeId)(x:Operand):ja P G (.box t x):=by
 intro pl M A h v h' a w dst ty pos after guard hg hr hf he;cases hx:(cE G x).run A with
 |none=>grind[fC,sE]
 |some xv=>
  have he2:sE h (some xv)=some (.val v h'):=by rw[<-hx];exact he
  have:=DX (P:=P) hr (bq hg hf hx) he2 rfl t;have e2:(execOp a.eval ⟨dst,.box t x,ty,pos,after,guard⟩)=(do pure (Next.value (.pointer (some (<-newVar t (a.eval x)))))):=by simp[execOp,Instr.box]
  simp_all
theorem Q2(t:TypeId):ja P G (.alloc t):=by
 intro pl M A h v h' a w dst ty pos after guard hg hr hf he;simp only[fC]at he;cases hz:iS P t with
 |none=>grind[av]
 | some z=>
  cases hs:dZ P t with
  |none=>grind[av]
  | some s=>
   simp only[hz,hs]at he;cases hb:Nat.beq z.cells.length s with
   |false=>grind[av]
   |true=>
    simp only[hb]at he;obtain⟨zv,hz1,hz2⟩:=mJ hz;have:=DX (P:=P) hr (dn hz2) he rfl t;have e2:(execOp a.eval ⟨dst,.alloc t,ty,pos,after,guard⟩).run P w=((do pure (Next.value (.pointer (some (<-newVar t zv)))):Sem Next)).run P w:=by simp_all[execOp,Instr.alloc]
    simp_all
theorem JI(t:TypeId)(r:Option Operand):ja P G (.makeMap t r):=by
 intro pl M A h v h' a w dst ty pos after guard hg hr hf he;have key:v=.map h.n->h'=h.push (.map [] 0)->(Instr.makeMap t (r.map a.eval)).run P w=.ok (.map (some w.heap.size)) {w with heap:=w.heap.push (.map #[] 0)}->
   qG pl M h w ((execOp a.eval ⟨dst,.makeMap t r,ty,pos,after,guard⟩).run P w) v h':=by
  intro e1 e2 e3;subst e1;subst e2;let p:Place:=⟨w.heap.size,0,0,0,0⟩
  obtain⟨h1,h2⟩:=cN.alloc (o:=.map [] 0) (ob:=.map #[] 0) (p:=p) (w':={w with heap:=w.heap.push (.map #[] 0)}) hr rfl (WSame.push _ _) rfl
   ⟨rfl,rfl,rfl,fun i e hi=>by simp_all⟩
  exact⟨_,M,_,_,_,by simp only[execOp,Sem.run_bind,e3,Result.andThen_ok];rfl,.inl rfl,.map (eh _ _ _) (fun _=>rfl),h1,h2,by show h.n<=h.n+1;omega⟩
 cases r with
 | none=>
  simp only[fC]at he;cases hu:P.underlying t with
  |none=>grind[av]
  |some d=>
   rw[hu]at he;cases d<;>try exact(av he).elim
   simp at he;obtain⟨rfl,rfl⟩:=he;exact key rfl rfl (by simp[Instr.makeMap])
 | some r=>
  simp only[fC]at he;cases hu:P.underlying t with
  |none=>grind[av]
  | some d=>
   rw[hu]at he;cases d<;>try exact(av he).elim
   simp only[]at he;cases hx:(cE G r).run A with
   |none=>simp_all
   |some x=>
    have hxv:=bq hg hf hx;rw[hx]at he;cases x<;>simp at he
    obtain⟨rfl,rfl⟩:=he;generalize hq:a.eval r=cx at hxv;cases hxv
    exact key rfl rfl (by simp_all[Instr.makeMap,run_underlying,asInt,asIntOf])
theorem j4{n b:Nat}(e:small n b=true):n<=2^40/\n*b<=2^40:=by simp_all[small]
theorem ft{z:AV}{cz:Value}(hz:VRel pl M z cz)(hf:fh z=true)(n:Nat){s:Nat}(hs:z.cells.length=s)(hs0:0<s):
  InMem pl M ((Array.range (n*s)).map (cz.cells[· %cz.cells.size]!)) 0 s (List.replicate n z):=by
 have hc:=hz.cells;have hsz:cz.cells.size=s:=by rw[<-hc.len];omega
 refine⟨by simp,fun x hx=>?_,fun i x j y hi hj=>?_⟩
 ·rw[List.mem_replicate]at hx;rw[hx.2];exact⟨hs,hz.sc hf⟩
 ·rw[List.getElem?_replicate]at hi;split at hi
  ·rename_i hin;simp at hi;subst hi;have hj2:j<s:=by grind
   have h1:=hc.at_ j y hj;have h2:(i+1)*s<=n*s:=fV _ hin;rw[kW]at h2;have h3:0+i*s+j<n*s:=by omega
   have h4:(0+i*s+j)%s=j:=by simp_all[Nat.mod_eq_of_lt]
   simp_all
  simp_all
theorem jj{t e:TypeId}(h:fj P t=some e):P.underlying t=some (.slice e):=by grind[fj]
theorem CY{t e:TypeId}{i:TypeInfo}{zv:Value}(ht:P.underlying t=some (.slice e))(hi:P.info? e=some i)(hz:∀w,(zeroValue e).run P w=.ok zv w){n m:Nat}(hnm:n<=m)(hm:m<=2^40)(hb:m*i.bytes<=2^40)
  (k k2:IntKind)(w:World):(Instr.makeSlice t (.int k (n:Int)) (.int k2 (m:Int))).run P w=
   .ok (.slice (some ⟨w.heap.size,0,none⟩) n m) {w with heap:=w.heap.push (.cells ((Array.range (m*i.size)).map (zv.cells[· %zv.cells.size]!)) e)}:=by
 have g1:IntKind.i64.wrap (n:Int)=(n:Int):=IntWalk.i64_in _ ⟨by omega,by omega⟩;have g2:IntKind.i64.wrap (m:Int)=(m:Int):=IntWalk.i64_in _ ⟨by omega,by omega⟩;have g3:¬((m:Int)<0):=by omega
 have g4:((i.bytes:Int)*(m:Int))<=1099511627776:=by grind
 have g4':¬(281474976710656<(i.bytes:Int)*(m:Int)):=by omega
 have g5:¬((n:Int)<0):=by omega
 have g6:¬((m:Int)<(n:Int)):=by omega
 have hsz:dZ P e=some i.size:=by grind[dZ]
 by_cases g8:m*i.size=0
 ·simp[Instr.makeSlice,run_underlying ht,asInt,asIntOf,typeInfo,hi,g1,g2,g3,g4',g5,g6,cR hsz,g8,newRow];grind
 ·simp[Instr.makeSlice,run_underlying ht,asInt,asIntOf,typeInfo,hi,g1,g2,g3,g4',g5,g6,cR hsz,g8,newRow,hz]
theorem Eu (t:TypeId)(l c:Operand):ja P G (.makeSlice t l c):=by
 intro pl M A h v h' a w dst ty pos after guard hg hr hf he;simp only[fC]at he;cases h1:fj P t with
 |none=>grind[av]
 | some e=>
  simp only[h1]at he;cases h2:P.info? e with
  |none=>grind[av]
  | some i=>
   cases h3:iS P e with
   |none=>grind[av]
   | some z=>
    simp only[h2,h3,aB,dN]at he;by_cases c1:z.cells.length=i.size
    ·by_cases c2:0<i.size
     ·by_cases c3:fh z=true
      ·simp only[c1,c2,c3,decide_true,zY]at he;unfold pD at he;cases hl:(cE G l).run A with
       |none=>grind[fG]
       | some lv=>
        cases hc:(cE G c).run A with
        |none=>grind[fG]
        | some cv=>
         have hlv:=bq hg hf hl;have hcv:=bq hg hf hc;rw[hl,hc]at he;split at he
         ·rename_i k n k2 m q1 q2;simp at q1 q2;subst q1;subst q2;rw[ba]at he;by_cases c4:n<=m
          ·cases c5:small m i.bytes with
           |false=>grind[fG]
           | true=>
            simp[c4,c5,fG]at he;obtain⟨rfl,rfl⟩:=he;obtain⟨b1,b2⟩:=j4 c5;generalize hq1:a.eval l=cl at hlv;generalize hq2:a.eval c=cc at hcv;cases hlv;cases hcv
            obtain⟨zv,hz1,hz2⟩:=mJ h3;have hzr:=dn (pl:=pl) (M:=M) hz2;have hsz:dZ P e=some i.size:=by grind[dZ]
            let p:Place:=⟨w.heap.size,0,i.size,m,m*i.size⟩
            have hext:n8 pl (upd pl h.n p):=fun id q hq=>⟨q,by rw[dJ (by have:=hr.dom id q hq;omega)];omega,af _,fun _=>rfl⟩
            have hin:=(ft hzr c3 m c1 c2).mono hext (fun _ _ h=>h);let cells:=(Array.range (m*i.size)).map (zv.cells[· %zv.cells.size]!)
            obtain⟨r1,r2⟩:=cN.alloc (o:=.row i.size false 0 (List.replicate m z)) (ob:=.cells cells e) (p:=p) (w':={w with heap:=w.heap.push (.cells cells e)}) hr rfl (WSame.push _ _) rfl
             ⟨rfl,rfl,by grind,by grind,rfl,c2,fun _=>by grind,hin⟩
            have hrun:(Instr.makeSlice t (.int k (n:Int)) (.int k2 (m:Int))).run P w=.ok (.slice (some ⟨w.heap.size,0,none⟩) n m) {w with heap:=w.heap.push (.cells cells e)}:=by exact CY (jj h1) h2 hz1 c4 b1 b2 _ _ _
            refine⟨_,M,_,_,_,?_,.inl rfl,.slice (a:=⟨w.heap.size,0,none⟩) (eh _ _ _) (af _) (by omega) (fun k hk=>by simp_all) (fun _=>⟨.inr (by grind),by grind,by grind,(fun hk=>by grind),(fun k hk=>by grind)⟩),r1,r2,by show h.n<=h.n+1;omega⟩;simp only[execOp,hq1,hq2,Sem.run_bind];simp_all
          grind[fG]
         grind[fG]
      grind[av]
     grind[av]
    grind[av]
end
section
variable{P:Program}{G:fy}{pl:Pl}{M:dT}{h h':AHeap}{w w':World}{v:AV}{A:Fr}{a:Act}
theorem F8:∀(l:List Value)(off k:Nat)(c:Array Value),off+k+l.length<=c.size->(l.zipIdx k).foldl (fun cs (x:Value×Nat)=>cs.setIfInBounds (off+x.2) x.1) c=over c (off+k) l
 |[],off,k,c,_=>by simp[over]
 |v::r,off,k,c,hl=>by
  simp only[cO]at hl;rw[List.zipIdx_cons,nJ,F8 r off (k+1) _ (by simp;omega)];exact C7 (by omega)
theorem Cu{v:Value}{off:Nat}{c:Array Value}(hl:off+v.cells.size<=c.size):
  v.cells.zipIdx.foldl (fun cs (x:Value×Nat)=>cs.setIfInBounds (off+x.2) x.1) c=over c off v.cells.toList:=by
 rw[<-Array.foldl_toList,Array.toList_zipIdx];simp_all[F8]
theorem Jw{cs new:List AV}{vs nv:Array Value}{off:Nat}(h1:VRels pl M cs vs)(h2:VRels pl M new nv)(hl:off+new.length<=cs.length):VRels pl M (pg cs off new) (over vs off nv.toList):=by
 have e1:=h1.len;have e2:=h2.len;have hl2:off+nv.toList.length<=vs.size:=by simp_all
 refine⟨by grind[sR,lp],fun j y hj=>?_⟩;rcases pf hl hj with⟨a1,a2,a3⟩|⟨a1,a2⟩
 ·have e3:j=off+(j-off):=by omega
  grind[po,xz,cases VRels]
 grind[jF,cases VRels]
theorem NT{cs new:List AV}{off:Nat}(h1:∀y,y∈cs->dW y=true)(h2:∀y,y∈new->dW y=true):∀y,y∈pg cs off new->dW y=true:=by grind[pg]
theorem NQ{place:Nat->Option (Nat×Nat)}(hg:qr G pl M)(hf:FrRel pl M A a):∀(parts:List (Nat×Operand))(l:List ((Nat×Nat)×Operand))(cs:List AV)(vs:Array Value)(out:List AV),
  (∀(k:Nat)(p:Nat×Operand),parts[k]?=some p->∃q,l[k]?=some (q,p.2)/\place p.1=some q)->l.length=parts.length->VRels pl M cs vs->(∀y,y∈cs->dW y=true)->
  BK cs (l.map fun p=>(p.1,(cE G p.2).run A))=some out->∃cv,Instr.fill place vs (parts.map fun p=>(p.1,a.eval p.2))=some cv/\VRels pl M out cv/\∀y,y∈out->dW y=true
 |[],[],cs,vs,out,_,_,hv,hs,e=>by simp[BK]at e;subst e;exact⟨vs,rfl,hv,hs⟩
 |[],_::_,_,_,_,_,hl,_,_,_=>by simp_all
 |_::_,[],_,_,_,_,hl,_,_,_=>by simp_all
 | (i,x)::r,((off,sz),y)::l,cs,vs,out,hp,hl,hv,hs,e=>by
  obtain⟨q,h1,h2⟩:=hp 0 (i,x) rfl;simp at h1;obtain⟨rfl,rfl⟩:=h1;simp only[eg,BK]at e;cases hx:(cE G y).run A with
  |none=>grind[BK]
  | some u=>
   simp only[hx,BK,aB,ba]at e;split at e
   ·rename_i hc;simp at hc;obtain⟨⟨c1,c2⟩,c3⟩:=hc;have hu:=bq hg hf hx;have huc:=hu.cells;have hul:=huc.len;have hvl:=hv.len;have h3:=Jw (off:=off) hv huc (by omega);obtain⟨cv,k1,k2,k3⟩:=NQ (place:=place) hg hf r l _ _ out (fun k p hk=>by simpa using hp (k+1) p (by simp_all)) (by simp_all) h3 (NT hs (hu.sc c3)) e;refine⟨cv,?_,k2,k3⟩;have c4:(a.eval y).cells.size=sz:=by omega
    have c5:¬(vs.size<off+(a.eval y).cells.size):=by omega
    rw[eg,Instr.fill];grind[Cu]
   simp_all
theorem Hz(fs:List Field)(l:List (Nat×Nat))(w:World)(h:nl P fs=some l):((fs.mapM fun f=>(do pure (f.offset,<-sizeOf f.type):Sem (Nat×Nat)))).run P w=.ok l w:=by
 induction fs generalizing l with
 |nil=>simp_all[nl]
 | cons f r ih=>
  simp only[nl]at h;cases h1:dZ P f.type with
  |none=>simp_all
  | some s=>
   cases h2:nl P r with
   |none=>simp_all
   |some l2=>
    simp[h1,h2]at h;subst h;rw[List.mapM_cons];simp only[Sem.run_bind,cR h1,Result.andThen_ok,Sem.run_pure];simp_all
theorem Aq{pls:List (Nat×Nat)}:∀(parts:List (Nat×Operand))(l:List ((Nat×Nat)×Operand)),pn pls parts=some l->l.length=parts.length/\∀(k:Nat)(p:Nat×Operand),parts[k]?=some p->∃q:Nat×Nat,l[k]?=some (q,p.2)/\pls.toArray[p.1]?=some q
 |[],l,e=>by
  simp[pn]at e;simp_all
 | (i,x)::r,l,e=>by
  simp only[pn,oc]at e;cases h1:pls[i]? with
  |none=>simp_all
  | some p=>
   cases h2:pn pls r with
   |none=>simp_all
   |some l2=>
    simp[h1,h2]at e;subst e;obtain⟨a1,a2⟩:=Aq r l2 h2;grind
theorem LQ{o:Option (List AV)}{v:AV}(e:Tl o=some v):∃cs,o=some cs/\v=.agg cs:=by
 cases o<;>simp[Tl]at e
 simp_all
theorem Jq{t:TypeId}{z:AV}{zv:Value}(ho:ofValue zv=some z):VRels pl M z.cells zv.cells:=(dn ho).cells
theorem Nt{zv:Value}{z:AV}(ho:ofValue zv=some z)(hf:fh z=true):∀y,y∈z.cells->dW y=true:=(dn (pl:=fun _=>none) (M:=fun _=>none) ho).sc hf
theorem Q0(t:TypeId)(parts:Array (Nat×Operand)):ja P G (.build t parts):=by
 intro pl M A h v h' a w dst ty pos after guard hg hr hf he;simp only[fC]at he;have key:∀(place:Nat->Option (Nat×Nat))(l:List ((Nat×Nat)×Operand)),(∀(k:Nat)(p:Nat×Operand),parts.toList[k]?=some p->∃q,l[k]?=some (q,p.2)/\place p.1=some q)->l.length=parts.toList.length->
   (Cb P G t l).run A h=some (.val v h')->(∀zv cv,(∀w,(zeroValue t).run P w=.ok zv w)->Instr.fill place zv.cells (parts.toList.map fun p=>(p.1,a.eval p.2))=some cv->
    (Instr.build t (parts.map fun(i,x)=>(i,a.eval x))).run P w=.ok (.agg cv) w)->qG pl M h w ((execOp a.eval ⟨dst,.build t parts,ty,pos,after,guard⟩).run P w) v h':=by
  intro place l hpl hlen e hrun;unfold Cb at e;cases hz:iS P t with
  |none=>grind[av]
  | some z=>
   simp only[hz]at e;cases hfz:fh z with
   |false=>grind[av]
   |true=>
    simp only[hfz]at e;obtain⟨u,e1,e2⟩:=bI e;simp at e2;obtain⟨rfl,rfl⟩:=e2;obtain⟨cs,e3,rfl⟩:=LQ e1;obtain⟨zv,hz1,hz2⟩:=mJ hz;obtain⟨cv,k1,k2,k3⟩:=NQ (place:=place) hg hf parts.toList l _ _ cs hpl hlen (Jq (t:=t) hz2) (Nt hz2 hfz) e3;have:=hrun zv cv hz1 k1;simpa[execOp,this]using qG.pure hr (.agg k2.len k3 k2.at_)
 have emap:(parts.map fun(i,x)=>(i,a.eval x)).toList=parts.toList.map fun p=>(p.1,a.eval p.2):=by simp
 cases hu:P.underlying t with
 |none=>grind[av]
 | some d=>
  rw[hu]at he;cases d<;>try exact(av he).elim
  case struct fs=>
   cases h1:nl P fs.toList with
   |none=>grind[av]
   | some pls=>
    cases h2:pn pls parts.toList with
    |none=>grind[av]
    |some l=>
     simp only[h1,h2]at he;obtain⟨b1,b2⟩:=Aq _ _ h2;refine key (fun i=>pls.toArray[i]?) l b2 b1 he fun zv cv hz hfill=>?_
     have hm:(fs.mapM fun f=>(do pure (f.offset,<-sizeOf f.type):Sem (Nat×Nat))).run P w=.ok pls.toArray w:=by rw[Array.mapM_eq_mapM_toList,Sem.run_map,Hz _ _ _ h1];rfl
     simp only[Instr.build,Sem.run_bind,hz,Result.andThen_ok,run_underlying hu,hm,emap,hfill];rfl
  case array n e=>
   cases h1:dZ P e with
   |none=>grind[av]
   |some s=>
    simp only[h1]at he;refine key (fun i=>some (i*s,s)) _ (fun k p hk=>⟨(p.1*s,s),by simp_all,rfl⟩) (by simp) he fun zv cv hz hfill=>?_
    simp only[Instr.build,Sem.run_bind,hz,Result.andThen_ok,run_underlying hu,cR h1,emap,hfill];rfl
theorem N6{o:Option (List AV)}{v:AV}(e:Xm o=some v):∃cs,o=some cs/\v=.ps cs true:=by
 cases o<;>simp[Xm]at e
 simp_all
theorem Lt{s:Nat}(hs0:0<s)(hg:qr G pl M)(hf:FrRel pl M A a):∀(parts:List (Nat×Operand))(xs out:List AV)(c:Array Value),InMem pl M c 0 s xs->
  zG s xs (parts.map fun p=>(p.1,(cE G p.2).run A))=some out->∃c',Instr.fill (fun i=>some (i*s,s)) c (parts.map fun p=>(p.1,a.eval p.2))=some c'/\InMem pl M c' 0 s out/\out.length=xs.length/\c'.size=c.size
 |[],xs,out,c,hm,e=>by simp[zG]at e;subst e;exact⟨c,rfl,hm,rfl,rfl⟩
 | (i,x)::r,xs,out,c,hm,e=>by
  simp only[eg,zG]at e;cases hx:(cE G x).run A with
  |none=>grind[zG]
  | some u=>
   simp only[hx,zG,aB,dN]at e;split at e
   ·rename_i hc;simp at hc;obtain⟨⟨c1,c2⟩,c3⟩:=hc;have hu:=bq hg hf hx;have hxi:xs[i]?=some xs[i]:=mn c1;have hel:=hm.elem xs[i] (EW c1);obtain⟨k1,k2⟩:=hm.put (off:=0) (z:=u) hxi hu (by omega) (by omega) (hu.sc c3) (fun j q hq=>by grind);have hul:=hu.cells.len;simp only[qj]at k1 k2;obtain⟨c',q1,q2,q3,q4⟩:=Lt hs0 hg hf r _ out _ k2 e;refine⟨c',?_,q2,by simp_all,by grind[lp]⟩;have c4:(a.eval x).cells.size=s:=by omega
    have c5:i*s+(a.eval x).cells.size<=c.size:=by omega
    rw[eg,Instr.fill];grind[Cu]
   simp_all
theorem Cj(t:TypeId)(n:Nat)(parts:Array (Nat×Operand)):ja P G (.buildSlice t n parts):=by
 intro pl M A h v h' a w dst ty pos after guard hg hr hf he;simp only[fC]at he;cases h1:fj P t with
 |none=>grind[av]
 | some e=>
  cases h2:dZ P e with
  |none=>grind[av]
  | some s0=>
   cases s0 with
   |zero=>grind[av]
   | succ s0=>
    cases h3:iS P e with
    |none=>grind[av]
    | some z=>
     simp only[h1,h2,h3,aB,ba]at he;generalize hs:s0+1=s at *;have hs0:0<s:=by omega
     split at he
     ·rename_i hc;simp at hc;obtain⟨⟨c1,c2⟩,c3⟩:=hc;obtain⟨u,e1,e2⟩:=bI he;simp at e2;obtain⟨rfl,rfl⟩:=e2;obtain⟨cs,e3,rfl⟩:=N6 e1;obtain⟨zv,hz1,hz2⟩:=mJ h3;have hin:=ft (dn (pl:=pl) (M:=M) hz2) c3 n c1 hs0;obtain⟨c',q1,q2,q3,q4⟩:=Lt hs0 hg hf parts.toList _ cs _ hin e3;obtain⟨r1,r2⟩:=BP (c:=c') (t:=e) (fr:=(0,0)) (w':={w with heap:=w.heap.push (.cells c' e)}) hr rfl (WSame.push _ _);have hmx:qF M (ze M w.heap.size c'):=r2.mem;have emap:(parts.map fun(i,x)=>(i,a.eval x)).toList=parts.toList.map fun p=>(p.1,a.eval p.2):=by simp
      have hlen:cs.length=n:=by simp_all
      have hrun:(Instr.buildSlice t n (parts.map fun(i,x)=>(i,a.eval x))).run P w=.ok (.slice (some ⟨w.heap.size,0,none⟩) n n) {w with heap:=w.heap.push (.cells c' e)}:=by
       have g1:¬(16777216<n*s):=by omega
       by_cases g8:n*s=0
       ·have hn0:n=0:=by
         rcases Nat.mul_eq_zero.1 g8 with h9|h9
         all_goals omega
        subst hn0;simp only[Nat.zero_mul]at q1;have hr0:(Array.map (fun x=>zv.cells[x%zv.cells.size]!) (Array.range 0))=(Array.map (fun x=>(#[]:Array Value)[x%(#[]:Array Value).size]!) (Array.range 0)):=by simp_all
        rw[hr0]at q1;simp only[Instr.buildSlice,Sem.run_bind,run_underlying (jj h1),Result.andThen_ok,cR h2,Nat.zero_mul,Sem.run_ite,if_true,Sem.run_pure,emap,newRow];simp_all
       ·simp only[Instr.buildSlice,Sem.run_bind,run_underlying (jj h1),Result.andThen_ok,cR h2,Sem.run_ite,if_neg g8,hz1,emap,newRow];simp_all
      refine⟨pl,_,_,_,_,by simp only[execOp,Sem.run_bind,hrun,Result.andThen_ok];rfl,.inl rfl,?_,r1,r2,af _⟩;rw[<-hlen];refine .ps (sz:=s) (c:=c') (af _) (fun _=>rfl) (fun _=>⟨rfl,by simp[ze],by simp_all,hs0⟩) q2.elem (fun i x j y hi hj=>?_);have:=(q2.cell i x j y hi hj).mono (n8.refl _) hmx;omega
     grind[av]
end
section
variable{P:Program}{G:fy}{pl:Pl}{M:dT}{h h':AHeap}{w w':World}{v:AV}{A:Fr}{a:Act}
theorem mP{sz:Nat}:∀{xs:List AV},eX sz xs=true->∀x,x∈xs->x.cells.length=sz/\fh x=true
 |[],_,x,hx=>by grind
 |y::r,e,x,hx=>by
  simp only[eX,aB,bZ,decide_eq_true_eq]at e;rcases dP.1 hx with rfl|hx
  ·simp_all
  ·exact mP e.2 x hx
def cut(c:Array Value)(o n:Nat):List Value:=(List.range n).map fun j=>c.getD (o+j) undef
theorem ie(c:Array Value)(o n:Nat):(cut c o n).length=n:=by simp[cut]
theorem sa{c:Array Value}{o n j:Nat}(hj:j<n):(cut c o n)[j]?=some (c.getD (o+j) undef):=by grind[cut]
theorem Qp(hr:cN pl M h w){ys:List AV}{tight:Bool}{cx:Value}(hx:VRel pl M (.ps ys tight) cx):
  ∃(ad:Addr)(cap':Nat)(news:List Value)(sz:Nat),cx=.slice (some ad) ys.length cap'/\news.length=ys.length*sz/\(∀(j:Nat)(u:Value),news[j]?=some u->w.cell? (ad.add j)=some u)/\
   (ys≠[]->0<sz)/\InMem pl M news.toArray 0 sz ys:=by
  cases hx with
  | ps hl ht hm hs hc=>
   rename_i ad cap sz c;by_cases hne:ys=[]
   ·subst hne;exact⟨ad,cap,[],sz,rfl,by simp,fun j u hj=>by simp_all,fun hh=>absurd rfl hh,⟨by simp,(fun x hx=>by grind),(fun i x j y hi=>by simp_all)⟩⟩
   ·obtain⟨h1,h2,h3,h4⟩:=hm hne;obtain⟨t,fr,hb⟩:=hr.imm _ _ h2;have had:ad=⟨ad.block,ad.off,none⟩:=by cases ad;simp_all
    refine⟨ad,cap,cut c ad.off (ys.length*sz),sz,rfl,ie _ _ _,fun j u hj=>?_,fun _=>h4,⟨by simp[ie],hs,fun i x j y hi hj=>?_⟩⟩
    ·grind[ie,sa,Addr.add_lit,oY]
    ·have hii:=(gZ.1 hi).1;have hjj:=(gZ.1 hj).1;rw[(hs x (bH hi)).1]at hjj;have h5:(i+1)*sz<=ys.length*sz:=fV _ hii;rw[kW]at h5;have h6:=hc i x j y hi hj;rw[iJ,oE,sa (by omega),zz];grind
theorem kj(hr:cN pl M h w){x:AV}{cx:Value}{xs:List AV}(hx:VRel pl M x cx)(he:lW h x=some xs):
  (cx=.slice none 0 0/\xs=[])\/∃(ad:Addr)(cap':Nat)(news:List Value)(sz:Nat),cx=.slice (some ad) xs.length cap'/\news.length=xs.length*sz/\(∀(j:Nat)(u:Value),news[j]?=some u->w.cell? (ad.add j)=some u)/\
   (xs≠[]->0<sz)/\InMem pl M news.toArray 0 sz xs:=by
 unfold lW at he;split at he
 ·grind[cases VRel]
 ·grind[Qp]
 ·rename_i ys;simp at he;subst he;cases hx with
  |lsn=>simp_all
  |lsp hx _=>grind[Qp]
 ·rename_i id ep off len cap;split at he
  ·rename_i sz op ep' ys hg;rw[aB]at he;by_cases hep:ep=ep'
   ·subst hep;simp at he;subst he;obtain⟨p,c,t,ad,cap',q1,rfl,q3,q4,q5,q6,q7,q8,q9,q10,q11,q12,q13,q14,q15,q16,q17⟩:=ny hr hx hg;right;have hlen:((ys.drop off).take len).length=len:=by grind
    by_cases h0:len=0
    ·subst h0;refine⟨ad,cap',[],sz,by simp,by simp,fun j u hj=>by simp_all,fun hh=>by omega,⟨by simp,(fun x hx=>by simp_all),(fun i x j y hi=>by simp_all)⟩⟩
    ·have had:ad=⟨p.blk,off*sz,none⟩:=by grind
     have hget:∀(i:Nat)(x:AV),((ys.drop off).take len)[i]?=some x->i<len/\ys[off+i]?=some x:=by grind
     have hfit2:off*sz+len*sz<=c.size:=by
      have:=q10.fit;have h7:(off+len)*sz<=ys.length*sz:=fV _ q15;grind
     refine⟨ad,cap',cut c (off*sz) (len*sz),sz,by simp_all,by grind[ie],fun j u hj=>?_,fun _=>q8,⟨by grind[ie],fun x hx=>q10.elem x (Pn (ue hx)),fun i x j y hi hj=>?_⟩⟩
     ·grind[ie,sa,Addr.add_lit,oY]
     ·obtain⟨hii,hyi⟩:=hget i x hi;have hjj:=(gZ.1 hj).1;rw[(q10.elem x (bH hyi)).1]at hjj;have h5:(i+1)*sz<=len*sz:=fV _ hii;rw[kW]at h5;have h6:=q10.cell (off+i) x j y hyi hj;rw[iJ,oE,sa (by omega),zz];grind
   simp_all
  simp_all
 simp_all
theorem DP:∀(xs:List AV)(l:List UInt8),wN xs=some l->xs=l.map fun b=>.int .u8 (b.toNat:Int)
 |[],l,e=>by simp[wN]at e;simp_all
 | x::r,l,e=>by
  unfold wN at e;split at e
  ·simp_all
  ·rename_i n r' e0;simp at e0;obtain⟨rfl,rfl⟩:=e0;rw[dN]at e;split at e
   ·rename_i hn;simp at hn;split at e
    ·rename_i l' hl';simp at e;subst e;rw[DP r l' hl'];grind[UInt8.toNat_ofNat']
    simp_all
   simp_all
  simp_all
theorem JD(l:List UInt8):∀(s:List UInt8),(l.map fun b=>(b.toNat:Int)).foldl (fun(r:ByteArray) n=>r.push (UInt8.ofNat n.toNat)) ⟨⟨s⟩⟩=⟨⟨s++l⟩⟩:=by
 induction l with
 |nil=>simp_all
 |cons b r ih=>simp_all
theorem E2{w':World}{o:Obj}(hsz:w'.heap.size=w.heap.size+1)(hold:∀b,b<w.heap.size->w'.heap[b]?=w.heap[b]?)(hnew:w'.heap[w.heap.size]?=some o):w'.heap=w.heap.push o:=by grind
theorem JM (s d:TypeId)(x:Operand):ja P G (.convert s d x):=by
 intro pl M A h v h' a w dst ty pos after guard hg hr hf he;simp only[fC]at he;unfold wI at he;have fin:∀cv,(convert s d (a.eval x)).run P w=.ok cv w->VRel pl M v cv->h'=h->qG pl M h w ((execOp a.eval ⟨dst,.convert s d x,ty,pos,after,guard⟩).run P w) v h':=by simp_all[execOp,qG.pure]
 split at he
 ·rename_i ds k hs hd;obtain⟨u,e1,e2⟩:=bI he;simp at e2;obtain⟨rfl,rfl⟩:=e2;cases hx:(cE G x).run A with
  |none=>grind[Fj]
  |some xv=>
   have hxv:=bq hg hf hx;rw[hx]at e1;cases xv<;>simp[Fj]at e1
   subst e1;generalize hq:a.eval x=cx at hxv;cases hxv
   exact fin _ (by simp_all[convert,run_underlying,Conv.intToInt]) (.int _ _) rfl
 ·rename_i e hs hd;split at he
  ·rename_i hu;obtain⟨u,e1,e2⟩:=bI he;simp at e2;obtain⟨rfl,rfl⟩:=e2;cases hx:(cE G x).run A with
   |none=>grind[qK]
   | some xv=>
    have hxv:=bq hg hf hx;rw[hx]at e1;simp only[qK]at e1;cases hel:lW h' xv with
    |none=>simp_all
    | some xs=>
     rw[hel]at e1;cases hb:wN xs with
     |none=>simp_all
     | some l=>
      simp[hb]at e1;subst e1;have hxs:=DP xs l hb;rcases kj hr hxv hel with⟨h1,h2⟩|⟨ad,cap',news,sz,h1,h2,h3,h4,h5⟩
      ·subst h2;have hl:l=[]:=by simp_all
       subst hl;exact fin (.string ⟨⟨[]⟩⟩) (by rw[h1];simp[convert,run_underlying hs,run_underlying hd,run_underlying hu,Conv.bytesToString];rfl) (.str _) rfl
      ·have hnews:news=l.map fun b=>Value.int .u8 (b.toNat:Int):=by
        by_cases hne:xs=[]
        ·subst hne;have hl:l=[]:=by simp_all
         subst hl;simp at h2;grind
        ·have hs1:sz=1:=by
          cases l with
          |nil=>simp_all
          |cons b r=>
           have:=(h5.elem (.int .u8 (b.toNat:Int)) (by simp_all)).1;rw[<-this];rfl
         subst hs1;rw[hxs]at h2 h5;apply List.ext_getElem?;intro j;by_cases hj:j<l.length
         ·have h6:(l.map fun b=>AV.int .u8 (b.toNat:Int))[j]?=some (.int .u8 (l[j].toNat:Int)):=by simp_all
          have h7:=h5.cell j _ 0 _ h6 rfl;rw[iJ,oE]at h7;grind[cases VRel]
         simp_all
       have hlen:xs.length=l.length:=by grind
       have hld:=run_loadCells_list (P:=P) w ad news h3;have hnl:news.length=xs.length:=by grind
       rw[hnl,hnews]at hld;have hmm:(l.map fun b=>Value.int .u8 (b.toNat:Int))=(l.map fun b=>(b.toNat:Int)).map (Value.int .u8):=by simp
       rw[hmm]at hld;have hrun:=run_bytesToString (P:=P) w ad xs.length cap' _ hld;refine fin (.string ⟨⟨l⟩⟩) ?_ (.str _) rfl;rw[h1,show convert s d (.slice (some ad) xs.length cap')=convert s d (.slice (some ad) xs.length cap')from rfl];have:(convert s d (.slice (some ad) xs.length cap')).run P w=(Conv.bytesToString (.slice (some ad) xs.length cap')).run P w:=by simp[convert,run_underlying hs,run_underlying hd,run_underlying hu]
       rw[this,hrun];have:=JD l [];simp only[zV]at this;rw[show ByteArray.empty=⟨⟨[]⟩⟩from rfl,this]
  grind[av]
 ·rename_i hs hd;obtain⟨u,e1,e2⟩:=bI he;simp at e2;obtain⟨rfl,rfl⟩:=e2;cases hx:(cE G x).run A with
  |none=>grind[Fx]
  |some xv=>
   have hxv:=bq hg hf hx;rw[hx]at e1;cases xv<;>simp[Fx]at e1
   subst e1;generalize hq:a.eval x=cx at hxv;cases hxv
   exact fin _ (by simp_all[convert,run_underlying]) (.str _) rfl
 ·rename_i e hs hd;split at he
  ·rename_i hu;obtain⟨u,e1,e2⟩:=bI he;simp at e2;obtain⟨rfl,rfl⟩:=e2;cases hx:(cE G x).run A with
   |none=>grind[lK]
   | some xv=>
    have hxv:=bq hg hf hx;rw[hx]at e1;cases xv<;>simp only[lK]at e1<;>(try(simp at e1;done))
    rename_i l;rw[ba]at e1;split at e1
    ·simp at e1;subst e1;generalize hq:a.eval x=cx at hxv;cases hxv
     have hrun:=Lib.run_convert_string_bytes (P:=P) w s d e ⟨⟨l⟩⟩ hs hd hu;have hheap:=E2 (w:=w) (Lib.bytesWorld_size w e ⟨⟨l⟩⟩) (fun b hb=>Lib.bytesWorld_at_old w e ⟨⟨l⟩⟩ b hb) (Lib.bytesWorld_at_new w e ⟨⟨l⟩⟩);obtain⟨r1,r2⟩:=BP hr hheap ⟨rfl,rfl,rfl,by unfold Lib.bytesWorld;(first|exact af _|exact n9 _|simp)⟩;have hsz:(⟨⟨l⟩⟩:ByteArray).size=l.length:=rfl;have hge:=grownCap_ge w l.length 0 e;refine⟨pl,_,_,_,_,by simp only[execOp,hq,Sem.run_bind,hrun,Result.andThen_ok];rfl,.inl rfl,?_,r1,r2,af _⟩;rw[hsz];generalize grownCap w l.length 0 e=cap at hge;have hlm:(l.map fun b=>AV.int .u8 (Int.ofNat b.toNat)).length=l.length:=by simp
     rw[<-hlm];refine .ps (sz:=1) (c:=Lib.bytesCells w e ⟨⟨l⟩⟩) (by simp_all) (fun h=>by grind) (fun _=>⟨rfl,by simp[ze],by simp[Lib.bytesCells],by omega⟩) (fun x hx=>?_) (fun i x j y hi hj=>?_)
     ·simp at hx;obtain⟨b,_,rfl⟩:=hx;exact⟨rfl,fun y hy=>by simp[AV.cells]at hy;subst hy;rfl⟩
     ·rw[qO]at hi;cases hli:l[i]? with
      |none=>simp_all
      | some b=>
       simp[hli]at hi;subst hi;cases j with
       |succ j=>grind[AV.cells]
       |zero=>
        simp[AV.cells]at hj;subst hj;have hil:=(gZ.1 hli).1;have:(Lib.bytesCells w e ⟨⟨l⟩⟩).getD (0+i*1+0) undef=.int .u8 (b.toNat:Int):=by simp_all[Lib.bytesCells,Array.getElem?_append_left]
        show VRel pl _ (.int .u8 (b.toNat:Int)) ((Lib.bytesCells w e ⟨⟨l⟩⟩).getD (0+i*1+0) undef)
        rw[this];exact .int _ _
    simp_all
  grind[av]
 grind[av]
end
section
variable{P:Program}{G:fy}{pl:Pl}{M:dT}{h h':AHeap}{w w':World}{v:AV}{A:Fr}{a:Act}
theorem InMem.over{c:Array Value}{sz k:Nat}{xs new ys:List AV}{news:List Value}(hx:InMem pl M c 0 sz xs)(hn:InMem pl M news.toArray 0 sz new)(hnl:news.length=new.length*sz)
  (hfit:(k+new.length)*sz<=c.size)(hys:ys.length*sz<=c.size)
  (hy:∀(i:Nat)(x:AV),ys[i]?=some x->(i<k/\xs[i]?=some x)\/(k<=i/\i<k+new.length/\new[i-k]?=some x)\/(k+new.length<=i/\xs[i]?=some x)):
  k*sz+news.length<=c.size/\InMem pl M (Ev.over c (k*sz) news) 0 sz ys:=by
 have hl:k*sz+news.length<=c.size:=by grind
 refine⟨hl,by grind[lp],fun x hxm=>?_,fun i x j y hi hj=>?_⟩
 ·obtain⟨i,hi⟩:=F7.1 hxm;rcases hy i x hi with⟨_,q⟩|⟨_,_,q⟩|⟨_,q⟩
  ·exact hx.elem x (bH q)
  ·exact hn.elem x (bH q)
  ·exact hx.elem x (bH q)
 ·have hjs:j<sz:=by grind[cases InMem]
  rcases hy i x hi with⟨q0,q⟩|⟨q0,q1,q⟩|⟨q0,q⟩
  ·have h1:(i+1)*sz<=k*sz:=fV _ q0;grind[jF,cases InMem]
  ·have h1:i*sz=k*sz+(i-k)*sz:=by rw[<-kW];simp_all
   have h2:(i-k+1)*sz<=new.length*sz:=fV _ (by omega);rw[kW]at h2;have h3:=hn.cell (i-k) x j y q hj;rw[iJ,oE]at h3;rw[show 0+i*sz+j=k*sz+((i-k)*sz+j) by omega,po hl (by omega),List.getD_eq_getElem?_getD];simp_all
  ·have h1:(k+new.length)*sz<=i*sz:=fV _ q0;grind[jF,cases InMem]
theorem kh{xs new:List AV}{k:Nat}(hl:k+new.length<=xs.length):(cQ xs k new).length=xs.length:=by grind[cQ]
theorem xJ{xs new:List AV}{k:Nat}(hl:k+new.length<=xs.length){i:Nat}{x:AV}(hi:(cQ xs k new)[i]?=some x):
  (i<k/\xs[i]?=some x)\/(k<=i/\i<k+new.length/\new[i-k]?=some x)\/(k+new.length<=i/\xs[i]?=some x):=by
 rcases pf (cs:=xs) (new:=new) (off:=k) hl hi with⟨a1,a2,a3⟩|⟨a1|a1,a2⟩
 all_goals simp_all
structure SrcRel(P:Program)(pl:Pl)(M:dT)(w:World)(cx:Value)(ys:List AV)(sz:Nat)(news:List Value):Prop where
 len:∀w':World,(Builtin.lenOf cx).run P w'=.ok ys.length w'
 cells:∀n,n<=ys.length->∀w':World,w'.heap=w.heap->(Builtin.firstCells sz n cx).run P w'=.ok (news.take (n*sz)).toArray w'
 newsLen:news.length=ys.length*sz
 mem:InMem pl M news.toArray 0 sz ys
theorem O7{w w':World}(h:w'.heap=w.heap)(a:Addr):w'.cell? a=w.cell? a:=by grind[World.cell?]
theorem zB(hr:cN pl M h w){x:AV}{cx:Value}{ys:List AV}(hx:VRel pl M x cx)(he:lU h x=some ys){sz:Nat}(hne:ys≠[])(hfit:eX sz ys=true):∃news,SrcRel P pl M w cx ys sz news:=by
 have hf:=mP hfit;unfold lU at he;split at he
 ·rename_i s;simp at he;subst he;have hs:sz=1:=by
   cases s with
   |nil=>simp_all
   |cons b r=>exact((hf _ (by simp;exact .inl rfl)).1).symm
  subst hs;cases hx
  refine⟨s.map fun b=>.int .u8 (b.toNat:Int),⟨fun w'=>by simp[Builtin.lenOf];rfl,fun n hn w' _=>?_,by simp,⟨by simp,fun x hx=>?_,fun i x j y hi hj=>?_⟩⟩⟩
  ·simp_all[Builtin.firstCells]
  ·simp at hx;obtain⟨b,_,rfl⟩:=hx;exact⟨rfl,fun y hy=>by simp[AV.cells]at hy;subst hy;rfl⟩
  ·rw[qO]at hi;cases hsi:s[i]? with
   |none=>simp_all
   | some b=>
    simp[hsi]at hi;subst hi;cases j with
    |succ j=>grind
    |zero=>
     simp[AV.cells]at hj;subst hj;simp[iJ,hsi];exact .int _ _
 ·rcases kj hr hx he with⟨_,h2⟩|⟨ad,cap',news,sz',h1,h2,h3,h4,h5⟩
  ·simp_all
  ·have hs:sz'=sz:=by
    cases ys with
    |nil=>simp_all
    |cons y r=>rw[<-(h5.elem y (by simp)).1];simp_all
   subst hs;subst h1;refine⟨news,⟨fun w'=>rfl,fun n hn w' hw=>?_,h2,h5⟩⟩;grind[Nat.mul_le_mul_right,run_firstCells_some,O7]
theorem SrcRel.one{cx:Value}{ys:List AV}{sz:Nat}{news:List Value}(hs:SrcRel P pl M w cx ys sz news):∀u∈news,u.oneCell'=true:=by
 intro u hu;obtain⟨j,hj,rfl⟩:=List.mem_iff_getElem.1 hu;have hpos:0<sz:=by grind[cases SrcRel]
 have hj2:j<ys.length*sz:=by grind[cases SrcRel]
 have hi:j/sz<ys.length:=(Nat.div_lt_iff_lt_mul hpos).2 hj2;have hx:ys[j/sz]?=some ys[j/sz]:=mn hi;have he:=hs.mem.elem ys[j/sz] (EW hi);have hm:j%sz<ys[j/sz].cells.length:=by simp_all[Nat.mod_lt]
 have hy:=mn hm;have hc:=hs.mem.cell (j/sz) _ (j%sz) _ hx hy;have e1:0+j/sz*sz+j%sz=j:=by grind[Nat.div_add_mod]
 rw[e1,iJ,oE,mn hj,zz]at hc;exact hc.one (he.2 _ (EW hm))
theorem SrcRel.src{cx:Value}{ys:List AV}{sz:Nat}{news:List Value}(hs:SrcRel P pl M w cx ys sz news){tx:TypeId}(hk:(∃e',P.underlying tx=some (.slice e'))\/P.underlying tx=some .string):
  Src P sz tx cx ys.length news w:=by
 have e1:=hs.cells ys.length (af _);rw[<-hs.newsLen,List.take_length]at e1;exact⟨hk,hs.len,e1 w rfl,e1 w.drew rfl,hs.newsLen,hs.one⟩
theorem vN{ts:Array TypeId}{t tx ty:TypeId}{args:Array Value}(h0:ts[0]?=some t)(h1:ts[1]?=some tx):Builtin.append_ ts ty args=Builtin.append_ #[t,tx] ty args:=by
 unfold Builtin.append_;simp only[h0,h1];rfl
theorem wi(hr:cN pl M h w){e:TypeId}{sz:Nat}{zs ys:List AV}{z:Value}{w2:World}{cells:Array Value}{cap:Nat}(hs0:0<sz)(hw:w2.heap=w.heap.push (.cells cells e))(hs:WSame w w2)
  (hsz:cells.size=cap*sz)(hcap:ys.length<=cap)(hin:InMem pl M cells 0 sz ys):
  ∃pl',VRel pl' M (.slice h.n 0 0 ys.length none) (.slice (some ⟨w.heap.size,0,none⟩) ys.length cap)/\cN pl' M (h.push (.row sz true 0 ys)) w2/\dQ h pl M w (h.push (.row sz true 0 ys)) pl' M w2:=by
 let p:Place:=⟨w.heap.size,0,sz,ys.length,cap*sz⟩
 have hext:n8 pl (upd pl h.n p):=fun id q hq=>⟨q,by rw[dJ (by have:=hr.dom id q hq;omega)];omega,af _,fun _=>rfl⟩
 obtain⟨r1,r2⟩:=cN.alloc (o:=.row sz true 0 ys) (p:=p) hr hw hs rfl ⟨rfl,rfl,rfl,hsz.symm,rfl,hs0,fun hh=>by grind,hin.mono hext (fun _ _ h=>h)⟩;exact⟨_,.slice (eh _ _ _) (af _) hcap (fun k hk=>by grind) (fun _=>⟨.inr (by grind),by grind,by grind,(fun _=>by grind),(fun k hk=>by grind)⟩),r1,r2⟩
theorem kI{sz:Nat}{xs:List AV}{r:AV×AHeap}(e:i7 sz h xs=some r):r=(.slice h.n 0 0 xs.length none,h.push (.row sz true 0 xs)):=by grind[i7]
theorem kO{sz:Nat}{xs ys:List AV}{olds news:List Value}(h1:InMem pl M olds.toArray 0 sz xs)(h2:InMem pl M news.toArray 0 sz ys)(l1:olds.length=xs.length*sz)(l2:news.length=ys.length*sz)(rest:Array Value):
  InMem pl M ((olds++news).toArray++rest) 0 sz (xs++ys):=by
 refine⟨by grind[Nat.add_mul],fun x hx=>?_,fun i x j y hi hj=>?_⟩
 ·rcases mZ.1 hx with hx|hx
  ·exact h1.elem x hx
  ·exact h2.elem x hx
 ·by_cases hlt:i<xs.length
  ·rw[sL hlt]at hi;have h3:=h1.cell i x j y hi hj;have hjs:j<sz:=by grind[cases InMem]
   have h4:(i+1)*sz<=xs.length*sz:=fV _ hlt;rw[kW]at h4;have h5:0+i*sz+j<olds.length:=by omega
   rw[iJ]at h3 ⊢;grind
  ·rw[oD (by omega)]at hi;have h3:=h2.cell (i-xs.length) x j y hi hj;have hjs:j<sz:=by grind[cases InMem]
   have hii:=(gZ.1 hi).1;have h4:(i-xs.length+1)*sz<=ys.length*sz:=fV _ hii;rw[kW]at h4;have h6:i*sz=xs.length*sz+(i-xs.length)*sz:=by rw[<-kW];simp_all
   rw[iJ]at h3 ⊢;grind
theorem o5(c:Array Value)(sz:Nat):InMem pl M c 0 sz []:=⟨by simp,fun x hx=>by grind,fun i x j y hi=>by simp_all⟩
theorem yR(hr:cN pl M h w){t tx e:TypeId}{ty:TypeId}{i:TypeInfo}{z:Value}(ht:P.underlying t=some (.slice e))(hi:P.info? e=some i)(hz:i.zero=some z)(hzs:z.cells.size=i.size)(hs0:0<i.size)
  {base:Option Addr}{sLen sCap:Nat}{xs ys:List AV}{olds news:List Value}{cx:Value}(hol:olds.length=xs.length*i.size)(hoi:InMem pl M olds.toArray 0 i.size xs)(hxl:xs.length=sLen)
  (hold:(Builtin.firstCells i.size sLen (.slice base sLen sCap)).run P w.drew=.ok olds.toArray w.drew)(hs:SrcRel P pl M w cx ys i.size news)
  (hk:(∃e',P.underlying tx=some (.slice e'))\/P.underlying tx=some .string)(hg:sCap<sLen+ys.length)(hsm:small (sLen+ys.length) i.bytes=true):
  ∃cap w2 pl',(Builtin.append_ #[t,tx] ty #[.slice base sLen sCap,cx]).run P w=.ok (.slice (some ⟨w.heap.size,0,none⟩) (sLen+ys.length) cap) w2/\w2.heap.size=w.heap.size+1/\
   VRel pl' M (.slice h.n 0 0 (xs++ys).length none) (.slice (some ⟨w.heap.size,0,none⟩) (sLen+ys.length) cap)/\cN pl' M (h.push (.row i.size true 0 (xs++ys))) w2/\dQ h pl M w (h.push (.row i.size true 0 (xs++ys))) pl' M w2/\
   ∃cells,w2.heap=w.heap.push (.cells cells e)/\cells.size=cap*i.size/\(xs++ys).length<=cap/\InMem pl M cells 0 i.size (xs++ys)/\WSame w w2:=by
 obtain⟨b1,b2⟩:=j4 hsm;have hrun:=run_append_grow_src (P:=P) w t tx ty e i z ht hi hz base sLen sCap olds hold cx ys.length news (hs.src hk) hg (by omega) (growslice_fits hg (by omega));have hge:=grownCap_ge w (sLen+ys.length) sCap e;have hin:=kO hoi hs.mem hol hs.newsLen (Builtin.zeroCells z.cells (grownCap w (sLen+ys.length) sCap e-(sLen+ys.length)));have hlen:(xs++ys).length=sLen+ys.length:=by simp_all
 have hcs:((olds++news).toArray++Builtin.zeroCells z.cells (grownCap w (sLen+ys.length) sCap e-(sLen+ys.length))).size=grownCap w (sLen+ys.length) sCap e*i.size:=by
  simp only[F6,Cs,eG,hol,hs.newsLen,size_zeroCells,hzs,<-kW];simp_all
 have hwd:(w.drew.alloc (.cells ((olds++news).toArray++Builtin.zeroCells z.cells (grownCap w (sLen+ys.length) sCap e-(sLen+ys.length))) e)).heap=w.heap.push (.cells ((olds++news).toArray++Builtin.zeroCells z.cells (grownCap w (sLen+ys.length) sCap e-(sLen+ys.length))) e):=rfl;obtain⟨pl',k1,k2,k3⟩:=wi (zs:=[]) (z:=z) hr hs0 hwd ⟨rfl,rfl,rfl,n9 _⟩ hcs (by omega) hin;refine⟨_,_,pl',hrun,by simp_all,?_,k2,k3,_,hwd,hcs,by omega,hin,⟨rfl,rfl,rfl,n9 _⟩⟩;simp_all
theorem LH(hr:cN pl M h w){t tx e:TypeId}{ty:TypeId}{i:TypeInfo}(ht:P.underlying t=some (.slice e))(hi:P.info? e=some i)
  {id off len cap':Nat}{cap:Option Nat}{op:Bool}{ep:Nat}{xs ys:List AV}{p:Place}{c:Array Value}{t':TypeId}{ad:Addr}{news:List Value}{cx:Value}
  (hg:h.get id=some (.row i.size op ep xs))(q1:pl id=some p)(q3:w.heap[p.blk]?=some (.cells c t' (0,0)))(q4:p.ep=ep)(q5:p.sz=i.size)(q6:p.n=xs.length)(q7:p.tot=c.size)(q8:0<i.size)
  (q9:op=false->c.size=xs.length*i.size)(q10:InMem pl M c 0 i.size xs)(q11:len<=cap')(q12:∀k,cap=some k->cap'=k)(q13:cap'=0\/ad=⟨p.blk,off*i.size,none⟩)(q14:(off+cap')*i.size<=c.size)
  (q16:cap=none->xs.length<=off+cap')(q17:∀k,cap=some k->off+k<=xs.length)(hs:SrcRel P pl M w cx ys i.size news)(hk:(∃e',P.underlying tx=some (.slice e'))\/P.underlying tx=some .string)
  (hne:ys≠[])(hroom:len+ys.length<=cap')(hin:off+len+ys.length<=xs.length):
  ∃w2,(Builtin.append_ #[t,tx] ty #[.slice (some ad) len cap',cx]).run P w=.ok (.slice (some ad) (len+ys.length) cap') w2/\
   VRel pl M (.slice id ep off (len+ys.length) cap) (.slice (some ad) (len+ys.length) cap')/\cN pl M (h.put id (.row i.size op ep (cQ xs (off+len) ys))) w2/\dQ h pl M w (h.put id (.row i.size op ep (cQ xs (off+len) ys))) pl M w2:=by
 have hpos:0<ys.length:=qN.2 hne;have had:ad=⟨p.blk,off*i.size,none⟩:=by grind
 have hfit0:(off+len+ys.length)*i.size<=c.size:=by
  have:=q10.fit;have h9:(off+len+ys.length)*i.size<=xs.length*i.size:=fV _ hin;omega
 obtain⟨hl,hmem⟩:=q10.over hs.mem hs.newsLen (k:=off+len) (ys:=cQ xs (off+len) ys) hfit0 (by rw[kh hin];have:=q10.fit;omega) (fun i x hi=>xJ hin hi);have hoff:off*i.size+len*i.size=(off+len)*i.size:=(kW _ _ _).symm;have hrun:=run_append_room_src (P:=P) w t tx ty e i ht hi p.blk (off*i.size) len cap' cx ys.length news (hs.src hk) hroom (fun j hj=>by rw[hoff,oY q3 (by omega)];rfl) (fun j hj=>by grind[World.frozen?]);rw[hoff,<-had]at hrun;obtain⟨r1,r2⟩:=cN.store (ys:=cQ xs (off+len) ys) hr q1 hg q3 q4 q5 q6 q7 q8 q9 (kh hin) hl hmem;exact⟨_,hrun,.slice q1 (by omega) hroom q12 (fun _=>⟨by grind,by grind,by omega,(by grind),(by grind)⟩),r1,r2⟩
theorem yk{xs ys:List AV}{k:Nat}(hk:k<=xs.length){i:Nat}{x:AV}(hi:(xs.take k++ys)[i]?=some x):
  (i<k/\xs[i]?=some x)\/(k<=i/\i<k+ys.length/\ys[i-k]?=some x)\/(k+ys.length<=i/\xs[i]?=some x):=by
 grind
theorem XK(hr:cN pl M h w){t tx e:TypeId}{ty:TypeId}{i:TypeInfo}{z:Value}(ht:P.underlying t=some (.slice e))(hi:P.info? e=some i)(hz:i.zero=some z)(hzs:z.cells.size=i.size)
  {id len cap':Nat}{ep:Nat}{xs ys:List AV}{p:Place}{c:Array Value}{t':TypeId}{ad:Addr}{news:List Value}{cx:Value}
  (hg:h.get id=some (.row i.size true ep xs))(q1:pl id=some p)(q3:w.heap[p.blk]?=some (.cells c t' (0,0)))(q4:p.ep=ep)(q5:p.sz=i.size)(q6:p.n=xs.length)(q7:p.tot=c.size)(q8:0<i.size)
  (q10:InMem pl M c 0 i.size xs)(q11:len<=cap')(q13:cap'=0\/ad=⟨p.blk,0,none⟩)(q14:cap'*i.size<=c.size)(q15:len<=xs.length)
  (hs:SrcRel P pl M w cx ys i.size news)(hk:(∃e',P.underlying tx=some (.slice e'))\/P.underlying tx=some .string)
  (hne:ys≠[])(hsm:small (len+ys.length) i.bytes=true):
  ∃cv w2 pl',(Builtin.append_ #[t,tx] ty #[.slice (some ad) len cap',cx]).run P w=.ok cv w2/\
   VRel pl' M (.slice id (ep+1) 0 (len+ys.length) none) cv/\cN pl' M (h.put id (.row i.size true (ep+1) (xs.take len++ys))) w2/\dQ h pl M w (h.put id (.row i.size true (ep+1) (xs.take len++ys))) pl' M w2:=by
 have hpos:0<ys.length:=qN.2 hne;have hlen:(xs.take len++ys).length=len+ys.length:=by simp_all
 by_cases hroom:len+ys.length<=cap'
 ·have had:ad=⟨p.blk,0,none⟩:=by grind
  have hfit0:(len+ys.length)*i.size<=c.size:=bu (fV _ hroom) q14;obtain⟨hl,hmem⟩:=q10.over hs.mem hs.newsLen (k:=len) (ys:=xs.take len++ys) hfit0 (by simp_all) (fun i x hi=>yk q15 hi);have hrun:=run_append_room_src (P:=P) w t tx ty e i ht hi p.blk 0 len cap' cx ys.length news (hs.src hk) hroom (fun j hj=>by rw[gn,oY q3 (by omega)];rfl) (fun j hj=>by grind[World.frozen?]);rw[gn,<-had]at hrun;let p':Place:=⟨p.blk,ep+1,i.size,len+ys.length,c.size⟩
  have hext:n8 pl (upd pl id p'):=by
   intro k q hq;by_cases ek:k=id
   ·grind[eh]
   ·exact⟨q,by grind[dJ],af _,fun _=>rfl⟩
  obtain⟨r1,r2⟩:=cN.change (p':=p') (o':=.row i.size true (ep+1) (xs.take len++ys)) (w':=w.setCells p.blk (len*i.size) news) hr q1 hg (.inr (by grind)) (ox _ _ _ _)
   (by grind[jE]) (fun b _ hb=>ng _ _ hb _ _ _) (.inl rfl) (by grind[jE]) (by
    show bm (upd pl id p') M p' _ (w.setCells p.blk (len*i.size) news).heap[p.blk]?
    rw[ow p.blk t' (0,0) news (len*i.size) w c q3 hl];exact⟨rfl,rfl,hlen.symm,by grind[lp],rfl,q8,fun hh=>by grind,hmem.mono hext (fun _ _ h=>h)⟩)
  refine⟨_,_,_,hrun,.slice (eh _ _ _) (af _) hroom (fun k hk=>by grind) (fun _=>⟨?_,by grind,by grind,(fun _=>by grind),(fun k hk=>by grind)⟩),r1,r2⟩;grind
 ·have hol:(cut c 0 (len*i.size)).length=(xs.take len).length *i.size:=by grind[ie]
  have hfit1:len*i.size<=c.size:=by
   have:=q10.fit;have h9:len*i.size<=xs.length*i.size:=fV _ q15;omega
  have hoi:InMem pl M (cut c 0 (len*i.size)).toArray 0 i.size (xs.take len):=by
   refine⟨by simp_all,fun x hx=>q10.elem x (ue hx),fun k x j y hk hj=>?_⟩;have hkl:=(gZ.1 hk).1;have hkl2:k<len:=by simp_all
   rw[Lz hkl2]at hk;have hjj:=(gZ.1 hj).1;rw[(q10.elem x (bH hk)).1]at hjj;have h5:(k+1)*i.size<=len*i.size:=fV _ hkl2;rw[kW]at h5;have h6:=q10.cell k x j y hk hj;rw[iJ,oE,sa (by omega),zz];simp_all
  have hold:(Builtin.firstCells i.size len (.slice (some ad) len cap')).run P w.drew=.ok (cut c 0 (len*i.size)).toArray w.drew:=by
   by_cases h0:len=0
   ·simp_all[Builtin.firstCells,loadCells,loadCellsFrom]
   ·have had:ad=⟨p.blk,0,none⟩:=by grind
    refine run_firstCells_some w.drew i.size len ad len cap' _ (ie _ _ _) (fun j u hj=>?_);have hlt:=(gZ.1 hj).1;rw[ie]at hlt;rw[sa hlt]at hj;rw[had,Addr.add_lit,<-hj];exact oY (w:=w.drew) q3 (by omega)
  obtain⟨cap,w2,pl2,k1,k2,k3,k4,k5,cells,k6,k7,k8,k9,k10⟩:=yR (P:=P) (tx:=tx) (ty:=ty) hr ht hi hz hzs q8 hol hoi (by simp_all) hold hs hk (by omega) hsm;let p':Place:=⟨w.heap.size,ep+1,i.size,len+ys.length,cells.size⟩
  have hext:n8 pl (upd pl id p'):=by
   intro k q hq;by_cases ek:k=id
   ·grind[eh]
   ·exact⟨q,by grind[dJ],af _,fun _=>rfl⟩
  obtain⟨r1,r2⟩:=cN.change (p':=p') (o':=.row i.size true (ep+1) (xs.take len++ys)) (w':=w2) hr q1 hg (.inr (by grind)) k10
   (by omega) (fun b hb _=>by grind) (.inr (af _)) (by grind) (by
    show bm (upd pl id p') M p' _ w2.heap[w.heap.size]?
    rw[k6,Qn];exact⟨rfl,rfl,hlen.symm,rfl,rfl,q8,fun hh=>by grind,k9.mono hext (fun _ _ h=>h)⟩)
  refine⟨_,_,_,k1,.slice (eh _ _ _) (af _) (by omega) (fun k hk=>by grind) (fun _=>⟨.inr (by grind),by grind,by grind,(fun _=>by grind),(fun k hk=>by grind)⟩),r1,r2⟩
theorem mg{t tx e:TypeId}{ty:TypeId}{i:TypeInfo}(ht:P.underlying t=some (.slice e))(hi:P.info? e=some i){x:AV}{cx:Value}(hr:cN pl M h w)(hx:VRel pl M x cx)(he:lU h x=some [])
  (hk:(∃e',P.underlying tx=some (.slice e'))\/P.underlying tx=some .string){base:Option Addr}{len cap:Nat}(hl:len<=cap):
  (Builtin.append_ #[t,tx] ty #[.slice base len cap,cx]).run P w=.ok (.slice base len cap) w:=by
 have h1:(∀w',(Builtin.lenOf cx).run P w'=.ok 0 w')/\(∀w',(Builtin.firstCells i.size 0 cx).run P w'=.ok #[] w'):=by
  unfold lU at he;split at he
  ·rename_i s;simp at he;subst he;cases hx
   exact⟨fun w'=>rfl,fun w'=>by simp[Builtin.firstCells]⟩
  ·rcases kj hr hx he with⟨h1,_⟩|⟨ad,cap',news,sz,h1,_⟩
   ·subst h1;exact⟨fun w'=>rfl,fun w'=>by simp[Builtin.firstCells]⟩
   ·subst h1;exact⟨fun w'=>rfl,fun w'=>by simp[Builtin.firstCells,loadCells,loadCellsFrom]⟩
 obtain⟨h2,h3⟩:=h1;rcases hk with⟨e',hk⟩|hk<;>cases base<;>simp[Builtin.append_,run_underlying ht,run_underlying hk,sizeOf,typeInfo,hi,h2,h3,hl,storeCells]
theorem K3 (hr:cN pl M h w){t tx e:TypeId}{ty:TypeId}{i:TypeInfo}{z:Value}(ht:P.underlying t=some (.slice e))(hi:P.info? e=some i)(hz:i.zero=some z)(hzs:z.cells.size=i.size)(hs0:0<i.size)
  (hk:(∃e',P.underlying tx=some (.slice e'))\/P.underlying tx=some .string){s x:AV}{cs cx:Value}(hs:VRel pl M s cs)(hx:VRel pl M x cx){r:AV×AHeap}(he:gT i.size i.bytes h s x=some r):
  ∃cv w2 pl',(Builtin.append_ #[t,tx] ty #[cs,cx]).run P w=.ok cv w2/\VRel pl' M r.1 cv/\cN pl' M r.2 w2/\dQ h pl M w r.2 pl' M w2/\h.n<=r.2.n:=by
 unfold gT at he;cases hsrc:lU h x with
 |none=>simp_all
 | some ys=>
  rw[hsrc]at he;simp only[]at he;unfold ii at he;split at he
  ·split at he<;>simp at he<;>subst he
   ·cases hs
    exact⟨_,_,pl,mg ht hi hr hx hsrc hk (af _),.nils,hr,dQ.refl _ _ _ _,af _⟩
   ·have hs':=hs;cases hs with
    |ps hl=>exact⟨_,_,pl,mg ht hi hr hx hsrc hk hl,hs',hr,dQ.refl _ _ _ _,af _⟩
   ·have hs':=hs;cases hs with
    |lsn=>exact⟨_,_,pl,mg ht hi hr hx hsrc hk (af _),hs',hr,dQ.refl _ _ _ _,af _⟩
    |lsp h1 _=>cases h1 with
     |ps hl=>exact⟨_,_,pl,mg ht hi hr hx hsrc hk hl,hs',hr,dQ.refl _ _ _ _,af _⟩
   ·have hs':=hs;cases hs with
    |slice hp hle hl=>exact⟨_,_,pl,mg ht hi hr hx hsrc hk hl,hs',hr,dQ.refl _ _ _ _,af _⟩
  ·rename_i y0 yr;have hne:y0::yr≠[]:=by simp
   split at he
   ·simp_all
   ·rename_i hfit;obtain⟨news,hsr⟩:=zB (P:=P) hr hx hsrc hne hfit;have hpos:0<(y0::yr).length:=by simp
    generalize hys:y0::yr=ys at *;split at he
    ·
     cases hs
     split at he
     ·rename_i hsm;have:=kI he;subst this;obtain⟨cap,w2,pl2,k1,k2,k3,k4,k5,_⟩:=yR (P:=P) (t:=t) (tx:=tx) (ty:=ty) (base:=none) (sLen:=0) (sCap:=0) (xs:=[]) (olds:=[]) hr ht hi hz hzs hs0 (by simp) (o5 _ _) rfl (by simp[Builtin.firstCells]) hsr hk (by omega) (by simp_all);simp only[gn,zV]at k1 k3 k4;exact⟨_,_,_,k1,k3,k4,k5,by show h.n<=h.n+1;omega⟩
     simp_all
    ·
     rename_i xs;split at he
     ·rename_i hsm;simp at hsm;have:=kI he;subst this;have hxf:=mP hsm.2;rcases kj (xs:=xs) hr hs rfl with⟨h1,_⟩|⟨ad,cap',olds,sz,h1,h2,h3,h4,h5⟩
      ·subst h1;cases hs
      ·subst h1;cases hs with
       | ps hl htt hm hs2 hc=>
        have hcap:=htt rfl;subst hcap;have hsz:xs=[]\/sz=i.size:=by
         cases xs with
         |nil=>simp_all
         |cons y r=>right;rw[<-(h5.elem y (by simp)).1];simp_all
        have hol:olds.length=xs.length*i.size:=by grind
        have hoi:InMem pl M olds.toArray 0 i.size xs:=by grind[o5]
        have hold:(Builtin.firstCells i.size xs.length (.slice (some ad) xs.length xs.length)).run P w.drew=.ok olds.toArray w.drew:=run_firstCells_some w.drew i.size xs.length ad _ _ olds hol (fun j u hj=>by simp_all);obtain⟨cap,w2,pl2,k1,k2,k3,k4,k5,_⟩:=yR (P:=P) (tx:=tx) (ty:=ty) hr ht hi hz hzs hs0 hol hoi rfl hold hsr hk (by omega) hsm.1;refine⟨_,_,_,k1,?_,k4,k5,by show h.n<=h.n+1;omega⟩;omega
     simp_all
    ·
     rename_i id ep off len cap;split at he
     ·rename_i sz' op ep' xs hg;rw[aB,aB]at he;split at he
      ·simp_all
      ·rename_i hc;simp at hc;obtain⟨⟨c1,c2⟩,c3⟩:=hc;subst c1;subst c2;obtain⟨p,c,t',ad,cap',q1,rfl,q3,q4,q5,q6,q7,q8,q9,q10,q11,q12,q13,q14,q15,q16,q17⟩:=ny hr hs hg;split at he
       ·rename_i k;have hcap:=q12 k rfl;subst hcap;rw[ba]at he;split at he
        ·rename_i hroom;simp at hroom;rw[ba]at he;split at he
         ·rename_i hin;simp at hin;simp at he;subst he;obtain⟨w2,k1,k2,k3,k4⟩:=LH (P:=P) (tx:=tx) (ty:=ty) hr ht hi hg q1 q3 q4 q5 q6 q7 q8 q9 q10 q11 q12 q13 q14 q16 q17 hsr hk (by omega) hroom hin;exact⟨_,_,_,k1,k2,k3,k4,af _⟩
         simp_all
        ·rename_i hroom;simp at hroom;have:=kI he;subst this;rcases kj (xs:=(xs.drop off).take len) hr hs (by grind[lW,aB])with⟨h1,_⟩|⟨ad2,cap2,olds,sz,h1,h2,h3,h4,h5⟩
         ·simp_all
         ·have hlen2:((xs.drop off).take len).length=len:=by grind
          simp at h1;obtain⟨rfl,_,rfl⟩:=h1;have hsz:(xs.drop off).take len=[]\/sz=i.size:=by
           cases hxs:(xs.drop off).take len with
           |nil=>grind
           |cons y r=>
            right;have hmem:y∈(xs.drop off).take len:=by grind
            grind[cases InMem]
          have hol:olds.length=((xs.drop off).take len).length *i.size:=by grind
          have hoi:InMem pl M olds.toArray 0 i.size ((xs.drop off).take len):=by grind[o5]
          have hold:(Builtin.firstCells i.size len (.slice (some ad) len cap')).run P w.drew=.ok olds.toArray w.drew:=run_firstCells_some w.drew i.size len ad _ _ olds (by grind) (fun j u hj=>by grind[World.cell?_drew]);obtain⟨cap,w2,pl2,k1,k2,k3,k4,k5,_⟩:=yR (P:=P) (tx:=tx) (ty:=ty) hr ht hi hz hzs hs0 hol hoi hlen2 hold hsr hk (by omega) c3;refine⟨_,_,_,k1,?_,k4,k5,by show h.n<=h.n+1;omega⟩;omega
       ·rw[ba]at he;split at he
        ·rename_i hin;simp at hin;simp at he;subst he;have:=q16 rfl;obtain⟨w2,k1,k2,k3,k4⟩:=LH (P:=P) (tx:=tx) (ty:=ty) hr ht hi hg q1 q3 q4 q5 q6 q7 q8 q9 q10 q11 q12 q13 q14 q16 q17 hsr hk (by omega) (by omega) hin;exact⟨_,_,_,k1,k2,k3,k4,af _⟩
        ·split at he
         ·simp at he;subst he;obtain⟨cv,w2,pl2,k1,k2,k3,k4⟩:=XK (P:=P) (tx:=tx) (ty:=ty) hr ht hi hz hzs hg q1 q3 q4 q5 q6 q7 q8 q10 q11 (by simpa using q13) (by simp_all) (by omega) hsr hk (by omega) c3;exact⟨_,_,_,k1,k2,k3,k4,af _⟩
         simp_all
     simp_all
    simp_all
theorem Rq(hr:cN pl M h w){t tn e:TypeId}{ty:TypeId}{i:TypeInfo}{zv:Value}{z:AV}(ht:P.underlying t=some (.slice e))(htn:P.underlying tn=some (.int .i64))(hi:P.info? e=some i)(hz:i.zero=some zv)(hzo:ofValue zv=some z)
  {s:AV}{k:Nat}{cs:Value}(hs:VRel pl M s cs){r:AV×AHeap}(he:MZ i.size i.bytes z h s k=some r):
  ∃cv w2 pl',(Builtin.append_ #[t,tn] ty #[cs,.int .i64 k]).run P w=.ok cv w2/\VRel pl' M r.1 cv/\cN pl' M r.2 w2/\dQ h pl M w r.2 pl' M w2/\h.n<=r.2.n:=by
 unfold MZ at he;split at he
 ·rename_i id ep off len c0;split at he
  ·rename_i sz' op ep' xs hg;split at he
   ·rename_i hc;rw[aB,aB,ba]at hc;simp only[bZ,decide_eq_true_eq]at hc;obtain⟨⟨⟨⟨⟨⟨c1,c2⟩,c3⟩,c4⟩,c5⟩,c6⟩,c7⟩:=hc;subst c1;subst c2;have c6:c0<len+k:=v8 c6;obtain⟨s1,s2⟩:=j4 c3;obtain⟨s3,s4⟩:=j4 c4;have:=kI he;subst this;obtain⟨p,c,t',ad,cap',q1,rfl,q3,q4,q5,q6,q7,q8,q9,q10,q11,q12,q13,q14,q15,q16,q17⟩:=ny hr hs hg;have hcap:=q12 c0 rfl;subst hcap;rcases kj (xs:=(xs.drop off).take len) hr hs (by grind[lW,aB])with⟨h1,_⟩|⟨ad2,cap2,olds,sz,h1,h2,h3,h4,h5⟩
    ·simp_all
    ·have hlen2:((xs.drop off).take len).length=len:=by grind
     simp at h1;obtain⟨rfl,_,rfl⟩:=h1;have hsz:(xs.drop off).take len=[]\/sz=i.size:=by
      cases hxs:(xs.drop off).take len with
      |nil=>grind
      |cons y r=>
       right;have hmem:y∈(xs.drop off).take len:=by grind
       grind[cases InMem]
     have hol:olds.length=((xs.drop off).take len).length *i.size:=by grind
     have hoi:InMem pl M olds.toArray 0 i.size ((xs.drop off).take len):=by grind[o5]
     have hold:(Builtin.firstCells i.size len (.slice (some ad) len cap')).run P w.drew=.ok olds.toArray w.drew:=run_firstCells_some w.drew i.size len ad _ _ olds (by grind) (fun j u hj=>by grind[World.cell?_drew]);have hzr:=dn (pl:=pl) (M:=M) hzo;have hzf:=mP c7 z (by simp);have hzsz:zv.cells.size=i.size:=by rw[<-hzr.cells.len];omega
     have hin:=ft hzr hzf.2 k hzf.1 q8;have hzl:(Builtin.zeroCells zv.cells k).toList.toArray=(Array.range (k*i.size)).map (zv.cells[· %zv.cells.size]!):=by grind[Builtin.zeroCells]
     have hnl:(Builtin.zeroCells zv.cells k).toList.length=(List.replicate k z).length *i.size:=by grind[Builtin.zeroCells]
     have hrun:=Lib.run_append_grow_zeros (P:=P) w t tn ty e i zv .i64 .i64 ht htn hi hz (some ad) len cap' olds hold k (by omega) q8 (by omega) (by omega) (by omega) (growslice_fits (by omega) (by omega));have hge:=grownCap_ge w (len+k) cap' e;have hin2:=kO (news:=(Builtin.zeroCells zv.cells k).toList) hoi (by grind) hol hnl (Builtin.zeroCells zv.cells (grownCap w (len+k) cap' e-(len+k)));have hlen:((xs.drop off).take len++List.replicate k z).length=len+k:=by grind
     have hce:(olds++(Builtin.zeroCells zv.cells k).toList).toArray++Builtin.zeroCells zv.cells (grownCap w (len+k) cap' e-(len+k))=olds.toArray++Builtin.zeroCells zv.cells k++Builtin.zeroCells zv.cells (grownCap w (len+k) cap' e-(len+k)):=by grind
     rw[hce]at hin2;have hcs:(olds.toArray++Builtin.zeroCells zv.cells k++Builtin.zeroCells zv.cells (grownCap w (len+k) cap' e-(len+k))).size=grownCap w (len+k) cap' e*i.size:=by
      simp only[F6,Cs,hol,hlen2,size_zeroCells,hzsz,<-kW];grind
     have hwd:(w.drew.alloc (.cells (olds.toArray++Builtin.zeroCells zv.cells k++Builtin.zeroCells zv.cells (grownCap w (len+k) cap' e-(len+k))) e)).heap=w.heap.push (.cells (olds.toArray++Builtin.zeroCells zv.cells k++Builtin.zeroCells zv.cells (grownCap w (len+k) cap' e-(len+k))) e):=rfl;obtain⟨pl',k1,k2,k3⟩:=wi (zs:=[]) (z:=zv) hr q8 hwd ⟨rfl,rfl,rfl,n9 _⟩ hcs (by omega) hin2;refine⟨_,_,pl',hrun,?_,k2,k3,by show h.n<=h.n+1;omega⟩;grind
   simp_all
  simp_all
 ·split at he
  ·rename_i hc;simp only[bZ]at hc;obtain⟨⟨⟨c4,c5⟩,c6⟩,c7⟩:=hc;have c5:1<=k:=v8 c5;have q8:0<i.size:=v8 c6;obtain⟨s3,s4⟩:=j4 c4;have:=kI he;subst this;cases hs
   have hzr:=dn (pl:=pl) (M:=M) hzo;have hzf:=mP c7 z (by simp);have hzsz:zv.cells.size=i.size:=by rw[<-hzr.cells.len];omega
   have hin:=ft hzr hzf.2 k hzf.1 q8;have hzl:(Builtin.zeroCells zv.cells k).toList.toArray=(Array.range (k*i.size)).map (zv.cells[· %zv.cells.size]!):=by grind[Builtin.zeroCells]
   have hnl:(Builtin.zeroCells zv.cells k).toList.length=(List.replicate k z).length *i.size:=by simp_all
   have hrun:=Lib.run_append_grow_zeros (P:=P) w t tn ty e i zv .i64 .i64 ht htn hi hz none 0 0 [] (by simp[Builtin.firstCells]) k (by omega) q8 (by omega) (by omega) (by omega) (growslice_fits (by omega) (by grind));have hge:=grownCap_ge w (0+k) 0 e;have hin2:=kO (olds:=[]) (xs:=[]) (news:=(Builtin.zeroCells zv.cells k).toList) (o5 _ _) (by rw[hzl];exact hin) (by simp) hnl (Builtin.zeroCells zv.cells (grownCap w (0+k) 0 e-(0+k)));have hlen:(List.replicate k z).length=k:=qM;have hce:([]++(Builtin.zeroCells zv.cells k).toList).toArray++Builtin.zeroCells zv.cells (grownCap w (0+k) 0 e-(0+k))=([]:List Value).toArray++Builtin.zeroCells zv.cells k++Builtin.zeroCells zv.cells (grownCap w (0+k) 0 e-(0+k)):=by
    apply Array.ext';simp
   rw[hce]at hin2;have hcs:(([]:List Value).toArray++Builtin.zeroCells zv.cells k++Builtin.zeroCells zv.cells (grownCap w (0+k) 0 e-(0+k))).size=grownCap w (0+k) 0 e*i.size:=by
    simp only[F6,Cs,iW,size_zeroCells,hzsz,gn,<-kW];simp_all
   have hwd:(w.drew.alloc (.cells (([]:List Value).toArray++Builtin.zeroCells zv.cells k++Builtin.zeroCells zv.cells (grownCap w (0+k) 0 e-(0+k))) e)).heap=w.heap.push (.cells (([]:List Value).toArray++Builtin.zeroCells zv.cells k++Builtin.zeroCells zv.cells (grownCap w (0+k) 0 e-(0+k))) e):=rfl;obtain⟨pl',k1,k2,k3⟩:=wi (zs:=[]) (z:=zv) hr q8 hwd ⟨rfl,rfl,rfl,n9 _⟩ hcs (by simp_all) hin2;refine⟨_,_,pl',hrun,?_,k2,k3,by show h.n<=h.n+1;omega⟩;simp_all
  simp_all
 simp_all
end
section
variable{P:Program}{G:fy}{pl:Pl}{M:dT}{h h':AHeap}{w w':World}{v:AV}{A:Fr}{a:Act}
theorem F9(hr:cN pl M h w){id off sz:Nat}{op:Bool}{ep:Nat}{xs ys:List AV}{p:Place}{c:Array Value}{t':TypeId}{news:List Value}
  (hg:h.get id=some (.row sz op ep xs))(q1:pl id=some p)(q3:w.heap[p.blk]?=some (.cells c t' (0,0)))(q4:p.ep=ep)(q5:p.sz=sz)(q6:p.n=xs.length)(q7:p.tot=c.size)(q8:0<sz)
  (q9:op=false->c.size=xs.length*sz)(q10:InMem pl M c 0 sz xs)(hn:InMem pl M news.toArray 0 sz ys)(hnl:news.length=ys.length*sz)(h1:∀u∈news,u.oneCell'=true)(hin:off+ys.length<=xs.length):
  (storeCells ⟨p.blk,off*sz,none⟩ news).run P w=.ok () (w.setCells p.blk (off*sz) news)/\
   cN pl M (h.put id (.row sz op ep (cQ xs off ys))) (w.setCells p.blk (off*sz) news)/\dQ h pl M w (h.put id (.row sz op ep (cQ xs off ys))) pl M (w.setCells p.blk (off*sz) news):=by
 have hfit0:(off+ys.length)*sz<=c.size:=by
  have:=q10.fit;have h9:(off+ys.length)*sz<=xs.length*sz:=fV _ hin;omega
 obtain⟨hl,hmem⟩:=q10.over hn hnl (k:=off) (ys:=cQ xs off ys) hfit0 (by grind[kh,cases InMem]) (fun i x hi=>xJ hin hi);grind[qc,cN.store,kh]
theorem KY(l:List UInt8):eX 1 (l.map fun b=>AV.int .u8 (Int.ofNat b.toNat))=true:=by
 induction l with
 |nil=>rfl
 |cons b r ih=>simp_all[eX,AV.cells,fh]
theorem SN (hr:cN pl M h w){t e ty:TypeId}{s:Nat}(ht:P.underlying t=some (.slice e))(hsz:dZ P e=some s){d x:AV}{cd cx:Value}(hd:VRel pl M d cd)(hx:VRel pl M x cx){r:AV×AHeap}
  (he:vB s h (some d) (some x)=some r){ts:Array TypeId}(hts:ts[0]?=some t):
  ∃cv w2,(Builtin.copy_ ts ty #[cd,cx]).run P w=.ok cv w2/\VRel pl M r.1 cv/\cN pl M r.2 w2/\dQ h pl M w r.2 pl M w2/\h.n<=r.2.n:=by
 simp only[vB]at he;cases hsrc:lU h x with
 |none=>simp_all
 | some ys=>
  rw[hsrc]at he;simp only[Nv]at he;split at he
  ·rename_i id ep off len cap;split at he
   ·rename_i sz' op ep' xs hg;rw[aB,aB]at he;split at he
    ·rename_i hc;simp at hc he;obtain⟨⟨c1,c2⟩,c3⟩:=hc;subst c1;subst c2;subst he;obtain⟨p,c,t',ad,cap',q1,rfl,q3,q4,q5,q6,q7,q8,q9,q10,q11,q12,q13,q14,q15,q16,q17⟩:=ny hr hd hg;by_cases hne:ys.take len=[]
     ·have hmin:min ys.length len=0:=by
       have h9:(ys.take len).length=0:=by simp_all
       grind
      have hw:cQ xs off (ys.take len)=xs:=by rw[hne];simp[cQ]
      have hl0:(∀w',(Builtin.lenOf cx).run P w'=.ok ys.length w')/\(∀w',(Builtin.firstCells s 0 cx).run P w'=.ok #[] w'):=by
       unfold lU at hsrc;split at hsrc
       ·rename_i l;simp at hsrc;subst hsrc;cases hx
        exact⟨fun w'=>by simp[Builtin.lenOf];rfl,fun w'=>by simp[Builtin.firstCells]⟩
       ·rcases kj hr hx hsrc with⟨h1,h2⟩|⟨ad2,cap2,news,sz,h1,_⟩
        ·subst h1;subst h2;exact⟨fun w'=>rfl,fun w'=>by simp[Builtin.firstCells]⟩
        ·subst h1;exact⟨fun w'=>rfl,fun w'=>by simp[Builtin.firstCells,loadCells,loadCellsFrom]⟩
      refine⟨.int .i64 (0:Int),w,?_,?_,?_,?_,af _⟩
      ·have hm0:Nat.min ys.length len=0:=hmin;simp[Builtin.copy_,hts,run_underlying ht,hl0.1,hm0,cR hsz,hl0.2,storeCells,goInt]
      ·have:(Int.ofNat (min ys.length len))=0:=by simp_all
       show VRel pl M (.int .i64 (Int.ofNat (min ys.length len))) _
       rw[this];exact .int _ _
      ·show cN pl M (h.put id _) w
       rw[hw];exact(hr.samePut q1 hg).1
      ·show dQ h pl M w (h.put id _) pl M w
       rw[hw];exact(hr.samePut q1 hg).2
     ·have hys:ys≠[]:=by simp_all
      have hlen0:len≠0:=by simp_all
      have hfits:∃news,SrcRel P pl M w cx ys s news:=by
       unfold lU at hsrc;cases ys with
       |nil=>simp_all
       | cons y0 yr=>
        have hy0:y0.cells.length=s:=by
         cases len with
         |zero=>omega
         |succ n=>grind[mP]
        split at hsrc
        ·rename_i l;refine zB (h:=h) hr hx (by grind[lU]) (by simp) ?_;simp at hsrc;have hs1:s=1:=by
          rw[<-hy0];cases l with
          |nil=>simp_all
          |cons b r=>simp at hsrc;rw[<-hsrc.1];rfl
         grind[KY]
        ·refine zB (h:=h) hr hx (by grind[lU]) (by simp) ?_;rcases kj hr hx hsrc with⟨_,h2⟩|⟨ad2,cap2,news,sz,h1,h2,h3,h4,h5⟩
         ·simp_all
         ·have hs2:sz=s:=by grind[cases InMem]
          subst hs2;have:∀l:List AV,(∀x,x∈l->x.cells.length=sz/\Sc x)->eX sz l=true:=by
           intro l;induction l with
           |nil=>intro _;rfl
           |cons b r ih=>
            intro hl;have hb:=hl b (by simp);have hfb:fh b=true:=by cases b<;>first|rfl|(have:=hb.2 _ (by simp[AV.cells];rfl);grind[dW])
            grind[eX,aB]
          exact this _ h5.elem
      obtain⟨news,hsr⟩:=hfits;have had:ad=⟨p.blk,off*s,none⟩:=by grind
      have hn:Nat.min ys.length len=(ys.take len).length:=by grind
      have hle:(ys.take len).length<=ys.length:=by grind
      have hcells:=hsr.cells (ys.take len).length hle w rfl;have hnl:(news.take ((ys.take len).length *s)).length=(ys.take len).length *s:=by
       rw[List.length_take,hsr.newsLen];simp_all
      have hin2:InMem pl M (news.take ((ys.take len).length *s)).toArray 0 s (ys.take len):=by
       refine⟨by simp_all,fun x hx=>hsr.mem.elem x (ue hx),fun i x j y hi hj=>?_⟩;have hil:=(gZ.1 hi).1;have hil2:i<len:=by grind
       rw[Lz hil2]at hi;have hjj:=(gZ.1 hj).1;rw[(hsr.mem.elem x (bH hi)).1]at hjj;have h5:(i+1)*s<=(ys.take len).length *s:=fV _ hil;rw[kW]at h5;have h6:=hsr.mem.cell i x j y hi hj;rw[iJ,oE]at h6 ⊢;grind
      obtain⟨k1,k2,k3⟩:=F9 (P:=P) (off:=off) hr hg q1 q3 q4 q5 q6 q7 q8 q9 q10 hin2 hnl (fun u hu=>hsr.one u (ue hu)) (by grind);rw[<-had]at k1;refine⟨.int .i64 ((ys.take len).length:Int),_,?_,?_,k2,k3,af _⟩
      ·clear hin2 hnl k2 k3 hle;generalize (ys.take len).length=n at hn hcells k1;simp[Builtin.copy_,hts,run_underlying ht,hsr.len,hn,cR hsz,hcells,k1,goInt]
      ·have:(Int.ofNat (min ys.length len))=((ys.take len).length:Int):=by simp_all
       show VRel pl M (.int .i64 (Int.ofNat (min ys.length len))) _
       rw[this];exact .int _ _
    simp_all
   simp_all
  simp_all
theorem O6(hr:cN pl M h w){t e ty:TypeId}{s:Nat}{z:AV}(ht:P.underlying t=some (.slice e))(hz:iS P e=some z){x:AV}{cx:Value}(hx:VRel pl M x cx){r:AV×AHeap}
  (he:wM s z h (some x)=some r){ts:Array TypeId}(hts:ts[0]?=some t):
  ∃cv w2,(Builtin.clear_ ts ty #[cx]).run P w=.ok cv w2/\VRel pl M r.1 cv/\cN pl M r.2 w2/\dQ h pl M w r.2 pl M w2/\h.n<=r.2.n:=by
 unfold wM at he;split at he
 ·rename_i id ep off len cap e0;simp at e0;subst e0;split at he
  ·rename_i sz' op ep' xs hg;rw[aB,aB]at he;split at he
   ·rename_i hc;simp at hc he;obtain⟨⟨c1,c2⟩,c3⟩:=hc;subst c1;subst c2;subst he;obtain⟨p,c,t',ad,cap',q1,rfl,q3,q4,q5,q6,q7,q8,q9,q10,q11,q12,q13,q14,q15,q16,q17⟩:=ny hr hx hg;obtain⟨zv,hz1,hz2⟩:=mJ hz;have hzr:=dn (pl:=pl) (M:=M) hz2;have hzf:=mP c3 z (by simp);have hzc:=hzr.cells;have hzsz:zv.cells.size=s:=by rw[<-hzc.len];omega
    by_cases h0:len=0
    ·subst h0;have hw:cQ xs off (List.replicate 0 z)=xs:=by simp[cQ]
     refine⟨.tuple #[],w,by simp_all[Builtin.clear_,run_underlying],.tuple rfl (fun j y h=>by simp_all),?_,?_,af _⟩
     ·show cN pl M (h.put id _) w
      rw[hw];exact(hr.samePut q1 hg).1
     ·show dQ h pl M w (h.put id _) pl M w
      rw[hw];exact(hr.samePut q1 hg).2
    ·have had:ad=⟨p.blk,off*s,none⟩:=by grind
     have hin:=ft hzr hzf.2 len hzf.1 q8;have hzl:(Builtin.zeroCells zv.cells len).toList.toArray=(Array.range (len*s)).map (zv.cells[· %zv.cells.size]!):=by grind[Builtin.zeroCells]
     have hnl:(Builtin.zeroCells zv.cells len).toList.length=(List.replicate len z).length *s:=by simp_all
     obtain⟨k1,k2,k3⟩:=F9 (P:=P) (off:=off) (ys:=List.replicate len z) (news:=(Builtin.zeroCells zv.cells len).toList) hr hg q1 q3 q4 q5 q6 q7 q8 q9 q10 (by grind) hnl (by
      have hs:SrcRel P pl M w (.nilIface) (List.replicate len z) s (Builtin.zeroCells zv.cells len).toList->True:=fun _=>trivial
      intro u hu;simp only[Builtin.zeroCells,Array.toList_map,gO]at hu;obtain⟨k,_,rfl⟩:=hu;have hmod:k%zv.cells.size<zv.cells.size:=Nat.mod_lt _ (by omega);have:zv.cells[k%zv.cells.size]! =zv.cells[k%zv.cells.size]:=by grind
      rw[this];exact hzc.one (hzr.sc hzf.2) _ (by simp)) (by simp_all)
     rw[<-had]at k1;refine⟨.tuple #[],_,?_,.tuple rfl (fun j y h=>by simp_all),k2,k3,af _⟩;simp_all[Builtin.clear_,run_underlying]
   simp_all
  simp_all
 simp_all
end
section
variable{P:Program}{G:fy}{pl:Pl}{M:dT}{h h':AHeap}{w w':World}{v:AV}{A:Fr}{a:Act}
theorem ll{o:Option (AV×AHeap)}{r:ARes}(e:fG o=some r):∃p,o=some p/\r=.val p.1 p.2:=by
 cases o with
 |none=>grind[fG]
 |some p=>obtain⟨v,h⟩:=p;simp[fG]at e;simp_all
theorem bind_some{α β:Type}{o:Option α}{f:α->Option β}{b:β}(e:o.bind f=some b):∃a,o=some a/\f a=some b:=by
 cases o with
 |none=>simp_all
 |some a=>simp_all
theorem fU{b:Builtin}{ts:Array TypeId}{args:Array Operand}{dst:Option Tmp}{ty:TypeId}{pos:String}{after:Array Edge}{guard:Option (Nat×Bool)}{s:Sem Value}{cv:Value}{pl':Pl}{M':dT}
  (hb:∀cs,builtin b ts ty cs (args.map a.eval)=(do pure (.value (<-s))))(hrun:s.run P w=.ok cv w')(hv:VRel pl' M' v cv)(hr:cN pl' M' h' w')(hs:dQ h pl M w h' pl' M' w')(hn:h.n<=h'.n):
  qG pl M h w ((execOp a.eval ⟨dst,.call ⟨.builtin b,args,ts⟩,ty,pos,after,guard⟩).run P w) v h':=by
 refine⟨pl',M',cv,w',.value cv,?_,.inl rfl,hv,hr,hs,hn⟩;simp_all[execOp,resolve,invoke]
theorem tq{args:Array Operand}{x:Operand}(h:args.toList=[x]):args=#[x]:=by grind
theorem zg{args:Array Operand}{x y:Operand}(h:args.toList=[x,y]):args=#[x,y]:=by grind
def mm:Bool->Value->Value->Sem Value
 |true=>Builtin.max2
 |false=>Builtin.min2
theorem EG(mx:Bool){k:IntKind}:∀(l:List AV)(a0:Int)(cs:List Value),VRels pl M l cs.toArray->Oa mx k a0 l=some v->∃r,v=.int k r/\∀w:World,(cs.foldlM (mm mx) (.int k a0)).run P w=.ok (.int k r) w
 |[],a0,cs,hc,e=>by
  simp[Oa]at e;have:cs=[]:=qk (by grind[cases VRels]);simp_all
 | x::r,a0,cs,hc,e=>by
  cases x with
  | int kb b=>
   simp only[Oa,DU,Oy]at e;cases cs with
   |nil=>grind[cases VRels]
   | cons c cr=>
    have h0:=hc.at_ 0 _ rfl;simp[Array.getD]at h0;cases h0
    obtain⟨rr,h1,h2⟩:=EG mx r _ cr ⟨by grind[cases VRels],fun j y hj=>by
     have:=hc.at_ (j+1) y (by simp_all);simp_all⟩ e
    refine⟨rr,h1,fun w=>?_⟩;rw[List.foldlM_cons];cases mx
    ·simp only[mm,Sem.run_bind,Builtin.min2,Sem.run_pure,Result.andThen_ok];grind[wB,mm]
    ·simp only[mm,Sem.run_bind,Builtin.max2,Sem.run_pure,Result.andThen_ok];grind[wB,mm]
  |_=>simp[Oa]at e
theorem JN(b:Builtin)(args:Array Operand)(ts:Array TypeId):ja P G (.call ⟨.builtin b,args,ts⟩):=by
 intro pl M A h v h' a w dst ty pos after guard hg hr hf he;simp only[fC]at he;unfold iG at he;split at he
 ·
  rename_i x hargs;have hargs:=tq hargs;subst hargs;split at he
  ·rename_i ht;obtain⟨t,ht0,ht1⟩:=bind_some ht;obtain⟨u,e1,e2⟩:=bI he;simp at e2;obtain⟨rfl,rfl⟩:=e2;cases hx:(cE G x).run A with
   |none=>grind[J1]
   |some xv=>
    have hxv:=bq hg hf hx;rw[hx]at e1;cases xv<;>simp[J1]at e1
    subst e1;generalize hq:a.eval x=cx at hxv;cases hxv
    rename_i l;refine fU (s:=Builtin.len_ ts ty #[.string ⟨⟨l⟩⟩]) (cv:=.int .i64 (l.length:Int)) (fun cs=>by grind[builtin]) ?_ (.int _ _) hr (dQ.refl _ _ _ _) (af _);simp[Builtin.len_,ht0,run_underlying ht1,goInt];rfl
  ·rename_i e' ht;obtain⟨t,ht0,ht1⟩:=bind_some ht;obtain⟨u,e1,e2⟩:=bI he;simp at e2;obtain⟨rfl,rfl⟩:=e2;cases hx:(cE G x).run A with
   |none=>grind[Rj]
   | some xv=>
    have hxv:=bq hg hf hx;rw[hx]at e1;have key:∃ad n c,a.eval x=.slice ad n c/\v=.int .i64 (Int.ofNat n):=by
     generalize a.eval x=cx at hxv;cases xv<;>simp[Rj]at e1
     case ls xs=>
      subst e1;cases hxv with
      |lsn=>grind
      |lsp h _=>cases h;grind
     case sl0 id ep n c=>
      subst e1;cases hxv with
      |sl0n h=>cases h with|lsn=>grind|lsp h _=>cases h;grind
      |sl0s h=>cases h;grind
     all_goals (subst e1;cases hxv;exact⟨_,_,_,rfl,rfl⟩)
    obtain⟨ad,n,c,hq,rfl⟩:=key;refine fU (s:=Builtin.len_ ts ty #[.slice ad n c]) (cv:=.int .i64 (Int.ofNat n)) (fun cs=>by grind[builtin]) ?_ (.int _ _) hr (dQ.refl _ _ _ _) (af _);simp_all[Builtin.len_,run_underlying,goInt]
  ·rename_i k' e' ht;obtain⟨t,ht0,ht1⟩:=bind_some ht;obtain⟨u,e1,e2⟩:=bI he;simp at e2;obtain⟨rfl,rfl⟩:=e2;cases hx:(cE G x).run A with
   |none=>grind[J2]
   | some xv=>
    have hxv:=bq hg hf hx;rw[hx]at e1;unfold J2 at e1;split at e1
    ·rename_i q;simp at q;subst q;simp at e1;subst e1;generalize hq:a.eval x=cx at hxv;cases hxv
     refine fU (s:=Builtin.len_ ts ty #[.map none]) (cv:=.int .i64 0) (fun cs=>by grind[builtin]) ?_ (.int _ _) hr (dQ.refl _ _ _ _) (af _);simp_all[Builtin.len_,run_underlying,goInt]
    ·rename_i id q;simp at q;subst q;split at e1
     ·rename_i es clock hgo;simp at e1;subst e1;generalize hq:a.eval x=cx at hxv;cases hxv with
      | map hp ha=>
       rename_i r p;have ho:=hr.obj id p _ hp hgo;cases hb:w.heap[p.blk]? with
       |none=>grind[bm]
       |some ob=>
        rw[hb]at ho;cases ob<;>simp only[bm]at ho
        rename_i entries clock';obtain⟨h1,h2,h3,h4⟩:=ho;have hrb:=ha h1;subst hrb;refine fU (s:=Builtin.len_ ts ty #[.map (some p.blk)]) (cv:=.int .i64 (Int.ofNat es.length)) (fun cs=>by grind[builtin]) ?_ (.int _ _) hr (dQ.refl _ _ _ _) (af _);simp_all[Builtin.len_,run_underlying,goInt,getObj,Sem.run]
     simp_all
    simp_all
  grind[av]
 ·
  rename_i x hargs;have hargs:=tq hargs;subst hargs;split at he
  ·rename_i e' ht;obtain⟨t,ht0,ht1⟩:=bind_some ht;obtain⟨u,e1,e2⟩:=bI he;simp at e2;obtain⟨rfl,rfl⟩:=e2;cases hx:(cE G x).run A with
   |none=>grind[YE]
   | some xv=>
    have hxv:=bq hg hf hx;rw[hx]at e1;have key:∃ad n c,a.eval x=.slice ad n c/\v=.int .i64 (Int.ofNat c):=by
     generalize a.eval x=cx at hxv;unfold YE at e1;split at e1<;>simp at e1<;>subst e1
     ·rename_i q;simp at q;subst q;cases hxv;grind
     ·rename_i q;simp at q;subst q;cases hxv with
      |ps hl ht hm hs hc=>grind
     ·rename_i q;simp at q;subst q;cases hxv with
      |slice hp hle hl hk ha=>grind
    obtain⟨ad,n,c,hq,rfl⟩:=key;refine fU (s:=Builtin.cap_ ts ty #[.slice ad n c]) (cv:=.int .i64 (Int.ofNat c)) (fun cs=>by grind[builtin]) ?_ (.int _ _) hr (dQ.refl _ _ _ _) (af _);simp_all[Builtin.cap_,run_underlying,goInt]
  grind[av]
 ·
  rename_i s x hargs;have hargs:=zg hargs;subst hargs;split at he
  ·rename_i e tx ht htx;obtain⟨t,ht0,ht1⟩:=bind_some ht;obtain⟨t2,ht2,ht3⟩:=bind_some htx;have key:∀i:TypeInfo,P.info? e=some i->((∃e',P.underlying t2=some (.slice e'))\/P.underlying t2=some .string)->
     (match i.size,iS P e with
      |sz+1,some z=>match Nat.beq z.cells.length (sz+1)with
       |true=>(⟨fun A h=>fG (du (sz+1) i.bytes h ((cE G s).run A) ((cE G x).run A))⟩:ROp)
       |false=>eW
      |_,_=>eW).run A h=some (.val v h')->qG pl M h w ((execOp a.eval ⟨dst,.call ⟨.builtin .append,#[s,x],ts⟩,ty,pos,after,guard⟩).run P w) v h':=by
    intro i hi hk he;split at he
    ·rename_i sz z hsz hz;rw[aB]at he;split at he
     ·rename_i hzl;simp at hzl;obtain⟨p,e1,e2⟩:=ll he;simp at e2;obtain⟨rfl,rfl⟩:=e2;cases hs:(cE G s).run A with
      |none=>grind[du]
      | some sv=>
       cases hx:(cE G x).run A with
       |none=>grind[du]
       |some xv=>
        rw[hs,hx]at e1;simp only[du]at e1;have hsz:i.size=sz+1:=hsz;rw[<-hsz]at e1 hzl;obtain⟨i2,zv,hz1,hz2,hz3⟩:=nK hz;rw[hi]at hz1;simp at hz1;subst hz1;have hzc:=(dn (pl:=pl) (M:=M) hz3).cells.len;obtain⟨cv,w2,pl2,k1,k2,k3,k4,k5⟩:=K3 (P:=P) (ty:=ty) hr (jj ht1) hi hz2 (by omega) (by omega) hk (bq hg hf hs) (bq hg hf hx) e1;refine fU (s:=Builtin.append_ ts ty #[a.eval s,a.eval x]) (fun cs=>by simp[builtin]) (by grind[vN]) k2 k3 k4 k5
     grind[av]
    grind[av]
   cases hi:P.info? e with
   |none=>rw[hi]at he;cases tx<;>first|exact(av he).elim |grind[av]
   | some i=>
    rw[hi]at he;cases tx<;>try exact(av he).elim
    case int kd=>
     cases kd<;>try exact(av he).elim
     simp only[]at he;split at he
     ·rename_i sz z hsz hz;rw[aB]at he;split at he
      ·rename_i hzl;simp at hzl;obtain⟨p,e1,e2⟩:=ll he;simp at e2;obtain⟨rfl,rfl⟩:=e2;cases hs:(cE G s).run A with
       |none=>grind[Dj]
       | some sv=>
        cases hx:(cE G x).run A with
        |none=>grind[Dj]
        | some xv=>
         rw[hs,hx]at e1;have hxr:=bq hg hf hx;have hsr:=bq hg hf hs;unfold Dj at e1;split at e1
         ·rename_i s0 k0 q1 q2;cases q1;cases q2
          have hsz:i.size=sz+1:=hsz;rw[<-hsz]at e1;obtain⟨i2,zv,hz1,hz2,hz3⟩:=nK hz;rw[hi]at hz1;simp at hz1;subst hz1;generalize hq:a.eval x=cx at hxr;cases hxr
          obtain⟨cv,w2,pl2,k1,k2,k3,k4,k5⟩:=Rq (P:=P) (ty:=ty) hr (jj ht1) ht3 hi hz2 hz3 hsr e1;refine fU (s:=Builtin.append_ ts ty #[a.eval s,a.eval x]) (fun cs=>by simp[builtin]) (by grind[vN]) k2 k3 k4 k5
         ·grind
      grind[av]
     grind[av]
    all_goals grind
  grind[av]
 ·
  rename_i d s hargs;have hargs:=zg hargs;subst hargs;split at he
  ·rename_i e ht;obtain⟨t,ht0,ht1⟩:=bind_some ht;split at he
   ·rename_i n hsz;obtain⟨p,e1,e2⟩:=ll he;simp at e2;obtain⟨rfl,rfl⟩:=e2;cases hd:(cE G d).run A with
    |none=>grind[vB]
    | some dv=>
     cases hs:(cE G s).run A with
     |none=>grind[vB]
     |some sv=>
      rw[hd,hs]at e1;obtain⟨cv,w2,k1,k2,k3,k4,k5⟩:=SN (P:=P) (ty:=ty) hr (jj ht1) hsz (bq hg hf hd) (bq hg hf hs) e1 ht0;exact fU (s:=Builtin.copy_ ts ty #[a.eval d,a.eval s]) (fun cs=>by simp[builtin]) k1 k2 k3 k4 k5
   grind[av]
  grind[av]
 ·
  rename_i x hargs;have hargs:=tq hargs;subst hargs;split at he
  ·rename_i e ht;obtain⟨t,ht0,ht1⟩:=bind_some ht;split at he
   ·rename_i n z hsz hz;obtain⟨p,e1,e2⟩:=ll he;simp at e2;obtain⟨rfl,rfl⟩:=e2;cases hx:(cE G x).run A with
    |none=>grind[wM]
    |some xv=>
     rw[hx]at e1;obtain⟨cv,w2,k1,k2,k3,k4,k5⟩:=O6 (P:=P) (ty:=ty) hr (jj ht1) hz (bq hg hf hx) e1 ht0;exact fU (s:=Builtin.clear_ ts ty #[a.eval x]) (fun cs=>by simp[builtin]) k1 k2 k3 k4 k5
   grind[av]
  grind[av]
 ·
  simp only[]at he;split at he
  ·rename_i l hl;obtain⟨u,e1,e2⟩:=bI he;simp at e2;obtain⟨rfl,rfl⟩:=e2;have hvs:=sZ hg hf _ _ hl;unfold U1 at e1;split at e1
   ·rename_i k a0 r;cases hargs:args.toList with
    |nil=>grind[cases VRels]
    | cons x xs=>
     rw[hargs]at hvs;have h0:=hvs.at_ 0 _ rfl;simp[Array.getD]at h0;generalize hq:a.eval x=cx at h0;cases h0
     obtain⟨rr,h1,h2⟩:=EG (P:=P) false r a0 (xs.map a.eval) ⟨by grind[cases VRels],fun j y hj=>by
      have:=hvs.at_ (j+1) y (by simp_all);simpa[iJ]using this⟩ e1
     subst h1;have hm:(args.map a.eval).toList =.int k a0::xs.map a.eval:=by simp_all
     refine fU (s:=Builtin.min_ ts ty (args.map a.eval)) (cv:=.int k rr) (fun cs=>rfl) ?_ (.int _ _) hr (dQ.refl _ _ _ _) (af _);simp only[Builtin.min_,hm];exact h2 w
   simp_all
  simp_all
 ·
  simp only[]at he;split at he
  ·rename_i l hl;obtain⟨u,e1,e2⟩:=bI he;simp at e2;obtain⟨rfl,rfl⟩:=e2;have hvs:=sZ hg hf _ _ hl;unfold U1 at e1;split at e1
   ·rename_i k a0 r;cases hargs:args.toList with
    |nil=>grind[cases VRels]
    | cons x xs=>
     rw[hargs]at hvs;have h0:=hvs.at_ 0 _ rfl;simp[Array.getD]at h0;generalize hq:a.eval x=cx at h0;cases h0
     obtain⟨rr,h1,h2⟩:=EG (P:=P) true r a0 (xs.map a.eval) ⟨by grind[cases VRels],fun j y hj=>by
      have:=hvs.at_ (j+1) y (by simp_all);simpa[iJ]using this⟩ e1
     subst h1;have hm:(args.map a.eval).toList =.int k a0::xs.map a.eval:=by simp_all
     refine fU (s:=Builtin.max_ ts ty (args.map a.eval)) (cv:=.int k rr) (fun cs=>rfl) ?_ (.int _ _) hr (dQ.refl _ _ _ _) (af _);simp only[Builtin.max_,hm];exact h2 w
   simp_all
  simp_all
 grind[av]
end
section
variable{P:Program}{G:fy}{pl:Pl}{M:dT}{h h':AHeap}{w w':World}{v:AV}{A:Fr}{a:Act}
theorem qp(em:Bool){vx:Array Value}:∀(n:Nat)(t:TypeId)(off:Nat)(ls:List (Nat×Nat))(cx:Value)(d sz:Nat)(w:World),
  ej P n t off=some ls->dZ P t=some sz->off+sz<=vx.size->rL P t vx off cx->(Instr.checkKey em (d+n) t cx).run P w=.ok () w
 |0,_,_,_,_,_,_,_,e,_,_,_=>by grind[ej]
 | n+1,t,off,ls,cx,d,sz,w,e,hsz,hlx,hcx=>by
  rcases gu e with⟨fs,sz',hu,hs',hst,hl⟩|⟨dd,k,hu,hs1,hk,rfl⟩
  ·rw [hsz]at hs';simp at hs';subst hs';simp only[rL,ia hu,hsz,zz]at hcx;obtain⟨ex,rfl,hex⟩:=hcx;rw[show d+(n+1)=(d+n)+1 by omega,Instr.checkKey];simp only[Sem.run_bind,run_underlying hu,Result.andThen_ok];rw[<-Array.forIn_toList];generalize fs.toList=fl at hl;clear hu e;induction fl generalizing ls with
   |nil=>simp
   | cons f r ih=>
    obtain⟨hname,s,a1,b1,g1,g2,g3,g4,rfl⟩:=pG hl;have hag:∃ag,c8 P f.type=some ag/\(ag=false->s=1):=by
     cases n with
     |zero=>grind[ej]
     |succ n=>
      rcases gu g2 with⟨fs2,sz2,k1,k2,k3,k4⟩|⟨d2,k2,k3,k4,k5,k6⟩
      all_goals simp_all[ia,oT]
    obtain⟨ag,q1,q2⟩:=hag;obtain⟨cvx,r1,r2⟩:=th (P:=P) (vx:=vx) q1 g1 q2 g4 hex (fun k hk=>by grind) w;simp only[List.forIn_cons,Sem.run_bind,hname,ne_eq,not_false_eq_true,if_true,Result.andThen_ok,r1,qp em n f.type (off+f.offset) a1 cvx d s w g2 g1 (by omega) r2,Sem.run_pure];simp_all
  ·rw[show d+(n+1)=(d+n)+1 by omega,Instr.checkKey];simp only[Sem.run_bind,run_underlying hu,Result.andThen_ok];rcases gX hk with⟨rfl,_⟩|⟨i,rfl,_⟩|⟨rfl,_⟩<;>simp
theorem mN{n:Nat}{t:TypeId}{ag:Bool}{ls:List (Nat×Nat)}(ha:c8 P t=some ag)(e:ej P n t 0=some ls):
  (ag=true/\∃fs,P.underlying t=some (.struct fs))\/(ag=false/\∃d k,P.underlying t=some d/\dZ P t=some 1/\qT d=some k/\ls=[(0,k)]):=by
 cases n with
 |zero=>grind[ej]
 |succ n=>grind[gu,ia,oT]
structure KeyT(P:Program)(kt:TypeId)(ag:Bool)(sz:Nat)(lv:List (Nat×Nat)):Prop where
 ag:c8 P kt=some ag
 sz:dZ P kt=some sz
 lv:ej P 10 kt 0=some lv
theorem pL{kt:TypeId}{ag:Bool}{sz:Nat}{lv:List (Nat×Nat)}(hk:KeyT P kt ag sz lv){k:AV}{ck:Value}(hr:VRel pl M k ck)(e:Hd ag sz k=true)(em:Bool)(w:World):
  (Instr.checkKey em 10000 kt ck).run P w=.ok () w:=by
 rcases mN hk.ag hk.lv with⟨rfl,fs,hu⟩|⟨rfl,d,t,hu,h1,h2,h3⟩
 ·cases k<;>simp[Hd,aB]at e
  cases hr with
  |agg h1 h2 h3=>exact qp em 10 kt 0 lv _ 9990 sz w hk.lv hk.sz (by omega) (mf hu)
 ·rw[show(10000:Nat)=9999+1 from rfl,Instr.checkKey];simp only[Sem.run_bind,run_underlying hu,Result.andThen_ok];rcases gX h2 with⟨rfl,_⟩|⟨i,rfl,_⟩|⟨rfl,_⟩<;>simp
theorem AH{ag:Bool}{sz:Nat}{lv:List (Nat×Nat)}{x y:AV}{b:Bool}(e:rg ag sz lv x y=some b):
  (∃as bs,ag=true/\x=.agg as/\y=.agg bs/\as.length=sz/\bs.length=sz/\yc as bs lv=some b)\/(∃o t,ag=false/\lv=[(o,t)]/\KA t x y=some b):=by
 unfold rg at e;split at e
 ·rename_i as bs;rw[aB,aB]at e;grind
 all_goals grind
theorem He{kt:TypeId}{ag:Bool}{sz:Nat}{lv:List (Nat×Nat)}(hk:KeyT P kt ag sz lv){x y:AV}{cx cy:Value}(hx:VRel pl M x cx)(hy:VRel pl M y cy){b:Bool}(e:rg ag sz lv x y=some b)(w:World):
  (Op.equal kt cx cy).run P w=.ok b w:=by
 rcases AH e with⟨as,bs,rfl,rfl,rfl,h1,h2,h3⟩|⟨o,t,rfl,rfl,h3⟩
 ·rcases mN hk.ag hk.lv with⟨_,fs,hu⟩|⟨h,_⟩
  ·cases hx with
   |agg a1 a2 a3=>
    cases hy with
    |agg b1 b2 b3=>exact FZ (P:=P) (pl:=pl) (M:=M) ⟨a1,a3⟩ ⟨b1,b3⟩ 10 kt 0 lv _ _ b 9990 sz w hk.lv hk.sz (by omega) (by omega) (mf hu) (mf hu) h3
  ·grind
 ·rcases mN hk.ag hk.lv with⟨h,_⟩|⟨_,d,k,hu,g1,g2,g3⟩
  ·grind
  ·simp at g3;obtain⟨_,rfl⟩:=g3;exact Se hx hy h3 hu g2 9999 w
theorem DO(x y:List UInt8):((⟨⟨x⟩⟩:ByteArray)==⟨⟨y⟩⟩)=(x==y):=by
 show((⟨x⟩:Array UInt8)==⟨y⟩)=_
 simp_all
theorem Jm{d:TypeDesc}{t:Nat}(hd:qT d=some t){x y:AV}{cx cy:Value}(hx:VRel pl M x cx)(hy:VRel pl M y cy){b:Bool}(e:KA t x y=some b):Instr.sameNow d cx cy=some b:=by
 unfold KA at e;split at e
 ·rw[mV]at e;split at e
  ·rename_i hj;simp at hj e;subst hj;cases hx;cases hy
   rcases gX hd with⟨_,h0⟩|⟨i,rfl,_⟩|⟨_,h0⟩
   all_goals grind[Instr.sameNow,pT]
  simp_all
 ·simp at e;cases hx;cases hy
  rcases gX hd with⟨_,h0⟩|⟨i,rfl,h0⟩|⟨rfl,_⟩
  all_goals grind[Instr.sameNow,mF,DO]
 ·simp at e;cases hx;cases hy
  rcases gX hd with⟨rfl,_⟩|⟨i,rfl,h0⟩|⟨_,h0⟩
  all_goals grind[Instr.sameNow]
 simp_all
structure EntsRel(pl:Pl)(M:dT)(es:List AEnt)(ents:List MapEntry):Prop where
 len:es.length=ents.length
 at_:∀(i:Nat)(e:AEnt),es[i]?=some e->∃e':MapEntry,ents[i]?=some e'/\VRel pl M e.key e'.key/\VRel pl M e.val e'.val/\e'.born=e.born
theorem EntsRel.tail{e:AEnt}{es:List AEnt}{c:MapEntry}{cs:List MapEntry}(h:EntsRel pl M (e::es) (c::cs)):EntsRel pl M es cs:=⟨by grind[cases EntsRel],fun i e he=>h.at_ (i+1) e (by simp_all)⟩
theorem EntsRel.head{e:AEnt}{es:List AEnt}{c:MapEntry}{cs:List MapEntry}(h:EntsRel pl M (e::es) (c::cs)):VRel pl M e.key c.key/\VRel pl M e.val c.val:=by
 obtain⟨e',h1,h2,h3,_⟩:=h.at_ 0 e rfl;simp_all
def BT(pl:Pl)(M:dT)(es:List AEnt)(i0:Nat):Option (Nat×AEnt)->Option (Nat×Value)->Prop
 |none,none=>True
 |some (i,e),some (j,cv)=>i=j/\i0<=i/\es[i-i0]?=some e/\VRel pl M e.val cv
 |_,_=>False
theorem BT.cons{e:AEnt}{es:List AEnt}{i:Nat}{r:Option (Nat×AEnt)}{cr:Option (Nat×Value)}(h:BT pl M es (i+1) r cr):BT pl M (e::es) i r cr:=by
 rcases r with _|⟨q,en⟩<;>rcases cr with _|⟨j,cv⟩<;>simp only[BT]at h ⊢
 grind
theorem vc{ag:Bool}{sz:Nat}{lv:List (Nat×Nat)}{k:AV}{e:AEnt}{es:List AEnt}{i:Nat}{r:Option (Nat×AEnt)}(h:bw ag sz lv k (e::es) i=some r):
  (rg ag sz lv k e.key=some true/\r=some (i,e))\/(rg ag sz lv k e.key=some false/\bw ag sz lv k es (i+1)=some r):=by
 simp only[bw]at h;cases hq:rg ag sz lv k e.key with
 |none=>grind[nI]
 | some b => cases b<;>simp[hq,nI]at h
             all_goals simp_all
theorem s9{kt:TypeId}{ag:Bool}{sz:Nat}{lv:List (Nat×Nat)}(hk:KeyT P kt ag sz lv){k:AV}{ck:Value}(hck:VRel pl M k ck)(w:World):
  ∀(es:List AEnt)(ents:List MapEntry)(i:Nat)(r:Option (Nat×AEnt)),EntsRel pl M es ents->bw ag sz lv k es i=some r->∃cr,(Instr.findAsking kt ck ents i).run P w=.ok cr w/\BT pl M es i r cr
 |[],ents,i,r,he,h=>by
  have:ents=[]:=qk (by have:=he.len;simp_all);subst this;simp[bw]at h;subst h;exact⟨none,rfl,trivial⟩
 |e::es,[],i,r,he,h=>by have:=he.len;simp_all
 |e::es,c::cs,i,r,he,h=>by
  obtain⟨h1,h2⟩:=he.head;rcases vc h with⟨k1,rfl⟩|⟨k1,k2⟩
  ·refine⟨some (i,c.val),?_,rfl,af _,by simp,h2⟩;simp[Instr.findAsking,He hk hck h1 k1]
  ·obtain⟨cr,g1,g2⟩:=s9 hk hck w es cs (i+1) r he.tail k2;refine⟨cr,?_,g2.cons⟩;simp[Instr.findAsking,He hk hck h1 k1,g1]
theorem BJ{ag:Bool}{sz:Nat}{d:TypeDesc}{o t:Nat}(hd:qT d=some t){k:AV}{ck:Value}(hck:VRel pl M k ck)(hag:ag=false):
  ∀(es:List AEnt)(ents:List MapEntry)(i:Nat)(r:Option (Nat×AEnt)),EntsRel pl M es ents->bw ag sz [(o,t)] k es i=some r->∃cr,Instr.findNow d ck ents i=some cr/\BT pl M es i r cr
 |[],ents,i,r,he,h=>by
  have:ents=[]:=qk (by have:=he.len;simpa using this.symm);subst this;simp[bw]at h;subst h;exact⟨none,rfl,trivial⟩
 |e::es,[],i,r,he,h=>by have:=he.len;simp at this
 | e::es,c::cs,i,r,he,h=>by
  obtain⟨h1,h2⟩:=he.head;have key:∀b,rg ag sz [(o,t)] k e.key=some b->Instr.sameNow d ck c.key=some b:=by
   intro b hb;rcases AH hb with⟨as,bs,h0,_⟩|⟨o2,t2,_,h3,h4⟩
   ·rw[hag]at h0;cases h0
   ·simp at h3;obtain⟨_,rfl⟩:=h3;exact Jm hd hck h1 h4
  rcases vc h with⟨k1,rfl⟩|⟨k1,k2⟩
  ·refine⟨some (i,c.val),?_,rfl,af _,by simp,h2⟩;simp[Instr.findNow,key _ k1]
  ·obtain⟨cr,g1,g2⟩:=BJ hd hck hag es cs (i+1) r he.tail k2;refine⟨cr,?_,g2.cons⟩;simp[Instr.findNow,key _ k1,g1]
theorem j7{kt:TypeId}{ag:Bool}{sz:Nat}{lv:List (Nat×Nat)}(hk:KeyT P kt ag sz lv){k:AV}{ck:Value}(hck:VRel pl M k ck)(w:World){es:List AEnt}{ents:List MapEntry}{r:Option (Nat×AEnt)}
  (he:EntsRel pl M es ents)(h:bw ag sz lv k es 0=some r):∃cr,(Instr.findKey kt ck ents).run P w=.ok cr w/\BT pl M es 0 r cr:=by
 rcases mN hk.ag hk.lv with⟨rfl,fs,hu⟩|⟨rfl,d,t,hu,h1,h2,h3⟩
 ·cases ents with
  |nil=>
   have:es=[]:=qk (by have:=he.len;omega);subst this;simp[bw]at h;subst h;exact⟨none,by simp[Instr.findKey,run_underlying hu,Instr.findNow],trivial⟩
  |cons c cs=>
   obtain⟨cr,g1,g2⟩:=s9 hk hck w es (c::cs) 0 r he h;simp_all[Instr.findKey,run_underlying,Instr.findNow,Instr.sameNow]
 ·subst h3;obtain⟨cr,g1,g2⟩:=BJ h2 hck rfl es ents 0 r he h;simp_all[Instr.findKey,run_underlying]
theorem wQ{ok b:Bool}{z:AV}{v:AV}{cz:Value}(h:oq ok (some z) b=some v)(hz:VRel pl M z cz):VRel pl M v (if ok then .tuple #[cz,.bool b]else cz):=by
 cases ok<;>simp[oq]at h<;>subst h
 ·grind
 ·refine .tuple rfl fun j y hj=>?_
  match j,hj with
  |0,hj=>simp_all
  |1,hj=>simp at hj;subst hj;exact .bool _
theorem OU (t:TypeId)(m k:Operand)(ok:Bool):ja P G (.lookup t m k ok):=by
 intro pl M A h v h' a w dst ty pos after guard hg hr hf he;simp only[fC]at he;split at he
 ·rename_i kt e hu;split at he
  ·rename_i ag sz lv h1 h2 h3;have hk:KeyT P kt ag sz lv:=⟨h1,h2,h3⟩
   obtain⟨u,e1,e2⟩:=bI he;simp at e2;obtain⟨rfl,rfl⟩:=e2;cases hm:(cE G m).run A with
   |none=>grind[vZ]
   | some mv=>
    cases hkk:(cE G k).run A with
    |none=>grind[vZ]
    | some kv=>
     have hmv:=bq hg hf hm;have hkv:=bq hg hf hkk;rw[hm,hkk]at e1;have zero:∀z,oq ok z false=some v->∃zv,z=some zv/\oq ok (some zv) false=some v:=by
      intro z hz;cases z with
      |none=>grind[oq]
      |some zv=>simp_all
     cases mv<;>simp only[vZ]at e1<;>(try(exact absurd e1 (by simp)))
     ·
      split at e1
      ·rename_i hkr;obtain⟨zv,hz1,hz2⟩:=zero _ e1;obtain⟨cz,hz3,hz4⟩:=mJ hz1;generalize hq:a.eval m=cm at hmv;cases hmv
       have hc:=fun em w=>pL (P:=P) hk hkv hkr em w
       have hfk:∀w,(Instr.findKey kt (a.eval k) []).run P w=.ok none w:=by
        intro w;obtain⟨cr,g1,g2⟩:=j7 (P:=P) (pl:=pl) (M:=M) hk hkv w (es:=[]) (ents:=[]) (r:=none) ⟨rfl,fun i e h=>by simp_all⟩ rfl;cases cr with
        |none=>omega
        |some _=>exact g2.elim
       have hrun:(Instr.lookup t (.map none) (a.eval k) ok).run P w=.ok (if ok then .tuple #[cz,.bool false]else cz) w:=by simp_all[Instr.lookup,run_underlying]
       simpa[execOp,hq,hrun]using qG.pure hr (wQ hz2 (dn hz4))
      simp_all
     ·
      rename_i id;split at e1
      ·rename_i hkr;split at e1
       ·rename_i es clock hgo;generalize hq:a.eval m=cm at hmv;cases hmv with
        | map hp ha=>
         rename_i r p;have ho:=hr.obj id p _ hp hgo;cases hb:w.heap[p.blk]? with
         |none=>grind[bm]
         | some ob=>
          rw[hb]at ho;cases ob<;>simp only[bm]at ho
          rename_i entries clock';obtain⟨g1,g2,g3,g4⟩:=ho;have hrb:=ha g1;subst hrb;have hgm:(getObj p.blk).run P w=.ok (.map entries clock') w:=by grind[getObj,Sem.run]
          have hents:EntsRel pl M es entries.toList:=⟨by omega,fun i e hi=>by simp_all⟩
          have hc:=fun em w=>pL (P:=P) hk hkv hkr em w
          unfold eS at e1;split at e1
          ·rename_i i en hfe;obtain⟨cr,q1,q2⟩:=j7 (P:=P) hk hkv w hents hfe;cases cr with
           |none=>exact q2.elim
           |some cr=>
            obtain⟨j,cv⟩:=cr;obtain⟨_,_,_,q3⟩:=q2;have hrun:(Instr.lookup t (.map (some p.blk)) (a.eval k) ok).run P w=.ok (if ok then .tuple #[cv,.bool true]else cv) w:=by simp[Instr.lookup,run_underlying hu,hgm,hc,q1]
            simpa[execOp,hq,hrun]using qG.pure hr (wQ e1 q3)
          ·rename_i hfe;obtain⟨zv,hz1,hz2⟩:=zero _ e1;obtain⟨cz,hz3,hz4⟩:=mJ hz1;obtain⟨cr,q1,q2⟩:=j7 (P:=P) hk hkv w hents hfe;cases cr with
           |some _=>exact q2.elim
           |none=>
            have hrun:(Instr.lookup t (.map (some p.blk)) (a.eval k) ok).run P w=.ok (if ok then .tuple #[cz,.bool false]else cz) w:=by simp[Instr.lookup,run_underlying hu,hgm,hc,q1,hz3]
            simpa[execOp,hq,hrun]using qG.pure hr (wQ hz2 (dn hz4))
          simp_all
       simp_all
      simp_all
  grind[av]
 grind[av]
end
end Go.Ev
