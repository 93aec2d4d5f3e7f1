/- An abstract machine for runs of the program, proved sound against the model: part 3. No conditions. -/
import Derived.Test.YtiflidpifinbjaaGreatDoorMach2
import Derived.Scope
import Derived.LoopN
import Derived.Orders
namespace Go.Ev
open Go
section
variable{P:Program}{G:fz}{pl:Pl}{M:dN}{h h':AHeap}{w w':World}{v:AV}{A:Fr}{a:Act}
theorem uH{x y:AV}{cx cy:Value}(hx:VRel pl M x cx)(hy:VRel pl M y cy)(e:kY x y=true)(n:Nat):cx=cy/\Instr.sameBits n cy cx=true:=by
 unfold kY at e;split at e
 ·grind[lI,pL,Instr.sameBits,cases VRel]
 all_goals grind[ri,Instr.sameBits,Ez,cases VRel]
theorem sP{n:Nat}:∀{xs ys:laa}{cxs cys:lao},VRels pl M xs cxs.toArray->VRels pl M ys cys.toArray->jT xs ys=true->cxs=cys/\(cys.zip cxs).all (λ(x,y)=>Instr.sameBits n x y)=true
 |[],[],cxs,cys,hx,hy,_=>by
  have h1:cxs=[]:=sB (by grind[cases VRels]);have h2:cys=[]:=sB (by grind[cases VRels]);simp_all
 |x::xs,y::ys,[],cys,hx,hy,e=>by grind[cases VRels]
 |x::xs,y::ys,cx::cxs,[],hx,hy,e=>by grind[cases VRels]
 | x::xs,y::ys,cx::cxs,cy::cys,hx,hy,e=>by
  simp only[jT,ba]at e;have h1:=hx.at_ 0 _ rfl;have h2:=hy.at_ 0 _ rfl;simp[Array.getD]at h1 h2;obtain⟨q1,q2⟩:=uH h1 h2 e.1 n;have tl:∀{z:AV}{zs:laa}{c:Value}{cs:lao},VRels pl M (z::zs) (c::cs).toArray->VRels pl M zs cs.toArray:=by
   intro z zs c cs hz;exact⟨by grind[cases VRels],λj y hj=>by
    have:=hz.at_ (j+1) y (by simp_all);simp_all⟩
  obtain⟨q3,q4⟩:=sP (n:=n) (tl hx) (tl hy) e.2;simp_all
theorem AR{x y:AV}{cx cy:Value}(hx:VRel pl M x cx)(hy:VRel pl M y cy)(e:lp x y=true):cx=cy/\Instr.sameBits 10000 cy cx=true:=by
 unfold lp at e;split at e
 ·cases hx with
  | agg a1 a2 a3=>
   cases hy with
   |agg b1 b2 b3=>
    obtain⟨q1,q2⟩:=sP (pl:=pl) (M:=M) (n:=9999) ⟨a1,a3⟩ ⟨b1,b3⟩ e;rw[Array.toList_inj]at q1;subst q1;refine⟨rfl,?_⟩;rw[show(10000:Nat)=9999+1 from rfl,Instr.sameBits];simp_all
 grind[uH]
theorem nC{p:Place}{es:laq}{clock:Nat}{entries:Array MapEntry}(hp:p.ep=0)(he:EntsRel pl M es entries.toList):bm pl M p (.map es clock) (some (.map entries clock)):=by
 refine⟨hp,rfl,by simpa using he.len,λi e hi=>?_⟩;grind[cases EntsRel]
theorem Jp{kt t e:TypeId}{ag:Bool}{sz:Nat}{lv:List (Nat×Nat)}(hk:KeyT P kt ag sz lv)(hu:P.underlying t=some (.map kt e))(hr:cS pl M h w){m k x:AV}{cm ck cx:Value}(hm:VRel pl M m cm)(hck:VRel pl M k ck)(hx:VRel pl M x cx)
  (he:rF ag sz lv h (some m) (some k) (some x)=some h'):∃w',(Instr.mapUpdate t cm ck cx).run P w=.ok () w'/\cS pl M h' w'/\dK h pl M w h' pl M w'/\h'.n=h.n:=by
 cases m<;>simp only[rF]at he<;>(try(exact absurd he (by simp)))
 rename_i id;split at he
 ·rename_i hkr;split at he
  ·rename_i es clock hgo;cases hm with
   | map hp ha=>
    rename_i r p;have ho:=hr.obj id p _ hp hgo;cases hb:w.heap[p.blk]? with
    |none=>grind[bm]
    | some ob=>
     rw[hb]at ho;cases ob<;>simp only[bm]at ho
     rename_i entries clock';obtain⟨g1,g2,g3,g4⟩:=ho;have hrb:=ha g1;subst hrb;subst g2;have hents:EntsRel pl M es entries.toList:=⟨by omega,λi e hi=>by simp_all⟩
     have hc:=λem w=>pD (P:=P) hk hck hkr em w
     have hgm:(getObj p.blk).run P w=.ok (.map entries clock') w:=by grind[getObj,Sem.run]
     have hsm:∀o,(setObj p.blk o).run P w=.ok () {w with heap:=w.heap.setIfInBounds p.blk o}:=by grind[setObj,Sem.run]
     have hlt:=hr.blk id p hp;have fin:∀(es':laq)(ents':Array MapEntry)(c':Nat),EntsRel pl M es' ents'.toList->
       cS pl M (h.put id (.map es' c')) {w with heap:=w.heap.setIfInBounds p.blk (.map ents' c')}/\dK h pl M w (h.put id (.map es' c')) pl M {w with heap:=w.heap.setIfInBounds p.blk (.map ents' c')}:=by
      intro es' ents' c' hrel;have hpe:upd pl id p=pl:=tK hp;have:=cS.change (w':={w with heap:=w.heap.setIfInBounds p.blk (.map ents' c')}) (o':=.map es' c') hr hp hgo (p':=p) (.inl rfl) ⟨rfl,rfl,rfl,ar _⟩ (by simp) (λb _ hne=>by grind) (.inl rfl) (by simp_all)
       (by grind[nC])
      simp_all
     unfold yE at he;split at he
     ·rename_i i en hfe;split at he
      ·rename_i hks;simp at he;subst he;obtain⟨cr,q1,q2⟩:=j6 (P:=P) hk hck w hents hfe;cases cr with
       |none=>exact q2.elim
       | some cr=>
        obtain⟨j,cv⟩:=cr;obtain⟨rfl,_,q3,_⟩:=q2;simp at q3;obtain⟨e',q4,q5,q6,q7⟩:=hents.at_ i en q3;obtain⟨q8,q9⟩:=AR hck q5 hks;have q4':entries[i]?=some e':=by simp_all
        refine⟨_,?_,(fin (es.set i {en with val:=x}) (entries.modify i λe=>{e with key:=ck,val:=cx}) clock' ?_).1,(fin (es.set i {en with val:=x}) (entries.modify i λe=>{e with key:=ck,val:=cx}) clock' ?_).2,rfl⟩
        ·simp_all[Instr.mapUpdate,run_underlying,Instr.keyThatStays]
        all_goals
         refine⟨by simpa using hents.len,λj e hj=>?_⟩;rw[CO]at hj;by_cases hij:i=j
         ·subst hij;have hil:i<es.length:=by have:=(fP.1 q3).1;exact this
          simp[hil]at hj;subst hj;refine⟨{e' with key:=ck,val:=cx},by simp[xk,q4'],?_,hx,q7⟩;show VRel pl M en.key ck
          rw[q8];exact q5
         ·simp[hij]at hj;obtain⟨e2,r1,r2⟩:=hents.at_ j e hj;exact⟨e2,by simpa[xk,hij]using r1,r2⟩
      simp_all
     ·rename_i hfe;simp at he;subst he;obtain⟨cr,q1,q2⟩:=j6 (P:=P) hk hck w hents hfe;cases cr with
      |some _=>exact q2.elim
      | none=>
       have hrel:EntsRel pl M (es++[{key:=k,val:=x,born:=clock'}]) (entries.push {key:=ck,val:=cx,born:=clock'}).toList:=by
        refine⟨by simp_all,λj e hj=>?_⟩;rcases fg j es.length with hlt2|hge
        ·grind
        ·rw[ot hge]at hj;have hz:j-es.length=0:=by grind
         rw[hz]at hj;simp at hj;subst hj;refine⟨{key:=ck,val:=cx,born:=clock'},?_,hck,hx,rfl⟩;grind
       exact⟨_,by simp_all[Instr.mapUpdate,run_underlying],(fin _ _ _ hrel).1,(fin _ _ _ hrel).2,rfl⟩
     simp_all
  simp_all
 simp_all
theorem DJ{o:lbd}{r:ARes}(e:ww o=some r):∃h,o=some h/\r=.val gh h:=by
 cases o with
 |none=>grind[ww]
 |some v=>grind[ww]
theorem En{ag:Bool}{sz:Nat}{lv:List (Nat×Nat)}{m k x:lae}(e:rF ag sz lv h m k x=some h'):∃a b c,m=some a/\k=some b/\x=some c:=by
 unfold rF at e;grind
theorem uN(t:TypeId)(m k x:Operand):jJ P G (.mapUpdate t m k x)/\jJ P G (.insert t m k x):=by
 have key:∀(pl:Pl)(M:dN)(A:Fr)(h:AHeap)(v:AV)(h':AHeap)(a:Act)(w:World),qc G pl M->cS pl M h w->FrRel pl M A a->(fc P G (.mapUpdate t m k x)).run A h=some (.val v h')->
   qr pl M h w ((do Instr.mapUpdate t (a.eval m) (a.eval k) (a.eval x);pure .skip:Sem Next).run P w) v h':=by
  intro pl M A h v h' a w hg hr hf he;simp only[fc]at he;split at he
  ·rename_i kt e hu;split at he
   ·rename_i ag sz lv h1 h2 h3;obtain⟨u,e1,e2⟩:=DJ he;simp at e2;obtain⟨rfl,rfl⟩:=e2;obtain⟨mv,kv,xv,e3,e4,e5⟩:=En e1;rw[e3,e4,e5]at e1;obtain⟨w',q1,q2,q3,q4⟩:=Jp (P:=P) ⟨h1,h2,h3⟩ hu hr (bK hg hf e3) (bK hg hf e4) (bK hg hf e5) e1;exact⟨pl,M,undef,w',.skip,by simp_all,.inr ⟨rfl,rfl⟩,.tuple rfl (λj y h=>by simp_all),q2,q3,by omega⟩
   grind[ab]
  grind[ab]
 constructor<;>(intro pl M A h v h' a w dst ty pos after guard hg hr hf he;exact key pl M A h v h' a w hg hr hf he)
theorem Ra(t:TypeId)(x:Operand):jJ P G (.range t x):=by
 intro pl M A h v h' a w dst ty pos after guard hg hr hf he;simp only[fc]at he;split at he
 ·rename_i hu;simp only[]at he;split at he
  ·rename_i s hx;simp at he;obtain⟨rfl,rfl⟩:=he;have hxv:=bK hg hf hx;generalize hq:a.eval x=cx at hxv;cases hxv
   have hal:=cS.alloc (w':={w with heap:=w.heap.push (.stringIter ⟨⟨s⟩⟩ 0)}) (o:=.siter s 0) (p:=⟨w.heap.size,0,1,0,0⟩) hr rfl ⟨rfl,rfl,rfl,ar _⟩ rfl ⟨rfl,rfl,rfl,rfl⟩;refine⟨_,M,.pointer (some ⟨w.heap.size,0,none⟩),_,.value _,?_,.inl rfl,?_,hal.1,hal.2,by simp[AHeap.push]⟩
   ·simp only[execOp,hq,Instr.range,Sem.run_bind,run_underlying hu,Result.andThen_ok,Sem.run_pure];rfl
   ·refine .ptr (eY _ _ _) (ar _) λ_=>?_
    simp
  simp_all
 ·rename_i hu;simp only[]at he;obtain⟨p0,e1,e2⟩:=lq he;simp at e2;obtain⟨rfl,rfl⟩:=e2;cases hx:(cA G x).run A with
  |none=>grind[wy]
  | some xv=>
   have hxv:=bK hg hf hx;rw[hx]at e1;generalize hq:a.eval x=cx at hxv;unfold wy at e1;split at e1
   ·rename_i q;simp at q;subst q;simp at e1;subst e1;cases hxv
    have hal:=cS.alloc (w':={w with heap:=w.heap.push (.mapIter none 0 #[] 0)}) (o:=.miter .nilm 0 []) (p:=⟨w.heap.size,0,1,0,0⟩) hr rfl ⟨rfl,rfl,rfl,ar _⟩ rfl ⟨rfl,rfl,.nilm,rfl,rfl,rfl⟩;refine⟨_,M,.pointer (some ⟨w.heap.size,0,none⟩),_,.value _,?_,.inl rfl,?_,hal.1,hal.2,by simp[AHeap.push]⟩
    ·simp only[execOp,hq,Instr.range,Sem.run_bind,run_underlying hu,Result.andThen_ok,Sem.run_pure];rfl
    ·refine .ptr (eY _ _ _) (ar _) λ_=>?_
     simp
   ·rename_i id q;simp at q;subst q;split at e1
    ·rename_i es clock hgo;simp at e1;subst e1;cases hxv with
     | map hp ha=>
      rename_i r p;have ho:=hr.obj id p _ hp hgo;cases hb:w.heap[p.blk]? with
      |none=>grind[bm]
      | some ob=>
       rw[hb]at ho;cases ob<;>simp only[bm]at ho
       rename_i entries clock';obtain⟨g1,g2,g3,g4⟩:=ho;have hrb:=ha g1;subst hrb;subst g2;have hgm:(getObj p.blk).run P w=.ok (.map entries clock') w:=by grind[getObj,Sem.run]
       have hne:id≠h.n:=by have:=hr.dom id p hp;omega
       have hal:=cS.alloc (w':={w with heap:=w.heap.push (.mapIter (some p.blk) clock' #[] clock')}) (o:=.miter (.map id) clock' []) (p:=⟨w.heap.size,0,1,0,0⟩) hr rfl ⟨rfl,rfl,rfl,ar _⟩ rfl
        ⟨rfl,rfl,.map (by grind[dj]) (λ_=>rfl),rfl,rfl,rfl⟩
       refine⟨_,M,.pointer (some ⟨w.heap.size,0,none⟩),_,.value _,?_,.inl rfl,?_,hal.1,hal.2,by simp[AHeap.push]⟩
       ·simp only[execOp,hq,Instr.range,Sem.run_bind,run_underlying hu,Result.andThen_ok,Sem.run_pure,hgm];rfl
       ·refine .ptr (eY _ _ _) (ar _) λ_=>?_
        simp
    simp_all
   simp_all
 grind[ab]
theorem Hy(hr:cS pl M h w){id:Nat}{m:AV}{clock:Nat}{seen:laf}{c:Value}(hv:VRel pl M (.ptr id 0 0 0) c)(hgo:h.get id=some (.miter m clock seen)):
  ∃p m' seen',pl id=some p/\p.ep=0/\p.sz=1/\c=.pointer (some ⟨p.blk,0,none⟩)/\w.heap[p.blk]?=some (.mapIter m' clock seen' clock)/\VRel pl M m (.map m')/\seen'.toList=seen:=by
 cases hv with
 | ptr hp hle ha=>
  rename_i ad p;have ho:=hr.obj id p _ hp hgo;cases hb:w.heap[p.blk]? with
  |none=>grind[bm]
  |some ob=>
   rw[hb]at ho;cases ob<;>simp only[bm]at ho
   grind
theorem Ys(hr:cS pl M h w){id:Nat}{es:laq}{clock:Nat}{m':lan}(hv:VRel pl M (.map id) (.map m'))(hgo:h.get id=some (.map es clock)):
  ∃r entries,m'=some r/\w.heap[r]?=some (.map entries clock)/\EntsRel pl M es entries.toList:=by
 cases hv with
 | map hp ha=>
  rename_i r p;have ho:=hr.obj id p _ hp hgo;cases hb:w.heap[p.blk]? with
  |none=>grind[bm]
  |some ob=>
   rw[hb]at ho;cases ob<;>simp only[bm]at ho
   rename_i entries clock';obtain⟨g1,g2,g3,g4⟩:=ho;have hrb:=ha g1;subst hrb;subst g2;exact⟨p.blk,entries,rfl,hb,⟨by omega,λi e hi=>by simp_all⟩⟩
theorem Hh:∀(l:laf),Nb l=l.getLast?
 |[]=>rfl
 |[_]=>rfl
 |x::y::r=>by show Nb (y::r)=_;rw[Hh (y::r)];simp
theorem sT{b:Nat}:∀{es:laq}{l:List MapEntry}{e:AEnt},EntsRel pl M es l->o5 b es=some e->∃e',l.find? (·.born ==b)=some e'/\VRel pl M e.key e'.key/\VRel pl M e.val e'.val/\e'.born=e.born
 |[],_,_,_,h=>by grind[o5]
 | x::r,l,e,he,h=>by
  obtain⟨e',h1,k1,k2,k3⟩:=he.at_ 0 x rfl
  match l,h1,he with
  |y::l',h1,he=>
   simp at h1;subst h1;simp only[o5,aD]at h;by_cases q:x.born=b
   ·simp_all
   ·simp[q]at h;obtain⟨e2,z1,z2⟩:=sT (l:=l') ⟨by have:=he.len;simp_all,λi e hi=>he.at_ (i+1) e (by simp_all)⟩ h;simp_all
theorem Rd(it:Operand):jJ P G (.entry it):=by
 intro pl M A h v h' a w dst ty pos after guard hg hr hf he;simp only[fc]at he;obtain⟨v0,e1,e2⟩:=bF he;simp at e2;obtain⟨rfl,rfl⟩:=e2;cases hx:(cA G it).run A with
 |none=>grind[K7]
 | some xv=>
  have hxv:=bK hg hf hx;rw[hx]at e1;generalize hq:a.eval it=cx at hxv;unfold K7 at e1;split at e1
  ·rename_i id q;simp at q;subst q;split at e1
   ·rename_i m clock seen hgo;split at e1
    ·rename_i es clock' hgm;rw[aD]at e1;by_cases hc:clock=clock'
     ·subst hc;simp at e1;obtain⟨p,m',seen',hp,g1,g2,rfl,hb,g3,g4⟩:=Hy hr hxv hgo;obtain⟨r,entries,rfl,hbm,hen⟩:=Ys hr g3 hgm;rw[Hh]at e1;cases hl:seen.getLast? with
      |none=>grind[TG,Wc]
      | some bn=>
       rw[hl]at e1;simp only[TG]at e1;cases hfb:o5 bn es with
       |none=>grind[Wc]
       | some e=>
        rw[hfb]at e1;simp[Wc]at e1;obtain⟨e',z1,z2,z3,z4⟩:=sT hen hfb;have hgi:(getObj p.blk).run P w=.ok (.mapIter (some r) clock seen' clock) w:=by grind[getObj,Sem.run]
        have hgm':(getObj r).run P w=.ok (.map entries clock) w:=by grind[getObj,Sem.run]
        have hback:seen'.back?=some bn:=by grind
        have hfind:entries.find? (·.born ==bn)=some e':=by simp_all
        refine⟨pl,M,.tuple #[e'.key,e'.val],w,.value _,?_,.inl rfl,?_,hr,dK.refl _ _ _ _,ar _⟩
        ·simp_all[execOp,Instr.entry]
        ·subst e1;refine .tuple rfl λj y hj=>?_
         match j,hj with
         |0,hj=>simp_all
         |1,hj=>simp_all
     simp_all
    simp_all
   simp_all
  simp_all
theorem J8(it:Operand):jJ P G (.next it false):=by
 intro pl M A h v h' a w dst ty pos after guard hg hr hf he;simp only[fc]at he;obtain⟨v0,e1,e2⟩:=bF he;simp at e2;obtain⟨rfl,rfl⟩:=e2;cases hx:(cA G it).run A with
 |none=>grind[Ao]
 | some xv=>
  have hxv:=bK hg hf hx;rw[hx]at e1;generalize hq:a.eval it=cx at hxv;unfold Ao at e1;split at e1
  ·rename_i id q;simp at q;subst q;split at e1
   ·rename_i clock seen hgo;simp at e1;obtain⟨p,m',seen',hp,g1,g2,rfl,hb,g3,g4⟩:=Hy hr hxv hgo;cases g3
    have hgi:(getObj p.blk).run P w=.ok (.mapIter none clock seen' clock) w:=by grind[getObj,Sem.run]
    refine⟨pl,M,.tuple #[.bool false],w,.value _,?_,.inl rfl,?_,hr,dK.refl _ _ _ _,ar _⟩
    ·simp_all[execOp,Instr.next]
    ·subst e1;refine .tuple rfl λj y hj=>?_
     match j,hj with
     |0,hj=>simp at hj;subst hj;exact .bool _
   simp_all
  simp_all
theorem Vq(it:Operand):jJ P G (.next it true):=by
 intro pl M A h v h' a w dst ty pos after guard hg hr hf he;simp only[fc]at he;obtain⟨p0,e1,e2⟩:=lq he;simp at e2;obtain⟨rfl,rfl⟩:=e2;cases hx:(cA G it).run A with
 |none=>grind[RB]
 | some xv=>
  have hxv:=bK hg hf hx;rw[hx]at e1;unfold RB at e1;split at e1
  ·rename_i id q;simp at q;subst q;split at e1
   ·rename_i s pos' hgo;generalize hq:a.eval it=cx at hxv;cases hxv with
    | ptr hp hle ha=>
     rename_i ad p;have ho:=hr.obj id p _ hp hgo;cases hb:w.heap[p.blk]? with
     |none=>grind[bm]
     | some ob=>
      rw[hb]at ho;cases ob<;>simp only[bm]at ho
      rename_i s' pos2;obtain⟨g1,g2,g3,g4⟩:=ho;have had:=ha g1.symm;simp at had;subst had;subst g3;subst g4;have hlt:=hr.blk id p hp;have hgm:(getObj p.blk).run P w=.ok (.stringIter ⟨⟨s⟩⟩ pos2) w:=by grind[getObj,Sem.run]
      have hsm:∀o,(setObj p.blk o).run P w=.ok () {w with heap:=w.heap.setIfInBounds p.blk o}:=by grind[setObj,Sem.run]
      have hsize:(⟨⟨s⟩⟩:ByteArray).size=s.length:=rfl;rw[dG]at e1;split at e1
      ·rename_i hps;simp at hps;simp at e1;subst e1;have hpe:upd pl id p=pl:=tK hp;have hch:=cS.change (w':={w with heap:=w.heap.setIfInBounds p.blk (.stringIter ⟨⟨s⟩⟩ (pos2+(Utf8.decode ⟨⟨s⟩⟩ pos2).2))}) (o':=.siter s (pos2+(Utf8.decode ⟨s.toArray⟩ pos2).2)) hr hp hgo (p':=p) (.inl rfl) ⟨rfl,rfl,rfl,ar _⟩ (by simp) (λb _ hne=>by grind) (.inl rfl) (by simp_all)
        (by rw[hpe];simp only[Array.getElem?_setIfInBounds_self_of_lt hlt];exact⟨g1,g2,rfl,rfl⟩)
       rw[hpe]at hch;refine⟨pl,M,.tuple #[.bool true,goInt pos2,.int .i32 (Utf8.decode ⟨⟨s⟩⟩ pos2).1],_,.value _,?_,.inl rfl,?_,hch.1,hch.2,ar _⟩
       ·simp_all[execOp,Instr.next]
       ·refine .tuple rfl λj y hj=>?_
        match j,hj with
        |0,hj=>simp at hj;subst hj;exact .bool _
        |1,hj=>simp at hj;subst hj;exact .int _ _
        |2,hj=>simp at hj;subst hj;exact .int _ _
      ·rename_i hps;simp at hps;simp at e1;subst e1;refine⟨pl,M,.tuple #[.bool false],w,.value _,?_,.inl rfl,?_,hr,dK.refl _ _ _ _,ar _⟩
       ·simp_all[execOp,Instr.next]
       ·refine .tuple rfl λj y hj=>?_
        match j,hj with
        |0,hj=>simp at hj;subst hj;exact .bool _
   simp_all
  simp_all
theorem noV{o:lae}{f:FuncId}{args:laa}:bp h o=some (.call f args)->False:=by cases o<;>simp[bp]
theorem noH{o:Option (AV×AHeap)}{f:FuncId}{args:laa}:fJ o=some (.call f args)->False:=by rcases o with _|⟨a,b⟩<;>simp[fJ]
theorem noU{o:lbd}{f:FuncId}{args:laa}:ww o=some (.call f args)->False:=by cases o<;>simp[ww]
theorem noB{o:lae}{f:FuncId}{args:laa}:sm h o=some (.call f args)->False:=by
 intro e;unfold sm at e;grind
theorem VRels.append{as bs:laa}{vs ws:Array Value}(h1:VRels pl M as vs)(h2:VRels pl M bs ws):VRels pl M (as++bs) (vs++ws):=by
 refine⟨by grind[cases VRels],λj y hj=>?_⟩;rcases fg j as.length with hlt|hge
 ·rw[sC hlt]at hj;have:=h1.at_ j y hj;rw[iZ]at this ⊢;rw[Array.getElem?_append_left (by rw[<-h1.len];omega)];omega
 ·rw[ot hge]at hj;have:=h2.at_ _ y hj;rw[iZ]at this ⊢;rw[Array.getElem?_append_right (by rw[<-h1.len];omega),<-h1.len];omega
theorem uO{o:Oper}{f:FuncId}{args:laa}{h:AHeap}(hg:qc G pl M)(hf:FrRel pl M A a)(he:(fc P G o.op).run A h=some (.call f args)):
  ∃vs,VRels pl M args vs/\(execOp a.eval o).run P w=(callFunc f vs).run P w:=by
 obtain⟨dst,op,ty,pos,after,guard⟩:=o;simp only at he;cases op
 case call c=>
  obtain⟨callee,cargs,ts⟩:=c;cases callee with
  |builtin b=>
   simp only[fc]at he;unfold iD at he
   repeat' (first|exact(noV he).elim |exact(noH he).elim |exact(noU he).elim |exact(noB he).elim |exact(ab he).elim |(simp at he;done)|(split at he)|(simp only[]at he))
  |invoke r n=>exact(ab he).elim
  | value fo=>
   simp only[fc]at he;cases hl:(wc G cargs.toList).run A with
   |none=>simp_all
   | some l=>
    cases hfo:(cA G fo).run A with
    |none=>grind[EU]
    | some fv=>
     rw[hl,hfo]at he;have hfv:=bK hg hf hfo;have hlv:=rT hg hf _ _ hl;cases fv with
     | func fn first captured=>
      cases fn with
      | func g=>
       simp[EU]at he;obtain⟨rfl,rfl⟩:=he;generalize hq:a.eval fo=cf at hfv;cases hfv with
       | func k1 k2 k3 k4=>
        rename_i vs ws;refine⟨vs++cargs.map a.eval++ws,?_,?_⟩
        ·have hl2:VRels pl M l (cargs.map a.eval):=by
          have e:(List.map a.eval cargs.toList).toArray=cargs.map a.eval:=by grind
          simp_all
         rw[<-iQ];exact((VRels.mk k1 k3).append hl2).append (VRels.mk k2 k4)
        grind[execOp,resolve,Deferred.ofValue,invoke]
      |_=>simp[EU]at he
     |_=>simp[EU]at he
 case build t parts=>
  simp only[fc]at he
  repeat' (first|exact(ab he).elim |(unfold Cu at he;split at he;split at he;exact(noV he).elim)|exact(ab he).elim |(split at he)|(simp only[]at he))
 case makeMap t r=>cases r<;>(simp only[fc]at he;(try unfold wR at he);(try unfold Cu at he);repeat' (first|exact(noV he).elim |exact(noH he).elim |exact(noU he).elim |exact(noB he).elim |exact(ab he).elim |(simp at he;done)|(split at he)|(simp only[]at he)))
 case next it b=>cases b<;>(simp only[fc]at he;(try unfold wR at he);(try unfold Cu at he);repeat' (first|exact(noV he).elim |grind[noH]|exact(noU he).elim |exact(noB he).elim |exact(ab he).elim |(simp at he;done)|(split at he)|(simp only[]at he)))
 all_goals (simp only[fc]at he;(try unfold wR at he);(try unfold Cu at he);repeat' (first|exact(noV he).elim |exact(noH he).elim |exact(noU he).elim |exact(noB he).elim |exact(ab he).elim |(simp at he;done)|(split at he)|(simp only[]at he)))
theorem Pu{kt t e:TypeId}{ag:Bool}{sz:Nat}{lv:List (Nat×Nat)}(hk:KeyT P kt ag sz lv)(hu:P.underlying t=some (.map kt e))(hr:cS pl M h w){m k:AV}{cm ck:Value}(hm:VRel pl M m cm)(hck:VRel pl M k ck)
  (he:oM ag sz lv (iP P e) h (some m) (some k)=some (v,h')):∃cv w',(Instr.mapEntry t cm ck).run P w=.ok cv w'/\VRel pl M v cv/\cS pl M h' w'/\dK h pl M w h' pl M w'/\h'.n=h.n:=by
 cases m<;>simp only[oM]at he<;>(try(exact absurd he (by simp)))
 rename_i id;split at he
 ·rename_i hkr;split at he
  ·rename_i es clock hgo;cases hm with
   | map hp ha=>
    rename_i r p;have ho:=hr.obj id p _ hp hgo;cases hb:w.heap[p.blk]? with
    |none=>grind[bm]
    | some ob=>
     rw[hb]at ho;cases ob<;>simp only[bm]at ho
     rename_i entries clock';obtain⟨g1,g2,g3,g4⟩:=ho;have hrb:=ha g1;subst hrb;subst g2;have hents:EntsRel pl M es entries.toList:=⟨by omega,λi e hi=>by simp_all⟩
     have hc:=λem w=>pD (P:=P) hk hck hkr em w
     have hgm:(getObj p.blk).run P w=.ok (.map entries clock') w:=by grind[getObj,Sem.run]
     have hsm:∀o,(setObj p.blk o).run P w=.ok () {w with heap:=w.heap.setIfInBounds p.blk o}:=by grind[setObj,Sem.run]
     have fin:∀(es':laq)(ents':Array MapEntry)(c':Nat),EntsRel pl M es' ents'.toList->
       cS pl M (h.put id (.map es' c')) {w with heap:=w.heap.setIfInBounds p.blk (.map ents' c')}/\dK h pl M w (h.put id (.map es' c')) pl M {w with heap:=w.heap.setIfInBounds p.blk (.map ents' c')}:=by
      intro es' ents' c' hrel;have hpe:upd pl id p=pl:=tK hp;have:=cS.change (w':={w with heap:=w.heap.setIfInBounds p.blk (.map ents' c')}) (o':=.map es' c') hr hp hgo (p':=p) (.inl rfl) ⟨rfl,rfl,rfl,ar _⟩ (by simp) (λb _ hne=>by grind) (.inl rfl) (by clear he;simp[hr.blk id p hp])
       (by grind[nC])
      simp_all
     have pair:∀{x:AV}{cx:Value}{b:Nat},VRel pl M x cx->VRel pl M (.tuple [x,.int .i64 (.ofNat b)]) (.tuple #[cx,goInt b]):=by
      intro x cx b hx;refine .tuple rfl λj y hj=>?_
      match j,hj with
      |0,hj=>simp at hj;subst hj;simpa using hx
      |1,hj=>simp at hj;subst hj;exact .int _ _
     unfold S9 at he;split at he
     ·rename_i i en hfe;split at he
      ·rename_i hks;simp at he;obtain⟨rfl,rfl⟩:=he;obtain⟨cr,q1,q2⟩:=j6 (P:=P) hk hck w hents hfe;cases cr with
       |none=>exact q2.elim
       | some cr=>
        obtain⟨j,cv⟩:=cr;obtain⟨rfl,_,q3,q0⟩:=q2;simp at q3;obtain⟨e',q4,q5,q6,q7⟩:=hents.at_ i en q3;obtain⟨q8,q9⟩:=AR hck q5 hks;have q4':entries[i]?=some e':=by simp_all
        have hrel:EntsRel pl M (es.set i {en with val:=en.val}) (entries.modify i λe=>{e with key:=ck}).toList:=by
         refine⟨by simpa using hents.len,λj e hj=>?_⟩;rw[CO]at hj;by_cases hij:i=j
         ·subst hij;have hil:i<es.length:=by have:=(fP.1 q3).1;exact this
          simp[hil]at hj;subst hj;refine⟨{e' with key:=ck},by simp[xk,q4'],?_,q6,q7⟩;show VRel pl M en.key ck
          rw[q8];exact q5
         ·simp[hij]at hj;obtain⟨e2,r1,r2⟩:=hents.at_ j e hj;exact⟨e2,by simpa[xk,hij]using r1,r2⟩
        have hrun:(Instr.mapEntry t (.map (some p.blk)) ck).run P w=.ok (.tuple #[cv,goInt en.born]) {w with heap:=w.heap.setIfInBounds p.blk (.map (entries.modify i λe=>{e with key:=ck}) clock')}:=by simp_all[Instr.mapEntry,run_underlying,Instr.keyThatStays]
        exact⟨_,_,hrun,pair q0,(fin _ _ _ hrel).1,(fin _ _ _ hrel).2,rfl⟩
      simp_all
     ·rename_i hfe;split at he
      ·rename_i z hz;simp at he;obtain⟨rfl,rfl⟩:=he;obtain⟨cz,hz3,hz4⟩:=lG hz;obtain⟨cr,q1,q2⟩:=j6 (P:=P) hk hck w hents hfe;cases cr with
       |some _=>exact q2.elim
       | none=>
        have hrel:EntsRel pl M (es++[{key:=k,val:=z,born:=clock'}]) (entries.push {key:=ck,val:=cz,born:=clock'}).toList:=by
         refine⟨by simp_all,λj e hj=>?_⟩;rcases fg j es.length with hlt2|hge
         ·rw[sC hlt2]at hj;obtain⟨e2,r1,r2⟩:=hents.at_ j e hj;exact⟨e2,by rw[Array.toList_push,sC (by have:=hents.len;omega)];exact r1,r2⟩
         ·have hjl:=(fP.1 hj).1;rw[ot hge]at hj;have hz:j-es.length=0:=by simp at hjl;omega
          rw[hz]at hj;simp at hj;subst hj;have hj2:j=entries.size:=by omega
          subst hj2;exact⟨{key:=ck,val:=cz,born:=clock'},by simp,hck,dB hz4,rfl⟩
        have hrun:(Instr.mapEntry t (.map (some p.blk)) ck).run P w=.ok (.tuple #[cz,goInt clock']) {w with heap:=w.heap.setIfInBounds p.blk (.map (entries.push {key:=ck,val:=cz,born:=clock'}) (clock'+1))}:=by simp_all[Instr.mapEntry,run_underlying]
        exact⟨_,_,hrun,pair (dB hz4),(fin _ _ _ hrel).1,(fin _ _ _ hrel).2,rfl⟩
      simp_all
     simp_all
  simp_all
 simp_all
theorem HX(t:TypeId)(m k:Operand):jJ P G (.mapEntry t m k):=by
 intro pl M A h v h' a w dst ty pos after guard hg hr hf he;simp only[fc]at he;split at he
 ·rename_i kt e hu;split at he
  ·rename_i ag sz lv h1 h2 h3;obtain⟨⟨u,u'⟩,e1,e2⟩:=lq he;simp at e2;obtain⟨rfl,rfl⟩:=e2;cases hm:(cA G m).run A with
   |none=>grind[oM]
   | some mv=>
    cases hkk:(cA G k).run A with
    |none=>grind[oM]
    |some kv=>
     rw[hm,hkk]at e1;obtain⟨cv,w',q1,q2,q3,q4,q5⟩:=Pu (P:=P) ⟨h1,h2,h3⟩ hu hr (bK hg hf hm) (bK hg hf hkk) e1;exact⟨pl,M,cv,w',.value cv,by simp[execOp,q1],.inl rfl,q2,q3,q4,by omega⟩
  grind[ab]
 grind[ab]
theorem Ej{n:Int}:∀{es:laq}{i j:Nat}{en:AEnt},BI n es i=some (j,en)->∃q,j=i+q/\es[q]?=some en/\((en.born:Nat):Int)=n/\∀(r:Nat)(x:AEnt),r<q->es[r]?=some x->((x.born:Nat):Int)≠n
 |[],_,_,_,e=>by simp[BI]at e
 | x::xs,i,j,en,e=>by
  simp only[BI]at e;split at e
  ·rename_i hq;rw[pL]at hq;simp at e hq;obtain⟨rfl,rfl⟩:=e;exact⟨0,rfl,rfl,hq,λr x hr=>by omega⟩
  ·rename_i hq;rw[pL]at hq;simp at hq;obtain⟨q,rfl,h2,h3,h4⟩:=Ej e;refine⟨q+1,by omega,by simpa using h2,h3,λr y hr hy=>?_⟩;cases r with
   |zero=>simp at hy;subst hy;exact hq
   |succ r=>exact h4 r y (by omega) (by simpa using hy)
theorem Bf{t:TypeId}(hr:cS pl M h w){m s x:AV}{cm cs cx:Value}(hm:VRel pl M m cm)(hs:VRel pl M s cs)(hx:VRel pl M x cx)
  (he:kq h (some m) (some s) (some x)=some h'):∃w',(Instr.entryStore t cm cs cx).run P w=.ok () w'/\cS pl M h' w'/\dK h pl M w h' pl M w'/\h'.n=h.n:=by
 cases m<;>simp only[kq]at he<;>(try(exact absurd he (by simp)))
 cases s<;>simp only[]at he<;>(try(exact absurd he (by simp)))
 rename_i id kd n;split at he
 ·rename_i es clock hgo;cases hs
  cases hm with
  | map hp ha=>
   rename_i r p;have ho:=hr.obj id p _ hp hgo;cases hb:w.heap[p.blk]? with
   |none=>grind[bm]
   | some ob=>
    rw[hb]at ho;cases ob<;>simp only[bm]at ho
    rename_i entries clock';obtain⟨g1,g2,g3,g4⟩:=ho;have hrb:=ha g1;subst hrb;subst g2;have hents:EntsRel pl M es entries.toList:=⟨by omega,λi e hi=>by simp_all⟩
    have hgm:(getObj p.blk).run P w=.ok (.map entries clock') w:=by grind[getObj,Sem.run]
    have hsm:∀o,(setObj p.blk o).run P w=.ok () {w with heap:=w.heap.setIfInBounds p.blk o}:=by grind[setObj,Sem.run]
    have fin:∀(es':laq)(ents':Array MapEntry)(c':Nat),EntsRel pl M es' ents'.toList->
      cS pl M (h.put id (.map es' c')) {w with heap:=w.heap.setIfInBounds p.blk (.map ents' c')}/\dK h pl M w (h.put id (.map es' c')) pl M {w with heap:=w.heap.setIfInBounds p.blk (.map ents' c')}:=by
     intro es' ents' c' hrel;have hpe:upd pl id p=pl:=tK hp;have:=cS.change (w':={w with heap:=w.heap.setIfInBounds p.blk (.map ents' c')}) (o':=.map es' c') hr hp hgo (p':=p) (.inl rfl) ⟨rfl,rfl,rfl,ar _⟩ (by simp) (λb _ hne=>by grind) (.inl rfl) (by clear he;simp[hr.blk id p hp])
      (by grind[nC])
     simp_all
    split at he
    ·rename_i j en hfe;simp at he;subst he;obtain⟨q,rfl,q3,qb,qn⟩:=Ej hfe;simp only[fx];obtain⟨e',q4,q5,q6,q7⟩:=hents.at_ q en q3;have q4':entries[q]?=some e':=by simp_all
     have hix:entries.findIdx? (λe=>((e.born:Nat):Int)==n)=some q:=by
      have hq:q<entries.size:=by have:=(su.1 q4').1;exact this
      rw[Array.findIdx?_eq_some_iff_getElem];refine⟨hq,?_,λr hr=>?_⟩
      ·have:entries[q]=e':=by have:=(su.1 q4').2;exact this
       rw[this,q7];simpa using qb
      ·have hre:r<es.length:=by have:=hents.len;simp at this;omega
       obtain⟨e2,r1,r2,r3,r4⟩:=hents.at_ r es[r] (by simp[hre]);have h2:=qn r es[r] hr (by simp[hre]);have h3:entries[r]=e2:=by simpa using(fP.1 r1).2
       rw[h3,r4];simpa using h2
     have hrel:EntsRel pl M (es.set q {en with val:=x}) (entries.modify q λe=>{e with val:=cx}).toList:=by
      refine⟨by simpa using hents.len,λj e hj=>?_⟩;rw[CO]at hj;by_cases hij:q=j
      ·subst hij;have hil:q<es.length:=by have:=(fP.1 q3).1;exact this
       simp[hil]at hj;subst hj;exact⟨{e' with val:=cx},by simp[xk,q4'],q5,hx,q7⟩
      ·simp[hij]at hj;obtain⟨e2,r1,r2⟩:=hents.at_ j e hj;exact⟨e2,by simpa[xk,hij]using r1,r2⟩
     exact⟨_,by simp[Instr.entryStore,hgm,asInt,asIntOf,hix,hsm],(fin _ _ _ hrel).1,(fin _ _ _ hrel).2,rfl⟩
    simp_all
 simp_all
theorem Ci(t:TypeId)(m s x:Operand):jJ P G (.entryStore t m s x):=by
 intro pl M A h v h' a w dst ty pos after guard hg hr hf he;simp only[fc]at he;obtain⟨u,e1,e2⟩:=DJ he;simp at e2;obtain⟨rfl,rfl⟩:=e2;cases hm:(cA G m).run A with
 |none=>grind[kq]
 | some mv=>
  cases hss:(cA G s).run A with
  |none=>rw[hm,hss]at e1;simp only[kq]at e1;grind
  | some sv=>
   cases hxx:(cA G x).run A with
   |none=>rw[hm,hss,hxx]at e1;simp only[kq]at e1;grind
   |some xv=>
    rw[hm,hss,hxx]at e1;obtain⟨w',q1,q2,q3,q4⟩:=Bf (P:=P) (t:=t) hr (bK hg hf hm) (bK hg hf hss) (bK hg hf hxx) e1;exact⟨pl,M,undef,w',.skip,by simp[execOp,q1],.inr ⟨rfl,rfl⟩,.tuple rfl (λj y h=>by simp_all),q2,q3,by omega⟩
theorem Af(op:Op):jJ P G op:=by
 have none:fc P G op=dP->jJ P G op:=λe pl M A h v h' a w dst ty pos after guard hg hr hf he=>by grind[ab]
 cases op
 case move x=>exact M6 x
 case assign x=>exact O3 x
 case pick c a b=>grind[VU]
 case alloc e=>exact Rg e
 case box e x=>grind[Yf]
 case build t p=>grind[Re]
 case buildSlice t n p=>grind[Cl]
 case load t a=>grind[Vz]
 case store t a x=>grind[Rv]
 case nilCheck x=>exact HZ x
 case binOp op t x y z=>grind[Rf]
 case unOp op t x=>grind[VY]
 case convert s d x=>grind[KZ]
 case makeInterface t x=>grind[we]
 case makeFunc f a b=>grind[HW]
 case makeMap t r=>grind[J9]
 case makeSlice t l c=>grind[E1]
 case slice t x lo hi mx=>grind[Ry]
 case fieldAddr s x f=>grind[E3]
 case field s x f=>grind[Rc]
 case indexAddr t x i=>grind[E2]
 case index t x i=>grind[Rb]
 case lookup t m k ok=>grind[O2]
 case mapUpdate t m k x=>grind[uN]
 case insert t m k x=>simp_all[uN]
 case mapEntry t m k=>exact HX t m k
 case entryStore t m s x=>exact Ci t m s x
 case range t x=>grind[Ra]
 case next it b=>
  cases b
  all_goals grind[J8,Vq]
 case entry it=>grind[Rd]
 case extract t i=>grind[KQ]
 case call c=>
  obtain⟨callee,args,ts⟩:=c;cases callee with
  |builtin b=>grind[KX]
  |invoke r n=>exact none rfl
  |value f=>
   intro pl M A h v h' a w dst ty pos after guard hg hr hf he;simp only[fc]at he;split at he
   ·unfold EU at he;grind
   simp_all
 all_goals exact none rfl
end
section
variable{P:Program}{G:fz}{pl pl':Pl}{M M':dN}{h h':AHeap}{w w':World}{v:AV}
theorem rU{a b n:Nat}:Nat.mx a b<=n↔a<=n/\b<=n:=by grind[Nat.mx,bd]
theorem dS{n:Nat}:∀{xs:laa},az xs<=n↔∀x,x∈xs->x.top<=n
 |[]=>by simp[az]
 |x::r=>by simp[az,rU,dS (xs:=r)]
theorem ly{n:Nat}{x y:AV}(h:x.top<=n)(hy:y∈x.cells):y.top<=n:=by
 cases x<;>simp only[AV.cells,jr]at hy
 case agg cs=>simp only[AV.top]at h;exact dS.1 h y hy
 all_goals (subst hy;exact h)
def de(pl:Pl)(n:Nat):Pl:=λid=>if id<n then pl id else none
theorem aR{n id:Nat}{p:Place}:de pl n id=some p↔id<n/\pl id=some p:=by grind[de]
theorem VRel.agree{n:Nat}{x:Value}(h:VRel pl M v x)(ht:v.top<=n)(ha:∀id p,id<n->pl id=some p->pl' id=some p)(hm:qo M M'):VRel pl' M' v x:=by
 have elems:∀{xs:laa}{i j:Nat}{x y:AV},az xs<=n->xs[i]?=some x->x.cells[j]?=some y->y.top<=n:=by
  intro xs i j x y h1 h2 h3;exact ly (dS.1 h1 x (bC h2)) (bC h3)
 induction h with
 |bool b=>exact .bool b
 |int k n=>exact .int k n
 |str s=>exact .str s
 |nilp=>exact .nilp
 |ptr hp hle hh=>simp only[AV.top]at ht;exact .ptr (ha _ _ (by omega) hp) hle hh
 |pptr hm' hs hi hc ih=>
  simp only[AV.top]at ht;exact .pptr ⟨hm'.1,hm _ _ hm'.2.1,hm'.2.2⟩ hs hi (λi x j y h1 h2=>ih i x j y h1 h2 (elems ht h1 h2))
 |nils=>exact .nils
 |slice hp hle hl hk hh=>simp only[AV.top]at ht;exact .slice (ha _ _ (by omega) hp) hle hl hk hh
 |sl0n _ ih=>exact .sl0n (ih (b6 _))
 |sl0s _ ih=>exact .sl0s (ih ht)
 |ps hl ht' hm' hs hc ih=>
  simp only[AV.top]at ht;exact .ps hl ht' (λh=>⟨(hm' h).1,hm _ _ (hm' h).2.1,(hm' h).2.2⟩) hs (λi x j y h1 h2=>ih i x j y h1 h2 (elems ht h1 h2))
 |lsn=>exact .lsn
 |lsp _ ht0 ih=>exact .lsp (ih (by grind[AV.top])) ht0
 |nilm=>exact .nilm
 |map hp hh=>simp only[AV.top]at ht;exact .map (ha _ _ (by omega) hp) hh
 |func h1 h2 _ _ ih1 ih2=>
  simp only[AV.top,rU]at ht;exact .func h1 h2 (λj y hj=>ih1 j y hj (dS.1 ht.1 y (bC hj))) (λj y hj=>ih2 j y hj (dS.1 ht.2 y (bC hj)))
 |nilf=>exact .nilf
 |iface _ ih=>simp only[AV.top]at ht;exact .iface (ih ht)
 |nili=>exact .nili
 |agg h1 h2 _ ih=>simp only[AV.top]at ht;exact .agg h1 h2 (λj y hj=>ih j y hj (dS.1 ht y (bC hj)))
 |tuple h1 _ ih=>simp only[AV.top]at ht;exact .tuple h1 (λj y hj=>ih j y hj (dS.1 ht y (bC hj)))
theorem pN{n:Nat}:∀{es:laq},ce es<=n↔∀e,e∈es->e.key.top<=n/\e.val.top<=n
 |[]=>by simp[ce]
 |e::r=>by simp[ce,rU,pN (es:=r)]
theorem bm.agree{n:Nat}{p:Place}{o:AObj}{x:Option Obj}(h:bm pl M p o x)(ht:o.top<=n)(ha:∀id p,id<n->pl id=some p->pl' id=some p)(hm:qo M M'):bm pl' M' p o x:=by
 match o,x with
 | .dead,_=>trivial
 | .row sz op ep xs,some (.cells c t fr)=>
  obtain⟨h1,h2,h3,h4,h5,h6,h7,h8⟩:=h;simp only[AObj.top]at ht;exact⟨h1,h2,h3,h4,h5,h6,h7,⟨h8.fit,h8.elem,λi x j y k1 k2=>(h8.cell i x j y k1 k2).agree (ly (dS.1 ht x (bC k1)) (bC k2)) ha hm⟩⟩
 | .map es clock,some (.map entries clock')=>
  obtain⟨h1,h2,h3,h4⟩:=h;simp only[AObj.top]at ht;refine⟨h1,h2,h3,λi e hi=>?_⟩;obtain⟨e',k1,k2,k3,k4⟩:=h4 i e hi;have:=pN.1 ht e (bC hi);exact⟨e',k1,k2.agree this.1 ha hm,k3.agree this.2 ha hm,k4⟩
 | .siter s pos,some (.stringIter s' pos')=>exact h
 | .miter m clock seen,some (.mapIter m' since seen' stepped)=>simp only[AObj.top]at ht;exact⟨h.1,h.2.1,h.2.2.1.agree ht ha hm,h.2.2.2⟩
noncomputable def l8(pl:Pl)(M:dN)(w:World)(n:Nat):dN:=λb=>
 match M b with
 |some c=>some c
 | none=>
  open Classical in
  if ∃id p,n<=id/\pl id=some p/\p.blk=b then
   match w.heap[b]? with
   |some (.cells c _ _)=>some c
   |_=>none
  else none
theorem fO(n:Nat):qo M (l8 pl M w n):=λb c hb=>by grind[l8]
theorem jZ{n b:Nat}{c:Array Value}(hb:l8 pl M w n b=some c):M b=some c\/((∃id p,n<=id/\pl id=some p/\p.blk=b)/\∃t fr,w.heap[b]?=some (.cells c t fr)):=by
 unfold l8 at hb;cases hM:M b with
 |some c'=>simp_all
 |none=>
  rw[hM]at hb;simp only[]at hb;split at hb;all_goals grind
theorem o9(hr:cS pl M h w){n id:Nat}{p:Place}{c:Array Value}{t:TypeId}{fr:Nat×Nat}(hid:n<=id)(hp:pl id=some p)(hw:w.heap[p.blk]?=some (.cells c t fr)):l8 pl M w n p.blk=some c:=by
 unfold l8;rw[hr.sep id p hp];simp only[];rw[if_pos ⟨id,p,hid,hp,rfl⟩,hw]
theorem cS.dropped(hr:cS pl M h w){n:Nat}(hn:n<=h.n)(hc:∀id o,id<n->h.get id=some o->o.top<=n):cS (de pl n) (l8 pl M w n) (h.cut n) w:=by
 have ag:∀id p,id<n->pl id=some p->de pl n id=some p:=λid p h1 h2=>aR.2 ⟨h1,h2⟩
 refine⟨λid p hp=>(aR.1 hp).1,λid p o hp hg=>?_,λid p hp=>hr.blk id p (aR.1 hp).2,λid id' p p' h1 h2 h3=>hr.inj id id' p p' (aR.1 h1).2 (aR.1 h2).2 h3,λb c hb=>?_,λid p hp=>?_⟩
 ·obtain⟨h1,h2⟩:=aR.1 hp;obtain⟨h3,h4⟩:=iE hn hg;exact(hr.obj id p o h2 h4).agree (hc id o h3 h4) ag (fO n)
 ·rcases jZ hb with hb|⟨_,h2⟩
  ·exact hr.imm b c hb
  omega
 ·obtain⟨h1,h2⟩:=aR.1 hp;cases hd:l8 pl M w n p.blk with
  |none=>rfl
  |some c=>
   rcases jZ hd with hb|⟨⟨id',p',k1,k2,k3⟩,_⟩
   ·rw[hr.sep id p h2]at hb;grind
   ·have:=hr.inj id id' p p' h2 k2 k3.symm;omega
theorem gm{n:Nat}:∀(k:Nat),fH h n k=true->∀id o,id<k->h.get id=some o->o.top<=n
 |0,_,id,o,hid,_=>by omega
 |k+1,hc,id,o,hid,hg=>by
  unfold fH at hc;have key:fH h n k=true/\∀o,h.get k=some o->o.top<=n:=by grind[bd]
  rcases fg id k with hlt|hge
  ·exact gm k key.1 id o hlt hg
  grind
theorem gx{f:AV->lae}:∀{xs ys:laa},tF f xs=some ys->xs.length=ys.length/\∀(i:Nat)(y:AV),ys[i]?=some y->∃x,xs[i]?=some x/\f x=some y
 |[],ys,e=>by grind[tF]
 | x::r,ys,e=>by
  simp only[tF]at e;cases hx:f x with
  |none=>simp_all
  | some y=>
   cases hr:tF f r with
   |none=>simp_all
   |some zs=>
    simp[hx,hr]at e;subst e;obtain⟨h1,h2⟩:=gx hr;grind
theorem vK{n:Nat}{z y:AV}(e:vV n z=some y):y=z/\z.top<=n:=by grind[vV,bd]
theorem o3{n k:Nat}{x y:AV}(e:frz h k n x=some y):(dq x=true->dq y=true)/\(∀cs,x=.agg cs->∃ds,y=.agg ds/\tF (frz h (k-1) n) cs=some ds)/\(fj x=true->fj y=true):=by
 cases k with
 |zero=>grind[frz]
 | succ k=>
  have own:∀z:AV,vV n z=some y->y=z:=λz hz=>(vK hz).1
  cases x<;>simp only[frz]at e
  case slice id ep off len cap=>
   refine⟨λ_=>?_,λcs h=>(by grind),λ_=>?_⟩<;>
   ·split at e
    ·simp at e;subst e;rfl
    ·split at e
     ·split at e
      ·split at e
       ·simp at e;subst e;rfl
       ·simp at e
      ·simp at e
     ·simp at e
  case agg cs=>
   split at e
   ·rename_i ds hd;simp at e;subst e;exact⟨λh=>by grind[dq],λcs' h=>by simp_all,λ_=>rfl⟩
   simp_all
  case tuple cs=>grind[dq,fj]
  case func fn a b=>
   split at e
   ·simp at e;subst e;exact⟨λ_=>rfl,λcs h=>(by grind),λ_=>rfl⟩
   simp_all
  case iface t v=>
   split at e
   ·simp at e;subst e;exact⟨λ_=>rfl,λcs h=>(by grind),λ_=>rfl⟩
   simp_all
  all_goals (have:=own _ e;subst this;exact⟨λh=>h,λcs h=>(by cases h),λh=>h⟩)
theorem o4{n k:Nat}{x y:AV}(e:frz h k n x=some y)(hf:fj x=true)(hs:Sc x):y.cells.length=x.cells.length/\Sc y/\∀(j:Nat)(u:AV),y.cells[j]?=some u->∃z k',x.cells[j]?=some z/\frz h k' n z=some u:=by
 obtain⟨h1,h2,h3⟩:=o3 e;rcases BU x hf with⟨cs,rfl⟩|⟨hsx,hcx⟩
 ·obtain⟨ds,rfl,hd⟩:=h2 cs rfl;obtain⟨g1,g2⟩:=gx hd;refine⟨g1.symm,λu hu=>?_,λj u hu=>?_⟩
  ·obtain⟨j,hj⟩:=CM hu;obtain⟨z,k1,k2⟩:=g2 j u hj;exact(o3 k2).1 (hs z (bC k1))
  ·obtain⟨z,k1,k2⟩:=g2 j u hu;exact⟨z,_,k1,k2⟩
 ·have hsy:=h1 hsx;have hcy:y.cells=[y]:=by cases y<;>first|rfl|grind[dq]
  rw[hcx,hcy];refine⟨rfl,λu hu=>?_,λj u hu=>?_⟩;all_goals grind
theorem eV{n:Nat}:∀id p,id<n->pl id=some p->de pl n id=some p:=λid p h1 h2=>aR.2 ⟨h1,h2⟩
theorem mb (hr:cS pl M h w){n:Nat}{Md:dN}(hmd:qo M Md)
  (hd:∀id p sz op ep xs c t fr,n<=id->pl id=some p->h.get id=some (.row sz op ep xs)->w.heap[p.blk]?=some (.cells c t fr)->Md p.blk=some c):
  ∀(k:Nat)(v v':AV)(x:Value),VRel pl M v x->frz h k n v=some v'->VRel (de pl n) Md v' x
 |0,v,v',x,_,e=>by grind[frz]
 | k+1,v,v',x,hv,e=>by
  have low:∀{z:AV},VRel pl M z x->vV n z=some v'->VRel (de pl n) Md v' x:=by
   intro z hz hk;obtain⟨rfl,h2⟩:=vK hk;exact hz.agree h2 eV hmd
  cases v<;>simp only[frz]at e
  case slice id ep off len cap=>
   rw[dG]at e;by_cases hid:id<n
   ·simp[hid]at e;subst e;exact hv.agree (n:=n) (by grind[AV.top]) eV hmd
   ·simp only[hid,decide_false]at e;split at e
    ·rename_i sz op ep' xs hgo;rw[aD]at e;by_cases hep:ep=ep'
     ·simp only[hep,decide_true]at e;split at e
      ·rename_i ys hys;simp at e;subst e;cases hv with
       | slice hp hle hl hk ha=>
        rename_i cap' a p;have ho:=hr.obj id p _ hp hgo;cases hb:w.heap[p.blk]? with
        |none=>grind[bm]
        | some ob=>
         rw[hb]at ho;cases ob<;>simp only[bm]at ho
         rename_i c t fr;obtain⟨g1,g2,g3,g4,g5,g6,g7,g8⟩:=ho;obtain⟨q1,q2,q3,q4,q5⟩:=ha (by omega);obtain⟨m1,m2⟩:=gx hys;have hlen:ys.length=len:=by grind
         have src:∀(i:Nat)(y:AV),ys[i]?=some y->∃x,xs[off+i]?=some x/\i<len/\frz h k n x=some y:=by grind
         have cells:∀(i:Nat)(x y:AV),xs[off+i]?=some x->frz h k n x=some y->fj x=true:=by
          intro i x y h1 h2;have he:=(g8.elem x (bC h1)).2;cases x<;>first|rfl|skip
          exact absurd (he _ (by simp[AV.cells];rfl)) (by simp[dq])
         have hys0:ys≠[]->a=⟨p.blk,off*p.sz,none⟩:=by
          intro hne;rcases q1 with hc0|hc1
          all_goals simp_all
         have hfit:off*p.sz+ys.length*p.sz<=c.size:=by
          rw[<-g4]
          calc off*p.sz+ys.length*p.sz=(off+ys.length)*p.sz:=by grind
           _<=(off+cap')*p.sz:=e9 _ (by omega)
           _<=p.tot:=q2
         rw[<-hlen];refine VRel.ps (sz:=p.sz) (c:=c) (by omega) (λht=>?_) (λhne=>?_) (λy hy=>?_) (λi y j u hi hu=>?_)
         ·cases cap with
          |none=>grind[oI]
          |some cc=>simp[oI,aD]at ht;simp_all
         ·grind
         ·obtain⟨i,hi⟩:=CM hy;obtain⟨x,k1,k2,k3⟩:=src i y hi;have he:=g8.elem x (bC k1);grind[o4]
         ·have hne:ys≠[]:=λh0=>by simp_all
          rw[hys0 hne];obtain⟨x,k1,k2,k3⟩:=src i y hi;have he:=g8.elem x (bC k1);have hfl:=cells i x y k1 k3;rcases BU x hfl with⟨cs,rfl⟩|⟨hsx,hcx⟩
          ·obtain⟨ds,rfl,hds⟩:=(o3 k3).2.1 cs rfl;obtain⟨z1,z2⟩:=gx hds;obtain⟨z,y1,y2⟩:=z2 j u hu;have hz:=g8.cell _ _ j z k1 y1;have:=mb hr hmd hd (k-1) z u _ hz y2;grind
          ·have hsy:=(o3 k3).1 hsx;have hcy:y.cells=[y]:=by cases y<;>first|rfl|grind[dq]
           rw[hcy]at hu
           match j,hu with
           |0,hu=>
            simp at hu;subst hu;have hz:=g8.cell _ _ 0 x k1 (by simp_all);have:=mb hr hmd hd k x y _ hz k3;grind
      simp_all
     simp_all
    simp_all
  case agg cs=>
   split at e
   ·rename_i ds hds;simp at e;subst e;cases hv with
    |agg h1 h2 h3=>
     obtain⟨m1,m2⟩:=gx hds;refine .agg (by omega) (λy hy=>?_) (λj y hj=>?_)
     ·obtain⟨i,hi⟩:=CM hy;obtain⟨x,k1,k2⟩:=m2 i y hi;exact(o3 k2).1 (h2 x (bC k1))
     ·obtain⟨x,k1,k2⟩:=m2 j y hj;exact mb hr hmd hd k x y _ (h3 j x k1) k2
   simp_all
  case tuple cs=>
   split at e
   ·rename_i ds hds;simp at e;subst e;cases hv with
    |tuple h1 h3=>
     obtain⟨m1,m2⟩:=gx hds;refine .tuple (by omega) (λj y hj=>?_);obtain⟨x,k1,k2⟩:=m2 j y hj;exact mb hr hmd hd k x y _ (h3 j x k1) k2
   simp_all
  case func fn a b=>
   split at e
   ·rename_i a' b' ha hb;simp at e;subst e;cases hv with
    |func h1 h2 h3 h4=>
     obtain⟨m1,m2⟩:=gx ha;obtain⟨n1,n2⟩:=gx hb;refine .func (by omega) (by omega) (λj y hj=>?_) (λj y hj=>?_)
     ·obtain⟨x,k1,k2⟩:=m2 j y hj;exact mb hr hmd hd k x y _ (h3 j x k1) k2
     ·obtain⟨x,k1,k2⟩:=n2 j y hj;exact mb hr hmd hd k x y _ (h4 j x k1) k2
   simp_all
  case iface t u=>
   split at e
   ·rename_i u' hu;simp at e;subst e;cases hv with
    |iface h1=>exact .iface (mb hr hmd hd k u u' _ h1 hu)
   simp_all
  all_goals exact low hv e
end
section
variable{P:Program}{G:fz}{pl pl':Pl}{M M':dN}{h h':AHeap}{w w':World}{v:AV}
theorem dK.cut(hr0:cS pl M h w)(hs:dK h pl M w h' pl' M' w'){Md:dN}(hmd:qo M' Md)(hmn:∀b c,Md b=some c->M' b=some c\/∃id p,h.n<=id/\pl' id=some p/\p.blk=b)(hn:h.n<=h'.n):dK h pl M w (h'.cut h.n) (de pl' h.n) Md w':=by
 refine⟨λid p hp=>?_,λid hid hp=>?_,λb c hb=>hmd b c (hs.mem b c hb),hs.size,hs.kept,λid p' hp'=>?_,λid p hp hg=>?_,λid p hp hg=>?_,λb c hb=>?_,hs.os,hs.tape,hs.out,hs.drawn⟩
 ·obtain⟨p',h1,h2⟩:=hs.ext id p hp;exact⟨p',aR.2 ⟨hr0.dom id p hp,h1⟩,h2⟩
 ·have:=hs.new id hid hp;cases hc:de pl' h.n id with
  |none=>rfl
  |some q=>rw[(aR.1 hc).2]at this;omega
 ·exact hs.blks id p' (aR.1 hp').2
 ·have:=hs.live id p hp hg;cases hc:(h'.cut h.n).get id with
  |none=>rfl
  |some o=>rw[(iE hn hc).2]at this;omega
 ·exact aR.2 ⟨hr0.dom id p hp,hs.stay id p hp hg⟩
 ·rcases hmn b c hb with k|⟨id,p,k1,k2,k3⟩
  ·exact hs.memNew b c k
  ·rcases hs.blks id p k2 with⟨p0,k4,_⟩|k4
   ·have:=hr0.dom id p0 k4;omega
   omega
theorem cS.killed(hr:cS pl M h w){id:Nat}{o:AObj}(hg:h.get id=some o):cS pl M (h.put id .dead) w:=by
 have hid:id<1000000:=(AHeap.get_some.1 hg).2.1;refine⟨hr.dom,λk p o' hp hk=>?_,hr.blk,hr.inj,hr.imm,hr.sep⟩;rcases AHeap.get_put hid hk with⟨_,rfl⟩|⟨_,h2⟩
 ·exact trivial
 ·exact hr.obj k p o' hp h2
theorem vZ (pol:Nat){v2:AV}{h2:AHeap}{x:Value}(hr0:cS pl M h w)(hr:cS pl' M' h' w')(hv:VRel pl' M' v x)(hs:dK h pl M w h' pl' M' w')(hn:h.n<=h'.n)(e:gJ pol h.n v h'=(v2,h2)):
  ∃pl2 M2,VRel pl2 M2 v2 x/\cS pl2 M2 h2 w'/\dK h pl M w h2 pl2 M2 w'/\h.n<=h2.n:=by
 have same:(v,h')=(v2,h2)->∃pl2 M2,VRel pl2 M2 v2 x/\cS pl2 M2 h2 w'/\dK h pl M w h2 pl2 M2 w'/\h.n<=h2.n:=by grind
 have kept:fH h' h.n h.n=true->FJ v h' h.n (frz h' kU h.n v)=(v2,h2)->∃pl2 M2,VRel pl2 M2 v2 x/\cS pl2 M2 h2 w'/\dK h pl M w h2 pl2 M2 w'/\h.n<=h2.n:=by
  intro hc e;unfold FJ at e;split at e
  ·rename_i v' hf;simp at e;obtain⟨rfl,rfl⟩:=e;refine⟨de pl' h.n,l8 pl' M' w' h.n,mb hr (fO _) (λid p sz op ep xs c t fr k1 k2 k3 k4=>o9 hr k1 k2 k4) _ _ _ _ hv hf,hr.dropped hn (λid o k1 k2=>gm h.n hc id o k1 k2),hs.cut hr0 (fO _) (λb c hb=>(jZ hb).imp id (λk=>k.1)) hn,ar _⟩
  simp_all
 unfold gJ at e;split at e
 ·simp_all
 ·split at e
  ·grind
  ·split at e
   ·rename_i hc;unfold Hf at e;split at e
    ·rename_i id ep len cap;split at e
     ·rename_i sz op ep' xs hgo;split at e
      ·rename_i hck;simp only[bd,aD,ba,decide_eq_true_eq]at hck;obtain⟨⟨c1,c2⟩,c3⟩:=hck;unfold Ng at e;split at e
       ·rename_i ys hys;simp at e;obtain⟨rfl,rfl⟩:=e;cases hv with
        | slice hp hle hl hk ha=>
         rename_i cap' a p;have ho:=hr.obj id p _ hp hgo;cases hb:w'.heap[p.blk]? with
         |none=>grind[bm]
         | some ob=>
          rw[hb]at ho;cases ob<;>simp only[bm]at ho
          rename_i c t fr;obtain⟨g1,g2,g3,g4,g5,g6,g7,g8⟩:=ho;have hq:=ha (by omega);obtain⟨m1,m2⟩:=gx hys;have hpm:=hr.sep id p hp;let Md:dN:=λb=>if b=p.blk then none else l8 pl' M' w' h.n b
          have hmd:qo M' Md:=by
           intro b c' hb';have:b≠p.blk:=λe=>by grind
           simp[Md,this,fO h.n b c' hb']
          have hid:id<1000000:=(AHeap.get_some.1 hgo).2.1;have hk0:=hr.killed hgo;have hd:∀id' p' sz' op' ep' xs' c' t' fr',h.n<=id'->pl' id'=some p'->(h'.put id .dead).get id'=some (.row sz' op' ep' xs')->w'.heap[p'.blk]?=some (.cells c' t' fr')->Md p'.blk=some c':=by
           intro id' p' sz' op' ep' xs' c' t' fr' k1 k2 k3 k4;rcases AHeap.get_put hid k3 with⟨_,k5⟩|⟨k5,_⟩
           ·grind
           ·have:p'.blk≠p.blk:=λe=>k5 (hr.inj id' id p' p k2 hp e)
            grind[o9]
          let p2:Place:=⟨p.blk,0,p.sz,p.n,p.tot⟩
          have hext:nS (de pl' h.n) (upd (de pl' h.n) h.n p2):=λid q hq=>⟨q,by rw[dj (by have:=(aR.1 hq).1;omega)];omega,ar _,λ_=>rfl⟩
          have hcase:∀k q,upd (de pl' h.n) h.n p2 k=some q->(k=h.n/\q=p2)\/(k<h.n/\pl' k=some q):=by
           intro k q hq;by_cases e:k=h.n
           ·subst e;rw[eY]at hq;grind
           ·rw[dj e]at hq;exact .inr (aR.1 hq)
          have hmem:InMem (upd (de pl' h.n) h.n p2) Md c 0 sz ys:=by
           refine⟨by grind[cases InMem],λy hy=>?_,λi y j u hi hu=>?_⟩
           ·obtain⟨i,hi⟩:=CM hy;obtain⟨x,k1,k2⟩:=m2 i y hi;have he:=g8.elem x (bC k1);have hfl:fj x=true:=by
             cases x<;>first|rfl|skip
             exact absurd (he.2 _ (by simp[AV.cells];rfl)) (by simp[dq])
            grind[o4]
           ·obtain⟨x,k1,k2⟩:=m2 i y hi;have he:=g8.elem x (bC k1);have hfl:fj x=true:=by
             cases x<;>first|rfl|skip
             exact absurd (he.2 _ (by simp[AV.cells];rfl)) (by simp[dq])
            obtain⟨_,_,f3⟩:=o4 k2 hfl he.2;obtain⟨z,k',q1,q2⟩:=f3 j u hu;exact(mb hk0 hmd hd k' z u _ (g8.cell i x j z k1 q1) q2).mono hext (λ_ _ h=>h)
          refine⟨upd (de pl' h.n) h.n p2,Md,?_,⟨?_,?_,?_,?_,?_,?_⟩,?_,by simp[AHeap.push,AHeap.cut]⟩
          ·refine .slice (eY _ _ _) (b6 _) hl hk (λ_=>?_);grind
          ·intro k q hq;show k<h.n+1
           grind
          ·intro k q o hq hg;rcases hcase k q hq with⟨e,e2⟩|⟨e,e2⟩
           ·subst e;subst e2;rcases dh hg with⟨_,k⟩|⟨k,_⟩
            ·subst k;show bm _ _ _ _ w'.heap[p.blk]?
             rw[hb];exact⟨rfl,g2,by grind,g4,g5,g6,λho=>by grind,hmem⟩
            ·exact absurd k (xz _)
           ·rcases dh hg with⟨k,_⟩|⟨_,k⟩
            ·exact absurd k (by show ¬_=h.n;omega)
            ·obtain⟨h3,h4⟩:=iE hn k;exact((hr.obj _ q o e2 h4).agree (gm h.n hc _ o h3 h4) eV hmd).mono hext (λ_ _ h=>h)
          ·intro k q hq;rcases hcase k q hq with⟨_,e2⟩|⟨_,e2⟩
           ·grind
           ·exact hr.blk k q e2
          ·intro k k' q q' hq hq' e;rcases hcase k q hq with⟨a,b⟩|⟨a,b⟩<;>rcases hcase k' q' hq' with⟨a',b'⟩|⟨a',b'⟩
           ·omega
           ·subst b;have:=hr.inj id k' p q' hp b' e;omega
           ·subst b';have:=hr.inj k id q p b hp e;omega
           ·exact hr.inj k k' q q' b b' e
          ·intro b c' hb';by_cases e:b=p.blk
           ·grind
           ·simp only[Md,e,if_false]at hb';rcases jZ hb' with hb'|⟨_,k⟩
            ·exact hr.imm b c' hb'
            omega
          ·intro k q hq;rcases hcase k q hq with⟨_,e2⟩|⟨e1,e2⟩
           ·grind
           ·by_cases e:q.blk=p.blk
            ·grind
            ·simp only[Md,e,if_false];cases hd2:l8 pl' M' w' h.n q.blk with
             |none=>rfl
             |some c'=>
              rcases jZ hd2 with k1|⟨⟨id2,p3,k1,k2,k3⟩,_⟩
              ·rw[hr.sep k q e2]at k1;grind
              ·have:=hr.inj k id2 q p3 e2 k2 k3.symm;omega
          ·have hs1:=hs.cut hr0 hmd (λb c' hb'=>by
            by_cases e:b=p.blk
            ·grind
            ·grind[jZ]) hn
           refine⟨hs1.ext.trans hext,λk hk hp'=>?_,hs1.mem,hs1.size,hs1.kept,λk q hq=>?_,λk q hq hg=>?_,λk q hq hg=>?_,hs1.memNew,hs1.os,hs1.tape,hs1.out,hs1.drawn⟩
           ·rw[dj (by omega)];exact hs1.new k hk hp'
           ·rcases hcase k q hq with⟨e1,e2⟩|⟨e1,e2⟩
            ·subst e2;rcases hs.blks id p hp with⟨p0,k1,_⟩|k1
             ·have:=hr0.dom id p0 k1;omega
             grind
            ·exact hs.blks k q e2
           ·cases hg2:((h'.cut h.n).push (.row sz op 0 ys)).get k with
            |none=>rfl
            |some o=>
             rcases dh hg2 with⟨k1,_⟩|⟨_,k1⟩
             ·have:=hr0.dom k q hq;rw[k1]at this;exact absurd this (xz _)
             ·have:=hs1.live k q hq hg;grind
           ·rw[dj (by have:=hr0.dom k q hq;omega)];exact hs1.stay k q hq hg
       simp_all
      simp_all
     simp_all
    simp_all
   simp_all
  simp_all
end
def ip(pl:Pl)(M:dN)(h:AHeap)(w:World)(v:AV)(h':AHeap)(cv:Value)(w':World):Prop:=∃pl' M',VRel pl' M' v cv/\cS pl' M' h' w'/\dK h pl M w h' pl' M' w'/\h.n<=h'.n
def GZ(P:Program)(pl:Pl)(M:dN)(h:AHeap)(w:World)(f:FuncId)(vs:Array Value)(v:AV)(h':AHeap):Prop:=
 ((callFunc f vs).run P w=.ok (.enter f vs) w/\Calls P f vs w λe w'=>∃cv,e=.returned cv/\ip pl M h w v h' cv w')\/
 (∃cv w',(callFunc f vs).run P w=.ok (.value cv) w'/\ip pl M h w v h' cv w')
def cW(P:Program)(G:fz)(call:cn):Prop:=
 ∀(f:FuncId)(args:laa)(h:AHeap)(v:AV)(h':AHeap),call f args h=some (v,h')->
  ∀(pl:Pl)(M:dN)(w:World)(vs:Array Value),qc G pl M->cS pl M h w->VRels pl M args vs->GZ P pl M h w f vs v h'
structure SNow(G:fz)(N:Nat)(h0:AHeap)(pl0:Pl)(M0:dN)(w0:World)(s:St)(a:Act)(w:World):Prop where
 ex:∃pl M,qc G pl M/\cS pl M s.heap w/\FrRel pl M s.tmps a/\dK h0 pl0 M0 w0 s.heap pl M w/\h0.n<=s.heap.n
 n:s.tmps.n=N
 small:N<=60000
section
variable{P:Program}{G:fz}{N:Nat}{h0:AHeap}{pl0:Pl}{M0:dN}{w0:World}{pl:Pl}{M:dN}{h h':AHeap}{w w':World}{v:AV}{A A':Fr}{a a':Act}{s s':St}{call:cn}
theorem n8{dst:lau}{x:Value}(hf:FrRel pl M A a)(hv:VRel pl M v x)(hn:A.n<=60000)(e:jU A dst v=some A'):FrRel pl M A' (a.put dst x)/\A'.n=A.n:=by
 cases dst with
 |none=>simp[jU]at e;subst e;exact⟨hf,rfl⟩
 | some d=>
  simp only[jU]at e;have hn':A'.n=A.n:=by
   unfold Fr.put at e;grind
  refine⟨⟨by simp[Act.put,hn',hf.size],by simpa[Act.put]using hf.defers,λt u ht=>?_⟩,hn'⟩;obtain⟨_,h2,h3⟩:=Fr.get_put hn e ht;rcases h3 with⟨rfl,rfl⟩|⟨h4,h5⟩
  ·refine⟨by omega,?_⟩;have:(a.put (some t) x).tmps.getD t undef=x:=by simp[Act.put,iZ,hf.size,h2]
   simp_all
  ·obtain⟨k1,k2⟩:=hf.at_ t u h5;refine⟨by omega,?_⟩;have:(a.put (some d) x).tmps.getD t undef=a.tmps.getD t undef:=by simp[Act.put,iZ,Array.getElem?_setIfInBounds,Ne.symm h4]
   simp_all
theorem C3:VRel pl M gh undef:=.tuple rfl λj y h=>by simp_all
theorem fN{ops:Array Oper}{o:Oper}{b:Bool}(hf:FrRel pl M A a)(e:eO A (eL ops o)=some b):Region.wanted o (yielded ops a.tmps)=b:=by
 unfold eL at e;unfold Region.wanted;cases hg:o.guard with
 |none=>grind[eO]
 | some jw=>
  obtain⟨j,want⟩:=jw;rw[hg]at e;simp only[]at e;unfold yielded;cases hd:(ops[j]?).bind (·.dst)with
  |none=>grind[eO]
  | some d=>
   rw[hd]at e;simp only[eO]at e;cases hA:A.get d with
   |none=>simp_all
   |some u=>
    rw[hA]at e;obtain⟨k1,k2⟩:=hf.at_ d u hA;have hget:a.tmps[d]?=some (a.tmps.getD d undef):=Ns (by rw[hf.size];omega);simp only[hd,Option.bind_some,hget];generalize a.tmps.getD d undef=x at k2;cases k2<;>first|(simp at e;done)|skip
    case bool b'=>cases b'<;>cases want<;>simp at e<;>subst e<;>rfl
    grind
theorem MT(hc:cW P G call){ops:Array Oper}{o:Oper}{k:St->lbb}{K:Act->World->Prop}{Q:Exit->Act->World->Prop}
  (hs:SNow G N h0 pl0 M0 w0 s a w)(e:zG call (bR P G ops o) s k=some s')
  (hK:∀s1 a1 w1,SNow G N h0 pl0 M0 w0 s1 a1 w1->k s1=some s'->K a1 w1):
  if Region.wanted o (yielded ops a.tmps)then o.wp P a w K Q\/(o.asks P a w/\LetsOut Q)else K (a.put o.dst undef) w:=by
 have finS:∀r:Option (AV×AHeap),fin s.tmps o.dst k r=some s'->∃v h' A',r=some (v,h')/\jU s.tmps o.dst v=some A'/\k ⟨A',h'⟩=some s':=by
  intro r e;unfold fin at e;grind
 obtain⟨pl,M,g1,g2,g3,g4,g5⟩:=hs.ex;unfold zG bR at e;simp only[]at e;split at e
 ·rename_i hg;rw[fN g3 hg];simp only[if_true];left;obtain⟨v,h',A',e1,e2,e3⟩:=finS _ e;cases hr:(fc P G o.op).run s.tmps s.heap with
  |none=>grind[behind]
  | some r=>
   rw[hr]at e1;cases r with
   | val v1 h1=>
    simp[behind]at e1;obtain⟨rfl,rfl⟩:=e1;obtain⟨dst,op,ty,pos,after,guard⟩:=o;obtain⟨pl',M',cv,w',nx,q1,q2,q3,q4,q5,q6⟩:=Af (P:=P) (G:=G) op pl M s.tmps s.heap v1 h1 a w dst ty pos after guard g1 g2 g3 hr;have key:SNow G N h0 pl0 M0 w0 ⟨A',h1⟩ (a.put dst cv) w':=by
     obtain⟨p1,p2⟩:=n8 (g3.mono q5.ext q5.mem) q3 (by rw[hs.n];exact hs.small) e2;exact⟨⟨pl',M',g1.mono q5.ext q5.mem,q4,p1,g4.trans q5 g5,b0 g5 q6⟩,by rw[<-hs.n];omega,hs.small⟩
    unfold Oper.wp;rw[q1];rcases q2 with rfl|⟨rfl,rfl⟩
    ·exact hK _ _ _ key e3
    ·exact hK _ _ _ key e3
   | call f args=>
    simp only[behind]at e1;obtain⟨vs,q1,q2⟩:=uO (P:=P) (w:=w) g1 g3 hr;have key:∀cv w',ip pl M s.heap w v h' cv w'->SNow G N h0 pl0 M0 w0 ⟨A',h'⟩ (a.put o.dst cv) w':=by
     intro cv w' ⟨pl',M',k1,k2,k3,k4⟩;obtain⟨p1,p2⟩:=n8 (g3.mono k3.ext k3.mem) k1 (by rw[hs.n];exact hs.small) e2;exact⟨⟨pl',M',g1.mono k3.ext k3.mem,k2,p1,g4.trans k3 g5,b0 g5 k4⟩,by rw[<-hs.n];omega,hs.small⟩
    unfold Oper.wp;rw[q2];rcases hc f args s.heap v h' e1 pl M w vs g1 g2 q1 with⟨k1,k2⟩|⟨cv,w',k1,k2⟩
    ·rw[k1];refine Calls.mono k2 λen w'' hh=>?_
     grind
    ·rw[k1];exact hK _ _ _ (key cv w' k2) e3
 ·rename_i hg;rw[fN g3 hg];simp only[gr,if_false];obtain⟨v,h',A',e1,e2,e3⟩:=finS _ e;simp at e1;obtain⟨rfl,rfl⟩:=e1;obtain⟨p1,p2⟩:=n8 g3 C3 (by rw[hs.n];exact hs.small) e2;have hn2:A'.n=N:=by rw[p2];exact hs.n
  exact hK ⟨A',s.heap⟩ _ _ (⟨⟨pl,M,g1,g2,p1,g4,g5⟩,hn2,hs.small⟩:SNow G N h0 pl0 M0 w0 ⟨A',s.heap⟩ _ _) e3
 simp_all
theorem Rj(hc:cW P G call){ops:Array Oper}{Q:Exit->Act->World->Prop}(hQ:∀a1 w1,SNow G N h0 pl0 M0 w0 s' a1 w1->Q .normal a1 w1):
  ∀(l:las)(i:Nat)(s:St)(a:Act)(w:World),(∀j,ops[i+j]?=l[j]?)->(AW P G ops l).run call s=some s'->SNow G N h0 pl0 M0 w0 s a w->wpOps P ops Q (List.range' i l.length) a w
 |[],i,s,a,w,hl,e,hs=>by
  simp[AW]at e;subst e;exact hQ a w hs
 |o::r,i,s,a,w,hl,e,hs=>by
  simp only[AW]at e;have ho:ops[i]?=some o:=by simpa using hl 0
  simp only[dw,CL,wpOps,ho];refine MT (K:=wpOps P ops Q (List.range' (i+1) r.length)) hc hs e λs1 a1 w1 h1 h2=>?_
  exact Rj hc hQ r (i+1) s1 a1 w1 (λj=>by have:=hl (j+1);grind) h2 h1
def wJ:AExit->Exit
 | .normal=>.normal
 | .exit id=>.exit id
 | .ret=>.ret
def GQ(P:Program)(G:fz)(call:cn):Prop:=
 ∀(N:Nat)(h0:AHeap)(pl0:Pl)(M0:dN)(w0:World)(ops:Array Oper)(id:Nat)(s s':St)(a:Act)(w:World)(Q:Exit->Act->World->Prop),
  (Fg P G ops).run call s=some s'->SNow G N h0 pl0 M0 w0 s a w->(∀a1 w1,SNow G N h0 pl0 M0 w0 s' a1 w1->Q .normal a1 w1)->(Code.region id ops true).wp P Q a w
theorem Dc{o:lbb}{e:AExit}(h:Rr o=some (e,s')):o=some s'/\e=.normal:=by
 cases o with
 |none=>simp_all[Rr]
 |some s=>simp_all[Rr]
theorem WE(hc:cW P G call)(hd:GQ P G call)(n:Nat):∀(c:Code)(s:St)(e:AExit)(s':St)(a:Act)(w:World)(Q:Exit->Act->World->Prop),
  (eE P G n c).run call s=some (e,s')->SNow G N h0 pl0 M0 w0 s a w->(∀a1 w1,SNow G N h0 pl0 M0 w0 s' a1 w1->Q (wJ e) a1 w1)->c.wp P Q a w:=by
 intro c;induction c with
 |skip=>
  intro s e s' a w Q he hs hQ;simp[eE]at he;obtain⟨rfl,rfl⟩:=he;exact wp_skip (hQ a w hs)
 |label l=>
  intro s e s' a w Q he hs hQ;simp[eE]at he;obtain⟨rfl,rfl⟩:=he;exact wp_label (hQ a w hs)
 | region id ops draw=>
  intro s e s' a w Q he hs hQ;cases draw with
  |false=>
   simp only[eE]at he;obtain⟨h1,rfl⟩:=Dc he;refine wp_region ?_;rw[List.range_eq_range'];have hlen:ops.size=ops.toList.length:=by simp
   rw[hlen];exact Rj hc hQ ops.toList 0 s a w (λj=>by simp) h1 hs
  |true=>
   simp only[eE]at he;obtain⟨h1,rfl⟩:=Dc he;exact hd N h0 pl0 M0 w0 ops id s s' a w Q h1 hs hQ
 | seq x y ihx ihy=>
  intro s e s' a w Q he hs hQ;simp only[eE]at he;cases hx:(eE P G n x).run call s with
  |none=>grind[L3]
  |some r=>
   obtain⟨e1,s1⟩:=r;rw[hx]at he;refine wp_seq (ihx s e1 s1 a w _ hx hs λa1 w1 h1=>?_);cases e1 with
   |normal=>exact ihy s1 e s' a1 w1 Q he h1 hQ
   |exit id=>simp[L3]at he;obtain⟨rfl,rfl⟩:=he;exact hQ a1 w1 h1
   |ret=>simp[L3]at he;obtain⟨rfl,rfl⟩:=he;exact hQ a1 w1 h1
 | cond c x y ihx ihy=>
  intro s e s' a w Q he hs hQ;simp only[eE]at he;obtain⟨pl,M,g1,g2,g3,g4,g5⟩:=hs.ex;cases hcv:(cA G c).run s.tmps with
  |none=>grind[Tc]
  |some cv=>
   have hv:=bK g1 g3 hcv;rw[hcv]at he;cases cv<;>simp[Tc]at he
   grind[wp_cond_false,wp_cond_true,cases VRel]
 | block id b ih=>
  intro s e s' a w Q he hs hQ;simp only[eE]at he;cases hx:(eE P G n b).run call s with
  |none=>grind[inBlock]
  | some r=>
   obtain⟨e1,s1⟩:=r;rw[hx]at he;refine wp_block (ih s e1 s1 a w _ hx hs λa1 w1 h1=>?_);cases e1 with
   |normal=>simp[inBlock]at he;obtain⟨rfl,rfl⟩:=he;exact hQ a1 w1 h1
   |ret=>simp[inBlock]at he;obtain⟨rfl,rfl⟩:=he;exact hQ a1 w1 h1
   |exit id'=>
    simp only[inBlock,aD]at he;by_cases hid:id'=id
    ·simp[hid]at he;obtain⟨rfl,rfl⟩:=he;simp_all[wJ,Exit.inBlock]
    ·simp[hid]at he;obtain⟨rfl,rfl⟩:=he;simp_all[wJ,Exit.inBlock]
 | loop b ih=>
  intro s e s' a w Q he hs hQ;simp only[eE]at he;have key:∀(m:Nat)(s:St)(a:Act)(w:World),rounds ((eE P G n b).run call) m s=some (e,s')->SNow G N h0 pl0 M0 w0 s a w->Code.rounds P b Q m a w:=by
   intro m;induction m with
   |zero=>simp_all[rounds]
   | succ m ihm=>
    intro s a w h hs;have h:oL (rounds ((eE P G n b).run call) m) ((eE P G n b).run call s)=some (e,s'):=h;rw[rounds_succ];cases hx:(eE P G n b).run call s with
    |none=>grind[oL]
    |some r=>
     obtain⟨e1,s1⟩:=r;rw[hx]at h;refine ih s e1 s1 a w _ hx hs λa1 w1 h1=>?_
     cases e1 with
     |normal=>exact ihm s1 a1 w1 h h1
     |exit id=>simp[oL]at h;obtain⟨rfl,rfl⟩:=h;exact hQ a1 w1 h1
     |ret=>simp[oL]at h;obtain⟨rfl,rfl⟩:=h;exact hQ a1 w1 h1
  grind[wp_loop_rounds]
 |exit id=>
  intro s e s' a w Q he hs hQ;simp[eE]at he;obtain⟨rfl,rfl⟩:=he;exact wp_exit (hQ a w hs)
 |scope b ih=>
  intro s e s' a w Q he hs hQ;simp only[eE]at he;refine wp_scope_straight (ih s e s' a w _ he hs λa1 w1 h1=>?_);cases e<;>exact hQ a1 w1 h1
 |ret=>
  intro s e s' a w Q he hs hQ;simp[eE]at he;obtain⟨rfl,rfl⟩:=he;exact wp_ret (hQ a w hs)
 |_=>intro s e s' a w Q he hs hQ;simp[eE]at he
end
section
variable{P:Program}{G:fz}{pl:Pl}{M:dN}{h h':AHeap}{w w':World}{v:AV}{A:Fr}{a:Act}
def UP(tmps:Array Value):ResultVar->Sem Value
 | .tmp t=>pure (tmps.getD t undef)
 | .cell ad t=>do loadVar t (<-asAddr (tmps.getD ad undef))
theorem JP(fn:Func)(tmps:Array Value):results fn tmps=(do let vs <-fn.results.mapM (UP tmps);pure (if h:vs.size=1 then vs[0]else .tuple vs)):=rfl
theorem UN(hr:cS pl M h w)(hf:FrRel pl M A a){x:ResultVar}(e:(UO P x).run A h=some v):
  ∃cv,(UP a.tmps x).run P w=.ok cv w/\VRel pl M v cv:=by
 cases x with
 |tmp t=>exact⟨_,rfl,(hf.at_ t v e).2⟩
 | cell ad t=>
  simp only[UO]at e;split at e
  ·rename_i ag n h1 h2;simp only[]at e;cases hx:A.get ad with
   |none=>grind[AM]
   |some xv=>grind[He,UP,asAddr,cases FrRel]
  simp_all
theorem xn(hr:cS pl M h w)(hf:FrRel pl M A a):∀(l:List ResultVar)(vs:laa),fh P l A h=some vs->
  ∃cs:lao,(l.mapM (UP a.tmps)).run P w=.ok cs w/\VRels pl M vs cs.toArray
 |[],vs,e=>by
  simp[fh]at e;subst e;exact⟨[],rfl,⟨rfl,λj y h=>by simp_all⟩⟩
 | x::r,vs,e=>by
  simp only[fh]at e;cases hx:(UO P x).run A h with
  |none=>simp_all
  | some v=>
   cases hrr:fh P r A h with
   |none=>simp_all
   | some vr=>
    simp[hx,hrr]at e;subst e;obtain⟨cv,k1,k2⟩:=UN hr hf hx;obtain⟨cs,q1,q2⟩:=xn hr hf r vr hrr;refine⟨cv::cs,?_,⟨by simp[q2.len],λj y hj=>?_⟩⟩
    ·simp_all
    ·match j,hj with
     |0,hj=>simp_all
     |j+1,hj=>
      have:=q2.at_ j y (by simp_all);simp_all
theorem tv(hr:cS pl M h w)(hf:FrRel pl M A a){fn:Func}(e:fw (fh P fn.results.toList A h)=some v):
  ∃cv,(results fn a.tmps).run P w=.ok cv w/\VRel pl M v cv:=by
 cases hl:fh P fn.results.toList A h with
 |none=>grind[fw]
 | some vs=>
  rw[hl]at e;obtain⟨cs,q1,q2⟩:=xn hr hf _ _ hl;have hrun:(results fn a.tmps).run P w=.ok (if h:cs.toArray.size=1 then cs.toArray[0]else .tuple cs.toArray) w:=by
   rw[JP,Sem.run_bind,Array.mapM_eq_mapM_toList,Sem.run_map,q1];rfl
  refine⟨_,hrun,?_⟩;have hlen:=q2.len;unfold fw at e;split at e
  ·rename_i v1 q;simp at q e;subst q;subst e;have hone:cs.toArray.size=1:=by simp_all
   rw[dif_pos hone];have:=q2.at_ 0 _ rfl;simp_all
  ·rename_i vs' hne q;simp at q e;subst q;subst e;have hne1:¬cs.toArray.size=1:=by
    rw[<-hlen];intro h1
    match vs,h1,hne with
    |[x],_,hne=>simp_all
   rw[dif_neg hne1];exact .tuple q2.len q2.at_
  simp_all
theorem BT{n:Nat}:∀(l:laa)(i:Nat)(t:Tr AV)(j:Nat)(u:AV),i+l.length<=60000->(ib n l i t).get j=some u->(i<=j/\l[j-i]?=some u)\/t.get j=some u
 |[],i,t,j,u,_,h=>.inr h
 | x::r,i,t,j,u,hl,h=>by
  simp only[ib]at h;simp only[dw]at hl;rcases BT r (i+1) _ j u (by omega) h with⟨h1,h2⟩|h1
  ·grind
  ·rcases jW 16 t i x j u (by omega) h1 with⟨rfl,rfl⟩|⟨_,h2⟩
   all_goals simp_all
theorem zH{args:laa}{vs:Array Value}{n:Nat}(hv:VRels pl M args vs)(hn:args.length<=n)(hs:n<=60000):
  FrRel pl M ⟨n,ib n args 0 .nil⟩ {tmps:=vs++Array.replicate (n-vs.size) undef,defers:=[]}:=by
 have hl:=hv.len;refine⟨by simp_all,rfl,λt u ht=>?_⟩;rcases BT args 0 .nil t u (by omega) ht with⟨_,h2⟩|h2
 ·have h2:args[t]?=some u:=by omega
  have hlt:t<args.length:=(fP.1 h2).1;refine⟨by grind,?_⟩;have:=hv.at_ t u h2;have e:(vs++Array.replicate (n-vs.size) undef).getD t undef=vs.getD t undef:=by simp_all[Array.getElem?_append_left]
  simp_all
 grind[f8]
def Xa(P:Program):Prop:=∀(f:FuncId)(fn:Func),P.funcs[f]?=some fn->(fn.name== "runtime.NumGoroutine")=false
def Lu(C:Cfg):Prop:=
 ∀(f:FuncId)(args:laa)(h:AHeap)(v:AV)(h':AHeap),C.hook f args h=some (v,h')->
  ∀(pl:Pl)(M:dN)(w:World)(vs:Array Value),qc C.G pl M->cS pl M h w->VRels pl M args vs->GZ C.P pl M h w f vs v h'
theorem PA{C:Cfg}{call:cn}(hN:Xa C.P)(hc:cW C.P C.G call)(hd:GQ C.P C.G call){f:FuncId}{args:laa}(e:Bg C call f args h (Ss C f)=some (v,h'))
  {vs:Array Value}(hg:qc C.G pl M)(hr:cS pl M h w)(hv:VRels pl M args vs):GZ C.P pl M h w f vs v h':=by
 unfold Ss at e;cases hf:C.P.funcs[f]? with
 |none=>grind[Bg]
 | some fn=>
  cases hb:fn.body with
  |none=>grind[Bg]
  | some c=>
   simp only[hf,hb,Bg]at e;split at e
   ·rename_i hck;simp only[bd,ba,decide_eq_true_eq]at hck;left;refine⟨?_,?_⟩
    ·have hne:=hN f fn hf;simp_all[callFunc]
    ·refine calls_of_wp hf hb ?_;cases hx:(eE C.P C.G C.rounds c).run call ⟨⟨fn.ntmps,ib fn.ntmps args 0 .nil⟩,h⟩with
     |none=>grind[Zx]
     | some r=>
      obtain⟨ex,s1⟩:=r;rw[hx]at e;have hs0:SNow C.G fn.ntmps h pl M w ⟨⟨fn.ntmps,ib fn.ntmps args 0 .nil⟩,h⟩ {tmps:=vs++Array.replicate (fn.ntmps-vs.size) undef,defers:=[]} w:=⟨⟨pl,M,hg,hr,zH hv hck.1 hck.2,dK.refl _ _ _ _,ar _⟩,rfl,hck.2⟩
      refine WE hc hd C.rounds c _ ex s1 _ w _ hx hs0 λa1 w1 h1=>?_
      have fin:∀r,FX (C.pol f) h.n s1.heap (fw (fh C.P fn.results.toList s1.tmps s1.heap))=some r->r=(v,h')->
        a1.defers=[]/\∃u,(results fn a1.tmps).run C.P w1=.ok u w1/\∃cv,Ending.returned u=.returned cv/\ip pl M h w v h' cv w1:=by
       intro r er hrr;obtain⟨pl1,M1,g1,g2,g3,g4,g5⟩:=h1.ex;cases hres:fw (fh C.P fn.results.toList s1.tmps s1.heap)with
       |none=>grind[FX]
       |some v1=>
        rw[hres]at er;simp only[FX,zc]at er;obtain⟨cv,k1,k2⟩:=tv g2 g3 hres;obtain⟨pl2,M2,q1,q2,q3,q4⟩:=vZ (C.pol f) hr g2 k2 g4 g5 (er.trans hrr);exact⟨g3.defers,cv,k1,cv,rfl,pl2,M2,q1,q2,q3,q4⟩
      cases ex with
      |exit id=>grind[Zx]
      |normal=>exact fin _ e rfl
      |ret=>exact fin _ e rfl
   simp_all
theorem DN{C:Cfg}(hN:Xa C.P)(hH:Lu C)(hd:∀call,cW C.P C.G call->GQ C.P C.G call):∀(k:Nat),cW C.P C.G (fF C k)
 |0=>by intro f args h v h' e;simp_all[fF]
 | k+1=>by
  intro f args h v h' e pl M w vs hg hr hv;have e:ET C (fF C k) f args h (C.hook f args h)=some (v,h'):=e;have ih:=DN hN hH hd k;cases hh:C.hook f args h with
  |some r=>
   rw[hh]at e;simp[ET]at e;subst e;exact hH f args h v h' hh pl M w vs hg hr hv
  |none=>
   rw[hh]at e;exact PA hN ih (hd _ ih) e hg hr hv
end
def fD(pl pl':Pl)(n:Nat):Pl:=λid=>if id<n then pl' id else pl id
open Classical in
noncomputable def ku(W:Nat->Prop)(g g':Nat->lav):Nat->lav:=λid=>if W id then g' id else g id
section
variable{P:Program}{G:fz}{pl pl':Pl}{M M':dN}{w w':World}
theorem mN{W:Nat->Prop}{g g':Nat->lav}{id:Nat}(h:W id):ku W g g' id=g' id:=by grind[ku]
theorem iz{W:Nat->Prop}{g g':Nat->lav}{id:Nat}(h:¬W id):ku W g g' id=g id:=by grind[ku]
theorem NJ{nk n0:Nat}{g:Nat->lav}{hv h':AHeap}{W:Nat->Prop}(hr:RepF pl M nk g w)(hn0:n0<=hv.n)(hvg:∀id o,hv.get id=some o->g id=some o)
  (hr':cS pl' M' h' w')(hs:dK hv (de pl hv.n) M w h' pl' M' w')(hle:hv.n<=h'.n)(hnk:h'.n=hv.n\/h'.n<=nk)
  (hU:∀id,hv.n<=id->id<h'.n->pl id=none)
  (W1:∀id,id<hv.n->¬W id->hv.get id≠none->h'.get id=hv.get id)
  (W2:∀id,W id->id<hv.n->hv.get id≠none)(W3:∀id,W id->id<h'.n)(W4:∀id,hv.n<=id->id<h'.n->W id):
  RepF (fD pl pl' h'.n) M' nk (ku W g h'.get) w'/\StepF n0 g pl M w (ku W g h'.get) (fD pl pl' h'.n) M' w'/\nS pl' (fD pl pl' h'.n)/\nS pl (fD pl pl' h'.n):=by
 have ext':nS pl' (fD pl pl' h'.n):=λid p hp=>⟨p,by grind[fD,cases RepF],ar _,λ_=>rfl⟩
 have hcase:∀id q,fD pl pl' h'.n id=some q->(id<h'.n/\pl' id=some q)\/(h'.n<=id/\pl id=some q):=by grind[fD]
 have hgone:∀id,g id=none->hv.get id=none:=by
  intro id hg;cases hv2:hv.get id with
  |none=>rfl
  |some o=>simp_all
 have low:∀id p,pl id=some p->id<h'.n->id<hv.n:=by grind
 have back:∀id q,pl' id=some q->id<hv.n->∃p,pl id=some p:=by
  intro id q hq hid;cases hp:pl id with
  |some p=>simp_all
  |none=>
   have:=hs.new id hid (by grind[de]);grind
 have ext:nS pl (fD pl pl' h'.n):=by
  intro id p hp;by_cases e:id<h'.n
  ·obtain⟨p',h1,h2⟩:=hs.ext id p (aR.2 ⟨low id p hp e,hp⟩);grind[fD]
  ·exact⟨p,by grind[fD],ar _,λ_=>rfl⟩
 have unseen:∀id p,pl id=some p->hv.get id=none->w'.heap[p.blk]?=w.heap[p.blk]?:=by
  intro id p hp hg;refine hs.kept p.blk (hr.blk id p hp) λid2 p2 h2 h3 e=>?_
  have:=hr.inj id2 id p2 p (aR.1 h2).2 hp e;simp_all
 have blks:∀id q,fD pl pl' h'.n id=some q->(∃p,pl id=some p/\p.blk=q.blk)\/w.heap.size<=q.blk:=by
  intro id q hq;rcases hcase id q hq with⟨h1,h2⟩|⟨h1,h2⟩
  ·rcases hs.blks id q h2 with⟨p,k1,k2⟩|k
   ·exact .inl ⟨p,(aR.1 k1).2,k2⟩
   omega
  simp_all
 have hge:∀id,h'.n<=id->hv.get id=none:=by
  intro id hid;cases h2:hv.get id with
  |none=>rfl
  |some o=>have:=(AHeap.get_some.1 h2).1;omega
 refine⟨⟨?_,?_,?_,?_,hr'.imm,?_⟩,⟨ext,?_,hs.mem,hs.size,?_,blks,?_,?_,hs.memNew,hs.os,hs.tape,hs.out,hs.drawn⟩,ext',ext⟩
 ·intro id q hq;rcases hcase id q hq with⟨h1,h2⟩|⟨h1,h2⟩
  ·grind[cases RepF]
  ·exact hr.dom id q h2
 ·intro id q o hq hg;rcases hcase id q hq with⟨h1,h2⟩|⟨h1,h2⟩
  ·by_cases hW:W id
   ·rw[mN hW]at hg;exact(hr'.obj id q o h2 hg).mono ext' (λ_ _ h=>h)
   ·rw[iz hW]at hg;have hlow:id<hv.n:=by grind
    cases hvv:hv.get id with
    |some o1=>
     have h3:=hvg id o1 hvv;rw[hg]at h3;have h4:=W1 id hlow hW (by simp_all);rw[hvv,<-h3]at h4;exact(hr'.obj id q o h2 h4).mono ext' (λ_ _ h=>h)
    |none=>
     obtain⟨p,hp⟩:=back id q h2 hlow;have h3:=hs.stay id p (aR.2 ⟨hlow,hp⟩) hvv;rw[h2]at h3;have h3:=LI h3;subst h3;rw[unseen id q hp hvv];exact(hr.obj id q o hp hg).mono ext hs.mem
  ·have hW:¬W id:=λhW=>by grind
   rw[iz hW]at hg;rw[unseen id q h2 (hge id h1)];exact(hr.obj id q o h2 hg).mono ext hs.mem
 ·intro id q hq;rcases hcase id q hq with⟨h1,h2⟩|⟨h1,h2⟩
  ·exact hr'.blk id q h2
  grind[cases RepF]
 ·grind[cases RepF]
 ·intro id q hq;rcases hcase id q hq with⟨h1,h2⟩|⟨h1,h2⟩
  ·exact hr'.sep id q h2
  ·cases hm:M' q.blk with
   |none=>rfl
   |some c=>
    rcases hs.memNew _ c hm with k|k
    all_goals grind[cases RepF]
 ·intro id hid hp;have h1:id<h'.n:=by omega
  simp only[fD,h1,if_true];exact hs.new id (by omega) (by grind[de])
 ·intro b hb hn;refine hs.kept b hb λid p h1 h2=>?_
  refine hn id p (aR.1 h1).2 λhg=>h2 (hgone id hg)
 ·grind[iz]
 ·intro id p hp hg;by_cases e:id<h'.n
  ·have h1:=low id p hp e;simp only[fD,e,if_true];exact hs.stay id p (aR.2 ⟨h1,hp⟩) (hgone id hg)
  grind[fD]
end
end Go.Ev
namespace Go.Ev
open Go
section
variable{P:Program}{G:fz}{pl pl':Pl}{M M':dN}{h h':AHeap}{w w':World}{v:AV}{A F:Fr}{a:Act}
theorem rdV{o:lae}{v:AV}{h':AHeap}(e:bp h o=some (.val v h')):h'=h:=by
 cases o<;>simp[bp]at e
 simp_all
theorem G2(op:Op)(hk:da op=0)(e:(fc P G op).run A h=some (.val v h')):h'=h:=by
 cases op
 case makeFunc f x y=>grind[fc]
 case build t parts=>
  simp only[fc]at e
  repeat' (first|exact(ab e).elim |(unfold Cu at e;split at e;split at e;exact rdV e)|exact(ab e).elim |(split at e)|(simp only[]at e))
 case call c=>
  obtain⟨callee,args,ts⟩:=c;cases callee with
  |builtin b=>
   simp only[fc]at e;unfold iD at e
   repeat' (first|(simp[da]at hk;done)|exact rdV e|exact(ab e).elim |(simp at e;done)|(split at e)|(simp only[]at e))
  |invoke r n=>grind[da]
  |value f=>grind[da]
 all_goals first|(simp[da]at hk;done)|skip
 all_goals (simp only[fc]at e;(try unfold wR at e);(try unfold Cu at e);(try unfold iD at e);repeat' (first|exact rdV e|exact(ab e).elim |(simp at e;done)|(split at e)|(simp only[]at e)))
theorem Kq{l:lba}:∀{t0:Tr AV}{x:Tmp}{u:AV},(b7 F l t0).get x=some u->(x∈l/\F.get x=some u)\/t0.get x=some u:=by
 induction l with
 |nil=>intro t0 x u h;exact .inr h
 | cons y r ih=>
  intro t0 x u h;simp only[b7]at h;rcases ih h with⟨h1,h2⟩|h1
  ·simp_all
  ·cases hy:F.get y with
   |none=>simp_all
   | some z=>
    rw[hy,dG]at h1;by_cases hlt:y<60000
    ·simp only[hlt,decide_true]at h1;rcases jW 16 t0 y z x u (Nat.lt_trans (Nat.succ_lt_succ hlt) (by omega)) h1 with⟨rfl,rfl⟩|⟨_,h2⟩
     all_goals simp_all
    simp_all
theorem O1{ids:laf}:∀{t0:Tr AObj}{id:Nat}{o:AObj},(bL h ids t0).get id=some o->(id∈ids/\h.get id=some o)\/t0.get id=some o:=by
 induction ids with
 |nil=>intro t0 x u h;exact .inr h
 | cons y r ih=>
  intro t0 x u hx;simp only[bL]at hx;rcases ih hx with⟨h1,h2⟩|h1
  ·simp_all
  ·cases hy:h.get y with
   |none=>simp_all
   |some z=>
    rw[hy]at h1;have hlt:=(AHeap.get_some.1 hy).2.1;rcases jW 20 t0 y z x u (by omega) h1 with⟨rfl,rfl⟩|⟨_,h2⟩
    all_goals simp_all
theorem rV{ids:laf}{n id:Nat}{o:AObj}(e:(⟨n,bL h ids .nil⟩:AHeap).get id=some o):id∈ids/\h.get id=some o:=by
 obtain⟨_,_,h3⟩:=AHeap.get_some.1 e;rcases O1 h3 with h|h
 all_goals grind[f8]
theorem Oa{n:Nat}{l:lba}(e:iT F n l=true):∀t u,t∈l->F.get t=some u->u.top<=n:=by
 induction l with
 |nil=>simp_all
 |cons x r ih=>
  simp only[iT,ba]at e;grind[bd]
theorem O5{n:Nat}{l:laf}(e:pn h n l=true):∀id o,id∈l->h.get id=some o->o.top<=n:=by
 induction l with
 |nil=>simp_all
 |cons x r ih=>
  simp only[pn,ba]at e;grind[bd]
theorem oS{id:Nat}:∀{l:laf},ja id l=true↔id∈l
 |[]=>by simp[ja]
 |x::r=>by
  simp only[ja,oh,aD,decide_eq_true_eq,dO,oS (l:=r)];grind
def Ids.Holds(X:Ids)(id:Nat):Prop:=(X.all=true/\id<X.lo)\/id∈X.l\/(X.lo<=id/\id<X.hi)
theorem Ids.has_iff{X:Ids}{id:Nat}:X.has id=true↔X.Holds id:=by
 unfold Ids.has Ids.Holds;simp_all[oS,or_assoc]
theorem vO{X:Ids}:∀{l:laf}{id:Nat},id∈l->X.Holds id->JW X l=true
 |x::r,id,h,hm=>by
  simp only[JW,oh];rcases dO.1 h with rfl|h
  ·exact .inl (Ids.has_iff.2 hm)
  ·exact .inr (vO h hm)
theorem F6{X Y:Ids}{id:Nat}(hx:X.Holds id)(hy:Y.Holds id):X.meets Y=true:=by
 unfold Ids.meets;simp only[oh,ba,dG,decide_eq_true_eq];have hx0:=hx;have hy0:=hy;rcases hy with⟨h1,h2⟩|h1|⟨h1,h2⟩
 ·rcases hx with⟨k1,k2⟩|k1|⟨k1,k2⟩
  all_goals grind[vO]
 ·grind[vO]
 ·rcases hx with⟨k1,k2⟩|k1|⟨k1,k2⟩
  all_goals grind[vO]
end
section
variable{P:Program}{G:fz}{pl pl':Pl}{M M':dN}{h h' hv:AHeap}{w w':World}{v:AV}{A F:Fr}{a:Act}{call:cn}
theorem wU{nk:Nat}{g:Nat->lav}(hr:RepF pl M nk g w)(hvg:∀id o,hv.get id=some o->g id=some o)(ho:∀id o,hv.get id=some o->o.top<=hv.n):
  cS (de pl hv.n) M hv w:=by
 refine⟨λid p hp=>(aR.1 hp).1,λid p o hp hg=>?_,λid p hp=>hr.blk id p (aR.1 hp).2,λid id' p p' h1 h2=>hr.inj id id' p p' (aR.1 h1).2 (aR.1 h2).2,hr.imm,λid p hp=>hr.sep id p (aR.1 hp).2⟩;obtain⟨h1,h2⟩:=aR.1 hp;exact(hr.obj id p o h2 (hvg id o hg)).agree (ho id o hg) eV (λ_ _ h=>h)
theorem C9{nk n0:Nat}{g:Nat->lav}{W:Nat->Prop}{o:Oper}(hr:RepF pl M nk g w)(hn0:n0<=hv.n)(hvg:∀id o,hv.get id=some o->g id=some o)(ho:∀id o,hv.get id=some o->o.top<=hv.n)
  (hf:FrRel (de pl hv.n) M A a)(hg:qc G (de pl hv.n) M)(e:(fc P G o.op).run A hv=some (.val v h'))(hnk:h'.n=hv.n\/h'.n<=nk)
  (hU:∀id,hv.n<=id->id<h'.n->pl id=none)(W1:∀id,id<hv.n->¬W id->hv.get id≠none->h'.get id=hv.get id)
  (W2:∀id,W id->id<hv.n->hv.get id≠none)(W3:∀id,W id->id<h'.n)(W4:∀id,hv.n<=id->id<h'.n->W id)
  {K:Act->World->Prop}{Q:Exit->Act->World->Prop}
  (hK:∀cv w' pl' M',RepF pl' M' nk (ku W g h'.get) w'->StepF n0 g pl M w (ku W g h'.get) pl' M' w'->VRel pl' M' v cv->nS pl pl'->(∀id,h'.n<=id->pl' id=pl id)->K (a.put o.dst cv) w'):
  o.wp P a w K Q:=by
 obtain⟨dst,op,ty,pos,after,guard⟩:=o;obtain⟨pl1,M1,cv,w1,nx,q1,q2,q3,q4,q5,q6⟩:=Af (P:=P) (G:=G) op (de pl hv.n) M A hv v h' a w dst ty pos after guard hg (wU hr hvg ho) hf e;obtain⟨r1,r2,r3,r4⟩:=NJ hr hn0 hvg q4 q5 q6 hnk hU W1 W2 W3 W4;have key:=hK cv w1 _ M1 r1 r2 (q3.mono r3 (λ_ _ h=>h)) r4 (λid hid=>by grind[fD]);unfold Oper.wp;rw[q1];rcases q2 with rfl|⟨rfl,rfl⟩
 ·exact key
 ·exact key
theorem JI{nk n0:Nat}{g:Nat->lav}{W:Nat->Prop}{o:Oper}(hc:cW P G call)(hr:RepF pl M nk g w)(hn0:n0<=hv.n)(hvg:∀id o,hv.get id=some o->g id=some o)(ho:∀id o,hv.get id=some o->o.top<=hv.n)
  (hf:FrRel (de pl hv.n) M A a)(hg:qc G (de pl hv.n) M){f:FuncId}{args:laa}(e:(fc P G o.op).run A hv=some (.call f args))(e2:call f args hv=some (v,h'))(hnk:h'.n=hv.n\/h'.n<=nk)
  (hU:∀id,hv.n<=id->id<h'.n->pl id=none)(W1:∀id,id<hv.n->¬W id->hv.get id≠none->h'.get id=hv.get id)
  (W2:∀id,W id->id<hv.n->hv.get id≠none)(W3:∀id,W id->id<h'.n)(W4:∀id,hv.n<=id->id<h'.n->W id)
  {K:Act->World->Prop}{Q:Exit->Act->World->Prop}
  (hK:∀cv w' pl' M',RepF pl' M' nk (ku W g h'.get) w'->StepF n0 g pl M w (ku W g h'.get) pl' M' w'->VRel pl' M' v cv->nS pl pl'->(∀id,h'.n<=id->pl' id=pl id)->K (a.put o.dst cv) w'):
  o.wp P a w K Q:=by
 obtain⟨vs,k1,k2⟩:=uO (P:=P) (w:=w) hg hf e;have fin:∀cv w1,ip (de pl hv.n) M hv w v h' cv w1->K (a.put o.dst cv) w1:=by
  intro cv w1 ⟨pl1,M1,q3,q4,q5,q6⟩;obtain⟨r1,r2,r3,r4⟩:=NJ hr hn0 hvg q4 q5 q6 hnk hU W1 W2 W3 W4;exact hK cv w1 _ M1 r1 r2 (q3.mono r3 (λ_ _ h=>h)) r4 (λid hid=>by grind[fD])
 unfold Oper.wp;rw[k2];rcases hc f args hv v h' e2 _ M w vs hg (wU hr hvg ho) k1 with⟨q1,q2⟩|⟨cv,w1,q1,q2⟩
 ·rw[q1];refine Calls.mono q2 λen w'' hh=>?_
  grind
 ·rw[q1];exact fin cv w1 q2
end
section
variable{P:Program}{G:fz}{pl pl':Pl}{M M':dN}{h h' h1 hv:AHeap}{w w':World}{v:AV}{A F:Fr}{a:Act}{call:cn}
theorem iw{l:lba}(hs:a.tmps.size=F.n)(hd:a.defers=[])(hF:∀t u,t∈l->F.get t=some u->t<F.n/\VRel pl M u (a.tmps.getD t undef)):FrRel pl M ⟨F.n,b7 F l .nil⟩ a:=by
 refine⟨hs,hd,λt u ht=>?_⟩;rcases Kq ht with⟨h1,h2⟩|h1
 all_goals grind[f8]
theorem R0{ids:laf}:∀{H H':AHeap},laid hv h' ids H=some H'->H'.n=H.n/\∀id o,H'.get id=some o->(id∈ids/\hv.get id≠none/\h'.get id=some o)\/((id∈ids->hv.get id=none)/\H.get id=some o):=by
 induction ids with
 |nil=>intro H H' e;simp[laid]at e;simp_all
 | cons x r ih=>
  intro H H' e;simp only[laid]at e;cases hx:hv.get x with
  |none=>grind
  | some y=>
   cases hy:h'.get x with
   |none=>simp_all
   | some o1=>
    simp only[hx,hy]at e;obtain⟨k1,k2⟩:=ih e;have hlt:=(AHeap.get_some.1 hx).2.1;refine⟨k1,λid o h=>?_⟩;rcases k2 id o h with⟨q1,q2⟩|⟨q1,q2⟩
    ·simp_all
    ·rcases AHeap.get_put hlt q2 with⟨rfl,rfl⟩|⟨q3,q4⟩
     all_goals simp_all
theorem Hi{H H':AHeap}(hH:H.n=h.n)(e:FW h h' H=some H'):H'.n=h'.n/\h.n<=h'.n/\∀id o,H'.get id=some o->(id<h.n/\H.get id=some o)\/(h.n<=id/\h'.get id=some o):=by
 unfold FW at e;rw[aD]at e;by_cases q:h'.n=h.n
 ·simp[q]at e;subst e;refine⟨by omega,by omega,λid o h=>.inl ⟨?_,h⟩⟩;have:=(AHeap.get_some.1 h).1;omega
 ·simp only[q,decide_false]at e;rw[aD]at e;by_cases q2:h'.n=h.n+1
  ·simp only[q2,decide_true]at e;cases hg:h'.get h.n with
   |none=>simp_all
   |some o1=>
    simp[hg]at e;subst e;refine⟨by grind[AHeap.push],by omega,λid o h=>?_⟩;rcases dh h with⟨rfl,rfl⟩|⟨k1,k2⟩
    all_goals simp_all
  simp_all
end
theorem I5{a b:Bool}(h:((a&&b)||(!a&& !b))=true):a=b:=by grind
theorem VK{a b:lan}(h:oI a b=true):a=b:=by cases a<;>cases b<;>simp[oI,aD]at h<;>simp[h]
mutual
theorem AV.same_eq:∀(x y:AV),AV.same x y=true->x=y
 | .bool a,y,h=>by cases y<;>simp only[AV.same,gr]at h;rw[I5 h]
 | .int j a,y,h=>by
  cases y<;>simp only[AV.same,gr,ba,lI,pL,decide_eq_true_eq,beq_iff_eq]at h
  rw[h.1,h.2]
 | .str a,y,h=>by cases y<;>simp only[AV.same,gr,ri,beq_iff_eq]at h;rw[h]
 | .nilp,y,h=>by cases y<;>simp only[AV.same,gr]at h;rfl
 | .nils,y,h=>by cases y<;>simp only[AV.same,gr]at h;rfl
 | .nilm,y,h=>by cases y<;>simp only[AV.same,gr]at h;rfl
 | .nilf,y,h=>by cases y<;>simp only[AV.same,gr]at h;rfl
 | .nili,y,h=>by cases y<;>simp only[AV.same,gr]at h;rfl
 | .ptr a b c d,y,h=>by
  cases y<;>simp only[AV.same,gr,ba,aD,decide_eq_true_eq]at h
  obtain⟨⟨⟨h1,h2⟩,h3⟩,h4⟩:=h;rw[h1,h2,h3,h4]
 | .map a,y,h=>by cases y<;>simp only[AV.same,gr,aD,decide_eq_true_eq]at h;rw[h]
 | .slice a b c d e,y,h=>by
  cases y<;>simp only[AV.same,gr,ba,aD,decide_eq_true_eq]at h
  obtain⟨⟨⟨⟨h1,h2⟩,h3⟩,h4⟩,h5⟩:=h;rw[h1,h2,h3,h4,VK h5]
 | .ps xs a,y,h=>by
  cases y<;>simp only[AV.same,gr,ba]at h
  rw[gg _ _ h.1,I5 h.2]
 | .ls xs,y,h=>by
  cases y<;>simp only[AV.same,gr]at h
  rw[gg _ _ h]
 | .pptr xs a b,y,h=>by
  cases y<;>simp only[AV.same,gr,ba,aD,decide_eq_true_eq]at h
  rw[gg _ _ h.1.1,h.1.2,h.2]
 | .iface t u,y,h=>by
  cases y<;>simp only[AV.same,gr,ba,aD,decide_eq_true_eq]at h
  rw[h.1,AV.same_eq _ _ h.2]
 | .agg a,y,h=>by cases y<;>simp only[AV.same,gr]at h;rw[gg _ _ h]
 | .tuple a,y,h=>by cases y<;>simp only[AV.same,gr]at h;rw[gg _ _ h]
 | .func fn a b,y,h=>by
  cases fn<;>cases y<;>(try(rename_i fn2 _ _;cases fn2))<;>simp only[AV.same,gr,ba,aD,decide_eq_true_eq]at h
  rw[h.1.1,gg _ _ h.1.2,gg _ _ h.2]
theorem gg:∀(x y:laa),gS x y=true->x=y
 |[],[],_=>rfl
 |[],_::_,h=>by simp[gS]at h
 |_::_,[],h=>by simp[gS]at h
 |a::as,b::bs,h=>by
  simp only[gS,ba]at h;rw[AV.same_eq a b h.1,gg as bs h.2]
end
theorem x8:∀(x y:laq),o7 x y=true->x=y
 |[],[],_=>rfl
 |[],_::_,h=>by grind[o7]
 |_::_,[],h=>by grind[o7]
 |a::as,b::bs,h=>by
  simp only[o7,ba,aD,decide_eq_true_eq]at h;obtain⟨⟨⟨h1,h2⟩,h3⟩,h4⟩:=h;rw[x8 as bs h4];cases a;cases b
  grind[AV.same_eq]
theorem AObj.same_eq(x y:AObj)(h:AObj.same x y=true):x=y:=by
 cases x<;>cases y<;>simp only[AObj.same,gr,ba,aD,decide_eq_true_eq]at h
 all_goals grind[gg,x8]
theorem wz{h h':AHeap}:∀(k:Nat),wx h h' k=true->∀id,id<k->h'.get id=h.get id
 |0,_,id,hid=>by omega
 | k+1,e,id,hid=>by
  unfold wx at e;have key:wx h h' k=true/\h'.get k=h.get k:=by
   cases h1:h'.get k with
   |none=>
    cases h2:h.get k with
    |none=>rw[h1,h2]at e;exact⟨e,rfl⟩
    |some o=>rw[h1,h2]at e;simp at e
   | some o'=>
    cases h2:h.get k with
    |none=>rw[h1,h2]at e;simp at e
    |some o=>
     rw[h1,h2]at e;simp only[]at e;split at e
     ·rename_i hs;exact⟨e,by rw[AObj.same_eq _ _ hs]⟩
     ·simp at e
  rcases fg id k with h1|h1
  ·exact wz k key.1 id h1
  ·have:id=k:=by omega
   rw[this];exact key.2
theorem StepF.weaken{n m:Nat}{g g':Nat->lav}{pl pl':Pl}{M M':dN}{w w':World}(h:StepF n g pl M w g' pl' M' w')(hm:m<=n):StepF m g pl M w g' pl' M' w':=⟨h.ext,λid hid hp=>h.new id (by omega) hp,h.mem,h.size,h.kept,h.blks,h.live,h.stay,h.memNew,h.os,h.tape,h.out,h.drawn⟩
structure DSpec(P:Program)(G:fz)(ops:Array Oper)(o:Oper)(look:lba)(F:Fr)(h:AHeap)(v:AV)(h1:AHeap)(r:Rec):Prop where
 le:h.n<=h1.n
 keep:∀id o',¬r.wr.Holds id->h1.get id=some o'->h.get id=some o'
 new:∀id,h.n<=id->id<h1.n->r.wr.Holds id
 exec:∀(nk n0:Nat)(g:Nat->lav)(pl:Pl)(M:dN)(a:Act)(w:World)(K:Act->World->Prop)(Q:Exit->Act->World->Prop),n0<=h.n->h1.n<=nk->nk<=1000000->RepF pl M nk g w->
  (∀id o',r.vis.Holds id->h.get id=some o'->g id=some o')->(∀id,h.n<=id->id<h1.n->pl id=none)->qc G (de pl h.n) M->a.tmps.size=F.n->a.defers=[]->
  (∀t u,t∈look->F.get t=some u->t<F.n/\VRel pl M u (a.tmps.getD t undef))->
  (∀cv w' pl' M' g',RepF pl' M' nk g' w'->StepF n0 g pl M w g' pl' M' w'->VRel pl' M' v cv->nS pl pl'->(∀id,pl id=none->(id<h.n\/h1.n<=id)->pl' id=none)->
   (∀id,¬r.wr.Holds id->g' id=g id)->(∀id o',r.wr.Holds id->h1.get id=some o'->g' id=some o')->K (a.put o.dst cv) w')->
  if Region.wanted o (yielded ops a.tmps)then o.wp P a w K Q\/(o.asks P a w/\LetsOut Q)else K (a.put o.dst undef) w
section
variable{P:Program}{G:fz}{pl pl':Pl}{M M':dN}{h h' h1 hv:AHeap}{w w':World}{v:AV}{A F:Fr}{a:Act}{call:cn}{ops:Array Oper}{o:Oper}{d:DOper}{r:Rec}
theorem sZ{ids:laf}{id:Nat}:¬(⟨false,[],0,0⟩:Ids).Holds id:=by simp[Ids.Holds]
theorem kM(hd:d.r.op=fc P G o.op)(hk:da o.op=0){ids:laf}(e:qz F h d ids=some (v,h1,r))(hg:eO ⟨F.n,b7 F d.look .nil⟩ (eL ops o)=some true):
  DSpec P G ops o d.look F h v h1 r:=by
 unfold qz at e;split at e
 ·rename_i v2 h2 hrun;simp at e;obtain⟨rfl,rfl,rfl⟩:=e;rw[hd]at hrun;have hh:=G2 o.op hk hrun;subst hh;refine⟨ar _,λ_ _ _ h=>h,λid h1 h2=>by omega,?_⟩;intro nk n0 g pl M a w K Q hn0 hnk hbig hr hvis hU hG hs hdf hF hK;have hcut:de pl 1000000=pl:=by
   funext id;cases hp:pl id with
   |none=>grind[de]
   |some p=>exact aR.2 ⟨by grind[cases RepF],hp⟩
  have hvg:∀id o,(⟨1000000,bL h ids .nil⟩:AHeap).get id=some o->g id=some o:=λid o' hh=>by
   obtain⟨k1,k2⟩:=rV hh;exact hvis id o' (.inr (.inl k1)) k2
  have hf:FrRel pl M ⟨F.n,b7 F d.look .nil⟩ a:=iw hs hdf hF;rw[fN hf hg];simp only[if_true];left;have hG2:qc G pl M:=hG.mono (λid p hp=>⟨p,(aR.1 hp).2,ar _,λ_=>rfl⟩) (λ_ _ h=>h);have rep:cS pl M ⟨1000000,bL h ids .nil⟩ w:=⟨λid p hp=>by grind[cases RepF],λid p o' hp hh=>hr.obj id p o' hp (hvg id o' hh),hr.blk,hr.inj,hr.imm,hr.sep⟩
  obtain⟨dst,op,ty,pos,after,guard⟩:=o;obtain⟨pl1,M1,cv,w1,nx,q1,q2,q3,q4,q5,q6⟩:=Af (P:=P) (G:=G) op pl M _ _ v2 _ a w dst ty pos after guard hG2 rep hf hrun;have q5':dK ⟨1000000,bL h ids .nil⟩ (de pl 1000000) M w ⟨1000000,bL h ids .nil⟩ pl1 M1 w1:=by simp_all
  obtain⟨r1,r2,r3,r4⟩:=NJ (n0:=1000000) (W:=λ_=>False) hr (ar _) hvg q4 q5' (ar _) (.inl rfl) (λid k1 k2=>absurd k2 (by omega)) (λ_ _ _ _=>rfl) (λ_ h=>h.elim) (λ_ h=>h.elim) (λid k1 k2=>absurd k2 (by omega));have key:=hK cv w1 _ M1 _ r1 (r2.weaken (by omega)) (q3.mono r3 (λ_ _ h=>h)) r4 (λid hp hh=>by
    by_cases hid:id<1000000
    ·exact r2.new id hid hp
    grind[fD]) (λid _=>iz (λh=>h)) (λid o' hh=>absurd hh (sZ (ids:=[])))
  unfold Oper.wp;rw[q1];rcases q2 with rfl|⟨rfl,rfl⟩
  ·exact key
  ·exact key
 simp_all
theorem ru(hs:a.tmps.size=F.n)(hd:a.defers=[]){l:lba}{n:Nat}(ht:iT F n l=true)(hF:∀t u,t∈l->F.get t=some u->t<F.n/\VRel pl M u (a.tmps.getD t undef)):FrRel (de pl n) M ⟨F.n,b7 F l .nil⟩ a:=iw hs hd λt u h1 h2=>⟨(hF t u h1 h2).1,(hF t u h1 h2).2.agree (Oa ht t u h1 h2) eV (λ_ _ h=>h)⟩
theorem mO(hd:d.r.op=fc P G o.op){ids:laf}(e:pR F h d ids=some (v,h1,r))(hg:eO ⟨F.n,b7 F d.look .nil⟩ (eL ops o)=some true):
  DSpec P G ops o d.look F h v h1 r:=by
 unfold pR at e;split at e
 ·rename_i hck;simp only[ba]at hck;obtain⟨hck1,hck2⟩:=hck;unfold nH lw at e;rw[hd]at e;split at e
  ·rename_i v2 h2 hrun;split at e
   ·rename_i H hla;split at e
    ·rename_i H1 hln;simp at e;obtain⟨rfl,rfl,rfl⟩:=e;obtain⟨a1,a2⟩:=R0 hla;obtain⟨b1,b2,b3⟩:=Hi a1 hln;refine⟨by omega,λid o' hno hg1=>?_,λid k1 k2=>.inr (.inr ⟨k1,by simp_all⟩),?_⟩
     ·rcases b3 id o' hg1 with⟨k1,k2⟩|⟨k1,k2⟩
      ·rcases a2 id o' k2 with⟨q1,_⟩|⟨_,q1⟩
       ·exact absurd (.inr (.inl q1)) hno
       omega
      ·exact absurd (.inr (.inr ⟨k1,(AHeap.get_some.1 k2).1⟩)) hno
     ·intro nk n0 g pl M a w K Q hn0 hnk hbig hr hvis hU hG hs hdf hF hK;have hf0:FrRel pl M ⟨F.n,b7 F d.look .nil⟩ a:=iw hs hdf hF;rw[fN hf0 hg];simp only[if_true];left;have hvg:∀id o,(⟨h.n,bL h ids .nil⟩:AHeap).get id=some o->g id=some o:=λid o' hh=>by
       obtain⟨k1,k2⟩:=rV hh;exact hvis id o' (.inr (.inl k1)) k2
      refine C9 (hv:=⟨h.n,bL h ids .nil⟩) (h':=h2) (n0:=h.n) (W:=λid=>(id∈ids/\id<h.n/\(⟨h.n,bL h ids .nil⟩:AHeap).get id≠none)\/(h.n<=id/\id<h2.n)) hr (ar _) hvg (λid o' hh=>O5 hck2 id o' (rV hh).1 (rV hh).2)
       (ru hs hdf hck1 hF) hG hrun (.inr (by omega)) (λid k1 k2=>hU id k1 (by omega)) (λid k1 k2 k3=>?_) (λid k1 k2=>?_) (λid k1=>?_) (λid k1 k2=>.inr ⟨k1,k2⟩) ?_
      ·cases hh:(⟨h.n,bL h ids .nil⟩:AHeap).get id with
       |none=>simp_all
       |some o'=>grind[rV]
      ·grind
      ·omega
      ·intro cv w' pl' M' r1 r2 r3 r4 r5;refine hK cv w' pl' M' _ r1 (r2.weaken hn0) r3 r4 (λid hp hh=>?_) (λid hno=>iz λhW=>?_) (λid o' hyes hg1=>?_)
       ·rcases hh with hh|hh
        ·exact r2.new id hh hp
        simp_all
       ·rcases hW with⟨k,_,_⟩|k
        ·exact hno (.inr (.inl k))
        ·exact hno (.inr (.inr k))
       ·rcases b3 id o' hg1 with⟨k1,k2⟩|⟨k1,k2⟩
        ·rcases a2 id o' k2 with⟨q1,q2,q3⟩|⟨q1,q2⟩
         ·grind[mN]
         ·rw[iz (λhW=>by grind)];refine hvis id o' (.inr (.inl ?_)) q2;rcases hyes with⟨z,_⟩|z|⟨z,_⟩
          all_goals grind
        ·rw[mN (.inr ⟨k1,(AHeap.get_some.1 k2).1⟩)];omega
    simp_all
   simp_all
  simp_all
 simp_all
end
end Go.Ev
namespace Go.Ev
open Go
section
variable{P:Program}{G:fz}{pl pl':Pl}{M M':dN}{h h' h1 hv:AHeap}{w w':World}{v:AV}{A F:Fr}{a:Act}{call:cn}{ops:Array Oper}{o:Oper}{d:DOper}{r:Rec}
theorem pH{h h':AHeap}:∀(k:Nat),oX h h' k=true->∀id,id<k->h.get id=none->h'.get id=none
 |0,_,id,hid,_=>by omega
 | k+1,e,id,hid,hn=>by
  unfold oX at e;have key:oX h h' k=true/\(h.get k=none->h'.get k=none):=by
   cases h1:h'.get k with
   |none=>rw[h1]at e;exact⟨e,λ_=>rfl⟩
   |some o'=>
    cases h2:h.get k with
    |none=>rw[h1,h2]at e;simp at e
    |some o=>rw[h1,h2]at e;exact⟨e,λh=>by cases h⟩
  rcases fg id k with h1|h1
  ·exact pH k key.1 id h1 hn
  ·have:id=k:=by omega
   subst this;exact key.2 hn
theorem Cs{x:Option (AV×AHeap)}(e:Bp h x=some (v,h1,r)):x=some (v,h1)/\h.n<=h1.n/\∃b,r=⟨⟨true,[],h.n,h.n⟩,⟨b,[],h.n,h1.n⟩⟩/\
  (b=false->∀id,id<h.n->h1.get id=h.get id)/\(∀id,id<h.n->h.get id=none->h1.get id=none):=by
 unfold Bp at e;split at e
 ·rename_i v2 h2;rw[bd]at e;by_cases hle:h.n<=h2.n
  ·simp only[hle,decide_true]at e;split at e
   ·rename_i hs;simp[vg]at e;obtain⟨rfl,rfl,rfl⟩:=e;exact⟨rfl,hle,false,rfl,λ_=>wz h.n hs,λid hid hn=>by grind[wz]⟩
   ·split at e
    ·rename_i hf;simp[vg]at e;obtain⟨rfl,rfl,rfl⟩:=e;exact⟨rfl,hle,true,rfl,(λhq=>absurd hq (by simp)),pH h.n hf⟩
    simp_all
  simp_all
 simp_all
theorem Ty(hc:cW P G call)(hd:d.r.op=fc P G o.op)(e:NS call F h d=some (v,h1,r))(hg:eO ⟨F.n,b7 F d.look .nil⟩ (eL ops o)=some true):
  DSpec P G ops o d.look F h v h1 r:=by
 unfold NS at e;split at e
 ·rename_i hck;simp only[ba]at hck;obtain⟨hck1,hck2⟩:=hck;obtain⟨e1,hle,b,rfl,hb,hfew⟩:=Cs e;rw[hd]at e1;refine⟨hle,λid o' hno hg1=>?_,λid k1 k2=>.inr (.inr ⟨k1,k2⟩),?_⟩
  ·have hlt:=(AHeap.get_some.1 hg1).1;have hlow:id<h.n:=by
    rcases fg id h.n with k|k
    ·omega
    ·exact absurd (.inr (.inr ⟨k,hlt⟩)) hno
   cases b with
   |true=>exact absurd (.inl ⟨rfl,hlow⟩) hno
   |false=>simp_all
  ·intro nk n0 g pl M a w K Q hn0 hnk hbig hr hvis hU hG hs hdf hF hK;have hf0:FrRel pl M ⟨F.n,b7 F d.look .nil⟩ a:=iw hs hdf hF;rw[fN hf0 hg];simp only[if_true];left;have hvg:∀id o,h.get id=some o->g id=some o:=λid o' hh=>hvis id o' (.inl ⟨rfl,(AHeap.get_some.1 hh).1⟩) hh
   have ho:∀id o,h.get id=some o->o.top<=h.n:=λid o' hh=>gm h.n hck2 id o' (AHeap.get_some.1 hh).1 hh
   have hf:=ru (M:=M) hs hdf hck1 hF;let W:Nat->Prop:=λid=>(b=true/\id<h.n/\h.get id≠none)\/(h.n<=id/\id<h1.n)
   have W1:∀id,id<h.n->¬W id->h.get id≠none->h1.get id=h.get id:=by grind
   have W2:∀id,W id->id<h.n->h.get id≠none:=by grind
   have W3:∀id,W id->id<h1.n:=by omega
   have W4:∀id,h.n<=id->id<h1.n->W id:=λid k1 k2=>.inr ⟨k1,k2⟩
   have hKK:∀cv w' pl' M',RepF pl' M' nk (ku W g h1.get) w'->StepF h.n g pl M w (ku W g h1.get) pl' M' w'->VRel pl' M' v cv->nS pl pl'->(∀id,h1.n<=id->pl' id=pl id)->K (a.put o.dst cv) w':=by
    intro cv w' pl' M' r1 r2 r3 r4 r5;refine hK cv w' pl' M' _ r1 (r2.weaken hn0) r3 r4 (λid hp hh=>?_) (λid hno=>iz λhW=>?_) (λid o' hyes hg1=>?_)
    ·rcases hh with hh|hh
     ·exact r2.new id hh hp
     simp_all
    ·rcases hW with⟨k1,k2,_⟩|k
     ·exact hno (.inl ⟨k1,k2⟩)
     ·exact hno (.inr (.inr k))
    ·have hlt:=(AHeap.get_some.1 hg1).1;have hW:W id:=by
      rcases hyes with⟨k1,k2⟩|k|k
      all_goals grind
     grind[mN]
   cases hrun:(fc P G o.op).run ⟨F.n,b7 F d.look .nil⟩ h with
   |none=>grind[behind]
   | some res=>
    rw[hrun]at e1;cases res with
    |val v2 h2=>
     simp[behind]at e1;obtain⟨rfl,rfl⟩:=e1;exact C9 hr (ar _) hvg ho hf hG hrun (.inr hnk) (λid k1 k2=>hU id k1 k2) W1 W2 W3 W4 hKK
    |call f args=>
     simp only[behind]at e1;exact JI hc hr (ar _) hvg ho hf hG hrun e1 (.inr hnk) (λid k1 k2=>hU id k1 k2) W1 W2 W3 W4 hKK
 simp_all
end
section
variable{P:Program}{G:fz}{h h1:AHeap}{v:AV}{F:Fr}{call:cn}{ops:Array Oper}{o:Oper}{d:DOper}{r:Rec}
theorem NR(hc:cW P G call)(hd:d.r=bR P G ops o)(hk:d.kind=da o.op)(e:Fi call F h d=some (v,h1,r)):DSpec P G ops o d.look F h v h1 r:=by
 have hop:d.r.op=fc P G o.op:=by rw[hd];rfl
 have hgd:d.r.g=eL ops o:=by rw[hd];rfl
 unfold Fi at e;rw[hgd]at e;split at e
 ·grind[kM,mO,Ty]
 ·rename_i hg;simp at e;obtain⟨rfl,rfl,rfl⟩:=e;refine⟨ar _,λ_ _ _ h=>h,λid h1 h2=>by omega,?_⟩;intro nk n0 g pl M a w K Q hn0 hnk hbig hr hvis hU hG hs hdf hF hK;have hf0:FrRel pl M ⟨F.n,b7 F d.look .nil⟩ a:=iw hs hdf hF;rw[fN hf0 hg];simp only[gr,if_false];exact hK undef w pl M g hr (StepF.refl _ _ _ _ _) C3 (nS.refl _) (λid h _=>h) (λ_ _=>rfl) (λid o' hh=>absurd hh (sZ (ids:=[])))
 simp_all
end
section
variable{P:Program}{G:fz}{call:cn}{ops:Array Oper}
theorem pP:∀{l:List Edge}{x:Nat},x∈iL l↔∃e,e∈l/\Region.binds .any e=true/\e.on=x
 |[],x=>by simp[iL]
 | e::r,x=>by
  simp only[iL];cases hb:Region.binds .any e with
  |true=>
   simp only[dO,pP (l:=r)];grind
  |false=>
   simp only[dO,pP (l:=r)];simp_all
theorem Au{masks:List (Nat×Nat)}{x:Nat}:∀{l:laf},Nat.testBit (tD masks l) x=true->∃d,d∈l/\(x=d\/Nat.testBit (fV masks d) x=true)
 |[],h=>by simp[tD]at h
 |d::r,h=>by
  simp only[tD]at h;have h:Nat.testBit ((2^d ||| fV masks d) ||| tD masks r) x=true:=h;rw[Nat.testBit_or,Nat.testBit_or,oh,oh,Nat.testBit_two_pow]at h;rcases h with(h|h)|h
  ·exact⟨d,by simp,.inl (by simpa[eq_comm]using h)⟩
  ·exact⟨d,by simp,.inr h⟩
  ·obtain⟨d',h1,h2⟩:=Au h;exact⟨d',by simp[h1],h2⟩
theorem mX{i:Nat}:∀{l:laf},mW i l=true->∀d,d∈l->d<i
 |[],_,d,h=>by simp_all
 |x::r,e,d,h=>by
  simp only[mW,ba,dG,decide_eq_true_eq]at e;rcases dO.1 h with rfl|h
  ·omega
  ·exact mX e.2 d h
theorem rq:∀(l:las)(i:Nat)(acc:List (Nat×Nat))(j:Nat),j<i->fV (eb l i acc) j=fV acc j
 |[],i,acc,j,h=>rfl
 |o::r,i,acc,j,h=>by
  simp only[eb];rw[rq r (i+1) _ j (by omega)];have:Nat.beq i j=false:=by rw[aD];simp;omega
  simp[fV,this]
theorem rz:∀(l:las)(i:Nat)(acc:List (Nat×Nat))(t:Nat)(o:Oper),l[t]?=some o->mW (i+t) (iL o.after.toList)=true->∀x,Nat.testBit (fV (eb l i acc) (i+t)) x=true->
  ∃d,d∈iL o.after.toList/\(x=d\/Nat.testBit (fV (eb l i acc) d) x=true)
 |[],i,acc,t,o,h,_,_,_=>by simp_all
 |o'::r,i,acc,0,o,h,hb,x,hx=>by
  simp at h;subst h;have e:fV (eb (o'::r) i acc) i=tD acc (iL o'.after.toList):=by grind[eb,rq,aD,fV]
  grind[Au,mX,rq]
 |o'::r,i,acc,t+1,o,h,hb,x,hx=>by
  simp only[eb]at hx ⊢;exact rz r (i+1) _ t o (by simp_all) (by grind) x (by grind)
def abV(masks:List (Nat×Nat))(L:Nat->Prop):Prop:=∀i,L i->∀x,Nat.testBit (fV masks i) x=true->L x
theorem JS{L:Nat->Prop}(hD:abV (eb ops.toList 0 []) L){j:Nat}{o:Oper}(ho:ops[j]?=some o)(hb:mW j (iL o.after.toList)=true)(hr:∀d,d∈iL o.after.toList->L d):
  ∀x,Nat.testBit (fV (eb ops.toList 0 []) j) x=true->L x:=by
 intro x hx;have:=rz ops.toList 0 [] j o (by simp_all) (by simp_all) x (by simp_all);obtain⟨d,h1,h2⟩:=this;rcases h2 with rfl|h2
 ·simp_all
 ·exact hD d (hr d h1) x h2
end
def OU(q r:Rec):Prop:=∃id,(q.wr.Holds id/\r.vis.Holds id)\/(r.wr.Holds id/\q.vis.Holds id)\/(q.wr.Holds id/\r.wr.Holds id)
structure RunData(call:cn)(ds:List DOper)(k:Nat)(hs:Nat->AHeap)(Fs:Nat->Fr)(vs:Nat->AV)(rc:Nat->Rec):Prop where
 one:∀j d,ds[j]?=some d->Fi call (Fs (k+j)) (hs (k+j)) d=some (vs (k+j),hs (k+j+1),rc (k+j))
 put:∀j d,ds[j]?=some d->jU (Fs (k+j)) d.r.dst (vs (k+j))=some (Fs (k+j+1))
 ord:∀j d,ds[j]?=some d->∀i,i<k+j->OU (rc i) (rc (k+j))->Nat.testBit d.mask i=true
section
variable{call:cn}
theorem th{mask:Nat}{r:Rec}:∀{qs:List Rec},lm mask r qs qs.length=true->∀i q,qs[i]?=some q->OU q r->Nat.testBit mask (qs.length-1-i)=true
 |[],_,i,q,h,_=>by simp_all
 | p::ps,e,i,q,h,hc=>by
  simp only[lm,dw,Nat.add_sub_cancel,ba,oh,Bool.not_eq_true']at e
  match i,h with
  |0,h=>
   simp at h;subst h;rcases e.1 with e1|e1
   ·exfalso;simp only[GV]at e1;obtain⟨⟨e2,e3⟩,e4⟩:=e1;obtain⟨id,hc|hc|hc⟩:=hc;all_goals grind[F6]
   simp_all
  |i+1,h=>
   have:=th e.2 i q (by simp_all) hc;grind
def gK(rc:Nat->Rec):Nat->List Rec
 |0=>[]
 |k+1=>rc k::gK rc k
theorem nY(rc:Nat->Rec):∀k,(gK rc k).length=k
 |0=>rfl
 |k+1=>by simp[gK,nY rc k]
theorem ta(rc:Nat->Rec):∀(k i:Nat),i<k->(gK rc k)[k-1-i]?=some (rc i)
 |0,i,h=>by omega
 |k+1,i,h=>by
  simp only[gK];rcases fg i k with h1|h1
  ·rw[show k+1-1-i=(k-1-i)+1 by omega];simpa using ta rc k i h1
  grind
theorem pd{rc rc':Nat->Rec}:∀{k:Nat},(∀i,i<k->rc i=rc' i)->gK rc k=gK rc' k
 |0,_=>rfl
 |k+1,h=>by simp only[gK];rw[h k (by omega),pd (λi hi=>h i (by omega))]
theorem yW:∀(ds:List DOper)(k:Nat)(hs0:Nat->AHeap)(Fs0:Nat->Fr)(vs0:Nat->AV)(rc0:Nat->Rec)(s':St),(rm ds).run call (Fs0 k) (hs0 k) (gK rc0 k) k=some s'->
  ∃hs Fs vs rc,(∀i,i<=k->hs i=hs0 i/\Fs i=Fs0 i)/\(∀i,i<k->vs i=vs0 i/\rc i=rc0 i)/\RunData call ds k hs Fs vs rc/\s'=⟨Fs (k+ds.length),hs (k+ds.length)⟩
 |[],k,hs0,Fs0,vs0,rc0,s',e=>by
  simp[rm]at e;refine⟨hs0,Fs0,vs0,rc0,λ_ _=>⟨rfl,rfl⟩,λ_ _=>⟨rfl,rfl⟩,⟨λj d h=>by simp_all,λj d h=>by simp_all,λj d h=>by simp_all⟩,by simp_all⟩
 | d::r,k,hs0,Fs0,vs0,rc0,s',e=>by
  simp only[rm]at e;cases ho:Fi call (Fs0 k) (hs0 k) d with
  |none=>grind[Tv]
  | some res=>
   obtain⟨v,h',rec⟩:=res;rw[ho]at e;simp only[Tv]at e;split at e
   ·rename_i hcl;cases hp:jU (Fs0 k) d.r.dst v with
    |none=>simp_all
    | some F'=>
     rw[hp]at e;simp only[]at e;let hs1:Nat->AHeap:=λi=>if i=k+1 then h' else hs0 i
     let Fs1:Nat->Fr:=λi=>if i=k+1 then F' else Fs0 i
     let vs1:Nat->AV:=λi=>if i=k then v else vs0 i
     let rc1:Nat->Rec:=λi=>if i=k then rec else rc0 i
     have er:rec::gK rc0 k=gK rc1 (k+1):=by grind[gK,pd]
     have e2:(rm r).run call (Fs1 (k+1)) (hs1 (k+1)) (gK rc1 (k+1)) (k+1)=some s':=by grind
     obtain⟨hs,Fs,vs,rc,a1,a2,a3,a4⟩:=yW r (k+1) hs1 Fs1 vs1 rc1 s' e2;have hk:=a1 k (by omega);have hk1:=a1 (k+1) (by omega);have hvk:=a2 k (by omega);simp only[hs1,Fs1,show ¬k=k+1 by omega,if_false,if_true]at hk hk1;simp only[vs1,rc1,if_true]at hvk;refine⟨hs,Fs,vs,rc,λi hi=>?_,λi hi=>?_,⟨λj d' hj=>?_,λj d' hj=>?_,λj d' hj i hi hc=>?_⟩,?_⟩
     ·grind
     ·grind
     ·match j,hj with
      |0,hj=>simp_all
      |j+1,hj=>grind[cases RunData]
     ·match j,hj with
      |0,hj=>simp_all
      |j+1,hj=>grind[cases RunData]
     ·match j,hj with
      |0,hj=>
       simp at hj;subst hj;simp only[qK]at hi hc;have hri:=(a2 i (by omega)).2;simp only[rc1,show ¬i=k by omega,if_false]at hri;rw[hri,hvk.2]at hc;have hcl':lm d.mask rec (gK rc0 k) (gK rc0 k).length=true:=by grind[nY]
       have:=th hcl' (k-1-i) (rc0 i) (ta rc0 k i hi) hc;grind[nY]
      |j+1,hj=>grind[cases RunData]
     grind
   simp_all
end
structure Reg(P:Program)(G:fz)(call:cn)(ops:Array Oper)(N:Nat)(hs:Nat->AHeap)(Fs:Nat->Fr)(vs:Nat->AV)(rc:Nat->Rec):Prop where
 small:N<=60000
 n0:(Fs 0).n=N
 t0:∀t u,(Fs 0).get t=some u->t<N
 big:(hs ops.size).n<=1000000
 spec:∀j o,ops[j]?=some o->DSpec P G ops o (o.looksAt ops) (Fs j) (hs j) (vs j) (hs (j+1)) (rc j)
 put:∀j o,ops[j]?=some o->jU (Fs j) o.dst (vs j)=some (Fs (j+1))
 ord:∀j o,ops[j]?=some o->∀i,i<j->OU (rc i) (rc j)->Nat.testBit (fV (eb ops.toList 0 []) j) i=true
 below:∀j o,ops[j]?=some o->mW j (iL o.after.toList)=true
 looks:∀j o,ops[j]?=some o->sW (eb ops.toList 0 []) (iL o.after.toList) (o.looksAt ops) j ops.toList 0=true
 dsts:∀(i j:Nat)(oi oj:Oper)(t:Tmp),ops[i]?=some oi->ops[j]?=some oj->oi.dst=some t->oj.dst=some t->i=j
structure Inv(P:Program)(G:fz)(ops:Array Oper)(N:Nat)(hs:Nat->AHeap)(Fs:Nat->Fr)(vs:Nat->AV)(rc:Nat->Rec)(h0:AHeap)(pl0:Pl)(M0:dN)(w0:World)(L:Nat->Prop)(a:Act)(w:World):Prop where
 down:abV (eb ops.toList 0 []) L
 ex:∃pl M g,RepF pl M (hs ops.size).n g w/\StepF h0.n h0.get pl0 M0 w0 g pl M w/\
  (∀id m o,m<=ops.size->(∀i,i<m->(rc i).wr.Holds id->L i)->(∀i,m<=i->i<ops.size->(rc i).wr.Holds id->¬L i)->(hs m).get id=some o->g id=some o)/\
  (∀j,j<ops.size->¬L j->∀id,(hs j).n<=id->id<(hs (j+1)).n->pl id=none)/\
  (∀j o t,ops[j]?=some o->L j->o.dst=some t->VRel pl M (vs j) (a.tmps.getD t undef))/\
  (∀t u,(∀i o,ops[i]?=some o->L i->o.dst≠some t)->(Fs 0).get t=some u->VRel pl M u (a.tmps.getD t undef))
 size:a.tmps.size=N
 defers:a.defers=[]
section
variable{P:Program}{G:fz}{call:cn}{ops:Array Oper}{N:Nat}{hs:Nat->AHeap}{Fs:Nat->Fr}{vs:Nat->AV}{rc:Nat->Rec}{h0:AHeap}{pl0:Pl}{M0:dN}{w0:World}{L:Nat->Prop}{a:Act}{w:World}
theorem Reg.get{j:Nat}(hj:j<ops.size):∃o,ops[j]?=some o:=⟨ops[j],by simp_all⟩
theorem Reg.mono(R:Reg P G call ops N hs Fs vs rc){i:Nat}:∀{j:Nat},i<=j->j<=ops.size->(hs i).n<=(hs j).n
 |0,h,_=>by simp_all
 |j+1,h,hj=>by
  rcases fg i (j+1)with h1|h1
  ·obtain⟨o,ho⟩:=Reg.get (ops:=ops) (j:=j) (by omega);exact b0 (R.mono (by omega) (by omega)) (R.spec j o ho).le
  grind
theorem Yk{A A':Fr}{dst:lau}{v:AV}(e:jU A dst v=some A'):A'.n=A.n:=by
 cases dst with
 |none=>grind[jU]
 |some d=>grind[jU,Fr.put]
theorem Reg.frame(R:Reg P G call ops N hs Fs vs rc):∀(j:Nat),j<=ops.size->(Fs j).n=N/\∀t u,(Fs j).get t=some u->t<N/\
  ((∃i o,i<j/\ops[i]?=some o/\o.dst=some t/\u=vs i)\/((∀i o,i<j->ops[i]?=some o->o.dst≠some t)/\(Fs 0).get t=some u))
 |0,_=>⟨R.n0,λt u h=>⟨R.t0 t u h,.inr ⟨λi o h=>by omega,h⟩⟩⟩
 | j+1,hj=>by
  obtain⟨o,ho⟩:=Reg.get (ops:=ops) (j:=j) (by omega);obtain⟨k1,k2⟩:=R.frame j (by omega);have hp:=R.put j o ho;refine⟨by grind[Yk],λt u ht=>?_⟩;have old:(Fs j).get t=some u->o.dst≠some t->t<N/\((∃i o,i<j+1/\ops[i]?=some o/\o.dst=some t/\u=vs i)\/((∀i o,i<j+1->ops[i]?=some o->o.dst≠some t)/\(Fs 0).get t=some u)):=by grind
  cases hd:o.dst with
  |none=>grind[jU]
  |some d=>
   rw[hd]at hp;simp only[jU]at hp;obtain⟨_,q2,q3⟩:=Fr.get_put (by grind[cases Reg]) hp ht;grind
end
section
variable{P:Program}{G:fz}{call:cn}{ops:Array Oper}{N:Nat}{hs:Nat->AHeap}{Fs:Nat->Fr}{vs:Nat->AV}{rc:Nat->Rec}{h0:AHeap}{pl0:Pl}{M0:dN}{w0:World}{L:Nat->Prop}{a:Act}{w:World}
theorem Reg.maskLow(R:Reg P G call ops N hs Fs vs rc):∀(n i:Nat),i<n->∀o,ops[i]?=some o->∀x,Nat.testBit (fV (eb ops.toList 0 []) i) x=true->x<i
 |0,i,h,_,_,_,_=>by omega
 |n+1,i,h,o,ho,x,hx=>by
  have hb:=R.below i o ho;have:=rz ops.toList 0 [] i o (by simp_all) (by simp_all) x (by simp_all);obtain⟨d,h1,h2⟩:=this;have hd:=mX hb d h1;rcases h2 with rfl|h2
  ·omega
  ·have hlt:=(su.1 ho).1;obtain⟨o',ho'⟩:=Reg.get (ops:=ops) (j:=d) (by omega);have:=R.maskLow n d (by omega) o' ho' x h2;omega
theorem tG{masks:List (Nat×Nat)}{deps:laf}{look:lba}{j:Nat}:∀{l:las}{i:Nat},sW masks deps look j l i=true->∀(k:Nat)(o:Oper)(t:Tmp),l[k]?=some o->o.dst=some t->t∈look->
  i+k=j\/i+k∈deps\/Nat.testBit (fV masks (i+k)) j=true
 |[],_,_,k,o,t,h,_,_=>by simp_all
 | o'::r,i,e,k,o,t,h,hd,ht=>by
  simp only[sW,ba]at e
  match k,h with
  |0,h=>
   simp at h;subst h;have e1:=e.1;rw[hd]at e1;simp only[oh,Bool.not_eq_true',oS,aD,decide_eq_true_eq]at e1;rcases e1 with((e1|e1)|e1)|e1
   ·have:ja t look=true:=oS.2 ht;grind
   all_goals simp_all
  |k+1,h=>
   have:=tG e.2 k o t (by simp_all) hd ht;grind
theorem Reg.back(R:Reg P G call ops N hs Fs vs rc){id:Nat}{o:AObj}{j:Nat}:∀(m:Nat),j<=m->m<=ops.size->(∀i,j<=i->i<m->¬(rc i).wr.Holds id)->(hs m).get id=some o->(hs j).get id=some o
 |0,h,_,_,e=>by simp_all
 |m+1,h,hm,hn,e=>by
  rcases fg j (m+1)with h1|h1
  ·obtain⟨o',ho'⟩:=Reg.get (ops:=ops) (j:=m) (by omega);exact R.back m (by omega) (by omega) (λi h2 h3=>hn i h2 (by omega)) ((R.spec m o' ho').keep id o (hn m (by omega) (by omega)) e)
  grind
theorem G3{t d:Nat}{x:Value}{dst:lau}(h:dst≠some t):(a.put dst x).tmps.getD t undef=a.tmps.getD t undef:=by
 cases dst with
 |none=>rfl
 |some d=>simp_all[Act.put]
theorem Cg{t:Nat}{x:Value}(h:t<a.tmps.size):(a.put (some t) x).tmps.getD t undef=x:=by simp[Act.put,iZ,h]
theorem Q7{dst:lau}{x:Value}:(a.put dst x).tmps.size=a.tmps.size:=by cases dst<;>simp[Act.put]
theorem J0{dst:lau}{x:Value}:(a.put dst x).defers=a.defers:=by cases dst<;>simp[Act.put]
theorem Inv.step(R:Reg P G call ops N hs Fs vs rc)(hG:qc G pl0 M0)(hdom:∀id p,pl0 id=some p->id<h0.n)(hh0:h0.n<=(hs 0).n)
  (I:Inv P G ops N hs Fs vs rc h0 pl0 M0 w0 L a w){j:Nat}{o:Oper}(ho:ops[j]?=some o)(hnL:¬L j)(hrd:∀d,d∈iL o.after.toList->L d)
  {K:Act->World->Prop}{Q:Exit->Act->World->Prop}(hK:∀a' w',Inv P G ops N hs Fs vs rc h0 pl0 M0 w0 (λi=>i=j\/L i) a' w'->K a' w'):wpOp P ops Q j K a w:=by
 obtain⟨hdown,⟨pl,M,g,hr,hst,hV,hU,hF1,hF2⟩,hsz,hdf⟩:=I;have hj:j<ops.size:=(su.1 ho).1;have hmask:=JS hdown ho (R.below j o ho) hrd;have hn0:h0.n<=(hs j).n:=b0 hh0 (R.mono (b6 _) (by omega));obtain⟨hfn,hfr⟩:=R.frame j (by omega);have later:∀i o',ops[i]?=some o'->Nat.testBit (fV (eb ops.toList 0 []) i) j=true->¬L i:=λi o' _ hb hL=>hnL (hdown i hL j hb)
 unfold wpOp;rw[ho];simp only[];refine(R.spec j o ho).exec (hs ops.size).n h0.n g pl M a w K Q hn0 (R.mono (by omega) (ar _)) R.big hr ?_ ?_ ?_ ?_ hdf ?_ ?_
 ·intro id o' hv hg;refine hV id j o' (by omega) (λi hi hw=>?_) (λi hi hi2 hw=>?_) hg
  ·exact hmask i (R.ord j o ho i hi ⟨id,.inl ⟨hw,hv⟩⟩)
  ·rcases fg j i with h1|h1
   ·obtain⟨oi,hoi⟩:=Reg.get (ops:=ops) hi2;exact later i oi hoi (R.ord i oi hoi j h1 ⟨id,.inr (.inl ⟨hw,hv⟩)⟩)
   grind
 ·grind
 ·refine hG.mono (λid p hp=>?_) hst.mem;obtain⟨p',k1,k2⟩:=hst.ext id p hp;exact⟨p',aR.2 ⟨by grind,k1⟩,k2⟩
 ·omega
 ·intro t u ht hu;obtain⟨k1,k2⟩:=hfr t u hu;refine⟨by simp_all,?_⟩;rcases k2 with⟨i,oi,q1,q2,q3,q4⟩|⟨q1,q2⟩
  ·subst q4;rcases tG (R.looks j o ho) i oi t (by simp_all) q3 ht with z|z|z
   ·omega
   ·grind
   ·have:=R.maskLow (i+1) i (by omega) oi q2 j (by simp_all);omega
  ·refine hF2 t u (λi oi hoi hLi hd=>?_) q2;rcases fg i j with h1|h1
   ·grind
   ·rcases tG (R.looks j o ho) i oi t (by simp_all) hd ht with z|z|z
    all_goals grind[mX,cases Reg]
 ·intro cv w' pl' M' g' r1 r2 r3 r4 r5 r6 r7;refine hK _ _ ⟨λi hi x hx=>?_,⟨pl',M',g',r1,hst.trans r2 (ar _),?_,?_,?_,?_⟩,by grind[Q7],by grind[J0]⟩
  ·rcases hi with rfl|hi
   ·simp_all
   ·exact .inr (hdown i hi x hx)
  ·intro id m o' hm ha hb hg;by_cases hw:(rc j).wr.Holds id
   ·have hjm:j<m:=by grind
    refine r7 id o' hw (R.back m (by omega) hm (λi h1 h2 hwi=>?_) hg);obtain⟨oi,hoi⟩:=Reg.get (ops:=ops) (j:=i) (by omega);rcases ha i h2 hwi with rfl|hLi
    ·omega
    ·exact later i oi hoi (R.ord i oi hoi j (by omega) ⟨id,.inr (.inr ⟨hw,hwi⟩)⟩) hLi
   grind
  ·intro k hk hnk id h1 h2;have hkj:k≠j:=λe=>hnk (.inl e)
   refine r5 id (hU k hk (λh=>hnk (.inr h)) id h1 h2) ?_;rcases fg k j with h3|h3
   ·have:=R.mono (i:=k+1) (j:=j) (by omega) (by omega);omega
   ·have:=R.mono (i:=j+1) (j:=k) (by omega) (by omega);omega
  ·intro k ok t hok hLk hd;by_cases e:k=j
   ·subst e;rw[ho]at hok;cases hok
    rw[hd];have hlt:t<a.tmps.size:=by
     have hp:=R.put k o ho;rw[hd]at hp;simp only[jU,Fr.put]at hp;split at hp;all_goals simp_all
    grind[Cg]
   ·have hLk:L k:=hLk.resolve_left e;rw[G3 (d:=0) λh=>e (R.dsts k j ok o t hok ho hd h)];exact(hF1 k ok t hok hLk hd).mono r4 r2.mem
  ·intro t u hno hu;rw[G3 (d:=0) (hno j o ho (.inl rfl))];exact(hF2 t u (λi oi hoi hLi=>hno i oi hoi (.inr hLi)) hu).mono r4 r2.mem
end
section
variable{P:Program}{G:fz}{call:cn}{ops:Array Oper}{N:Nat}{hs:Nat->AHeap}{Fs:Nat->Fr}{vs:Nat->AV}{rc:Nat->Rec}{h0:AHeap}{pl0:Pl}{M0:dN}{w0:World}{L:Nat->Prop}{a:Act}{w:World}
theorem Reg.all_listed(R:Reg P G call ops N hs Fs vs rc){listed:Array Bool}(hl:listed.size=ops.size)(h:Region.ready .any ops listed=[]):∀(n j:Nat),j<n->j<ops.size->listed.getD j false=true
 |0,j,h1,_=>by omega
 | n+1,j,h1,h2=>by
  obtain⟨o,ho⟩:=Reg.get (ops:=ops) h2;cases hv:listed.getD j false with
  |true=>rfl
  | false=>
   exfalso;have:j∈Region.ready .any ops listed:=by
    refine mem_ready.2 ⟨?_,o,ho,λe he hb=>?_⟩
    ·simp_all
    ·have hd:=mX (R.below j o ho) e.on (pP.2 ⟨e,by simp_all,hb,rfl⟩);exact R.all_listed hl h n e.on (by omega) (by omega)
   simp_all
theorem Inv.last(R:Reg P G call ops N hs Fs vs rc)(I:Inv P G ops N hs Fs vs rc h0 pl0 M0 w0 L a w)(hall:∀j,j<ops.size->L j):
  ∃pl M,cS pl M (hs ops.size) w/\dK h0 pl0 M0 w0 (hs ops.size) pl M w/\FrRel pl M (Fs ops.size) a:=by
 obtain⟨hdown,⟨pl,M,g,hr,hst,hV,hU,hF1,hF2⟩,hsz,hdf⟩:=I;have key:∀id o,(hs ops.size).get id=some o->g id=some o:=λid o hg=>hV id ops.size o (ar _) (λi hi _=>hall i hi) (λi h1 h2=>by omega) hg
 obtain⟨hfn,hfr⟩:=R.frame ops.size (ar _);refine⟨pl,M,⟨hr.dom,λid p o hp hg=>hr.obj id p o hp (key id o hg),hr.blk,hr.inj,hr.imm,hr.sep⟩,⟨hst.ext,hst.new,hst.mem,hst.size,hst.kept,hst.blks,λid p hp hg=>?_,hst.stay,hst.memNew,hst.os,hst.tape,hst.out,hst.drawn⟩,⟨by omega,hdf,λt u ht=>?_⟩⟩
 ·cases hh:(hs ops.size).get id with
  |none=>rfl
  |some o=>grind[cases StepF]
 grind
theorem T2(R:Reg P G call ops N hs Fs vs rc)(hG:qc G pl0 M0)(hdom:∀id p,pl0 id=some p->id<h0.n)(hh0:h0.n<=(hs 0).n){Q:Exit->Act->World->Prop}
  (hQ:∀a1 w1,(∃pl M,cS pl M (hs ops.size) w1/\dK h0 pl0 M0 w0 (hs ops.size) pl M w1/\FrRel pl M (Fs ops.size) a1)->Q .normal a1 w1):
  ∀(fuel:Nat)(listed:Array Bool)(a:Act)(w:World),listed.size=ops.size->listed.count false<=fuel->Inv P G ops N hs Fs vs rc h0 pl0 M0 w0 (λj=>listed.getD j false=true) a w->wpAny P .any ops Q fuel listed a w:=by
 intro fuel;induction fuel with
 | zero=>
  intro listed a w hl hc I;have hall:∀j,j<ops.size->listed.getD j false=true:=by
   intro j hj;have hlt:j<listed.size:=by omega
   cases hv:listed[j]with
   |true=>simp_all
   |false=>grind[Array.getElem_mem]
  refine⟨?_,hQ a w (I.last R hall)⟩;refine List.eq_nil_iff_forall_not_mem.2 λj hj=>?_
  obtain⟨h1,o,ho,_⟩:=mem_ready.1 hj;grind
 | succ fuel ih=>
  intro listed a w hl hc I;refine⟨λh=>hQ a w (I.last R λj hj=>R.all_listed hl h (j+1) j (by omega) hj),λj hj=>?_⟩;obtain⟨h1,o,ho,h2⟩:=mem_ready.1 hj;have hlt0:j<ops.size:=(su.1 ho).1;have hlt:j<listed.size:=by omega
  have hf:listed[j]=false:=by simp_all
  refine I.step R hG hdom hh0 ho (by simp_all) (λd hd=>?_) λa' w' I'=>?_
  ·obtain⟨e,he,hb,rfl⟩:=pP.1 hd;simp_all
  ·refine ih _ a' w' (by simp_all) ?_ ?_
   ·grind
   ·have e:(λi=>i=j\/listed.getD i false=true)=λi=>(listed.setIfInBounds j true).getD i false=true:=by
     funext i;apply propext;by_cases q:j=i
     ·simp_all
     ·rw[getD_set_ne false q];grind
    simp_all
theorem pe{masks:List (Nat×Nat)}:∀{l:las}{i:Nat}{ds:List DOper},nq P G ops masks l i=some ds->ds.length=l.length/\∀(k:Nat)(o:Oper),l[k]?=some o->
  mW (i+k) (iL o.after.toList)=true/\sW masks (iL o.after.toList) (o.looksAt ops) (i+k) ops.toList 0=true/\
  ds[k]?=some ⟨bR P G ops o,o.looksAt ops,dE o.op,da o.op,fV masks (i+k)⟩
 |[],i,ds,e=>by simp[nq]at e;simp_all
 | o'::r,i,ds,e=>by
  simp only[nq]at e;split at e
  ·rename_i hck;simp only[ba]at hck;cases hr:nq P G ops masks r (i+1)with
   |none=>simp_all
   |some l=>
    rw[hr]at e;simp at e;subst e;obtain⟨h1,h2⟩:=pe hr;grind
  simp_all
theorem wP:∀{l:las},Bl l=true->∀(i j:Nat)(oi oj:Oper)(t:Tmp),l[i]?=some oi->l[j]?=some oj->oi.dst=some t->oj.dst=some t->i=j
 |[],_,i,j,oi,oj,t,h,_,_,_=>by simp at h
 | o::r,e,i,j,oi,oj,t,hi,hj,h1,h2=>by
  simp only[Bl,ba]at e;have BC:∀(k:Nat)(q:Oper),r[k]?=some q->o.dst=some t->q.dst=some t->False:=by
   intro k q hk a b;have e1:=e.1;rw[a]at e1;have:=mf.1 e1 q (bC hk);rw[b]at this;simp[aD]at this
  match i,j,hi,hj with
  |0,0,_,_=>rfl
  |0,j+1,hi,hj=>simp at hi;subst hi;exact(BC j oj (by simpa using hj) h1 h2).elim
  |i+1,0,hi,hj=>simp at hj;subst hj;exact(BC i oi (by simpa using hi) h2 h1).elim
  |i+1,j+1,hi,hj=>rw[wP e.2 i j oi oj t (by simpa using hi) (by simpa using hj) h1 h2]
theorem Wh(hm:P.follows .mixedOrders=true)(hc:cW P G call):GQ P G call:=by
 intro N h0 pl0 M0 w0 ops id s s' a w Q e hsn hQ;unfold Fg at e;split at e
 ·rename_i hck;simp only[ba]at hck;split at e
  ·rename_i _ ds hrd;have e:uo ((rm ds).run call s.tmps s.heap [] 0)=some s':=e;obtain⟨⟨pl,M,g1,g2,g3,g4,g5⟩,hn,hsm⟩:=hsn;cases hgo:(rm ds).run call s.tmps s.heap [] 0 with
   |none=>grind[uo]
   | some s1=>
    rw[hgo]at e;simp only[uo]at e;split at e
    ·rename_i hbig;simp at e;subst e;rw[bd]at hbig;simp only[decide_eq_true_eq]at hbig;obtain⟨hs,Fs,vs,rc,a1,_,D,rfl⟩:=yW (call:=call) ds 0 (λ_=>s.heap) (λ_=>s.tmps) (λ_=>gh) (λ_=>⟨⟨false,[],0,0⟩,⟨false,[],0,0⟩⟩) s1 hgo;obtain⟨e1,e2⟩:=a1 0 (ar _);obtain⟨hlen,hget⟩:=pe hrd;have hlen:ds.length=ops.size:=by omega
     rw[fx,hlen]at hQ hbig;have R:Reg P G call ops N hs Fs vs rc:=by
      refine⟨hsm,by simp_all,λt u h=>?_,hbig,λj o ho=>?_,λj o ho=>?_,λj o ho i hi hcl=>?_,λj o ho=>?_,λj o ho=>?_,λi j oi oj t hi hj=>wP hck.1 i j oi oj t (by simp_all) (by simp_all)⟩
      ·grind[cases FrRel]
      ·obtain⟨_,_,h3⟩:=hget j o (by simp_all);have h4:=D.one j _ h3;simp only[fx]at h4;exact NR hc rfl rfl h4
      ·obtain⟨_,_,h3⟩:=hget j o (by simp_all);have h4:=D.put j _ h3;simp only[fx]at h4;exact h4
      ·obtain⟨_,_,h3⟩:=hget j o (by simp_all);have h4:=D.ord j _ h3 i (by omega);simp_all
      all_goals simp_all
     refine wp_region_any hm (T2 R (h0:=s.heap) (pl0:=pl) (M0:=M) (w0:=w) g1 g2.dom (by simp_all) (λa1 w1 h1=>?_) ops.size _ a _ (by simp) ?_ ?_)
     ·obtain⟨pl1,M1,k1,k2,k3⟩:=h1;refine hQ a1 w1 ⟨⟨pl1,M1,g1.mono k2.ext k2.mem,k1,k3,g4.trans k2 g5,?_⟩,(R.frame ops.size (ar _)).1,hsm⟩;have:=R.mono (b6 ops.size) (ar _);grind
     ·simp_all
     ·have hno:∀j,¬(Array.replicate ops.size false).getD j false=true:=by simp_all[Array.getD]
      refine⟨λi hi=>absurd hi (hno i),⟨pl,M,s.heap.get,?_,?_,λid m o hm ha _ hg=>?_,λj hj _ id h1 h2=>?_,λj o t _ h=>absurd h (hno j),λt u _ hu=>?_⟩,by rw[g3.size];omega,g3.defers⟩
      ·refine⟨λid p hp=>?_,g2.obj,g2.blk,g2.inj,g2.imm,g2.sep⟩;have h1:=g2.dom id p hp;have:=R.mono (b6 ops.size) (ar _);grind
      ·exact⟨nS.refl _,λ_ _ h=>h,λ_ _ h=>h,ar _,λ_ _ _=>rfl,λid p h=>.inl ⟨p,h,rfl⟩,λ_ _ _ h=>h,λ_ _ h _=>h,λ_ _ h=>.inl h,rfl,rfl,rfl,om _⟩
      ·have:=R.back (j:=0) m (b6 _) hm (λi _ h2 hw=>hno i (ha i h2 hw)) hg;simp_all
      ·cases hp:pl id with
       |none=>rfl
       |some p=>
        have h3:=g2.dom id p hp;have:=R.mono (b6 j) (by omega);grind
      grind[cases FrRel]
    simp_all
  simp_all
 simp_all
end
theorem Ij{C:Cfg}(hN:Xa C.P)(hm:C.P.follows .mixedOrders=true)(hH:Lu C)(k:Nat):cW C.P C.G (fF C k):=DN hN hH (λ_ hc=>Wh hm hc) k
end Go.Ev
