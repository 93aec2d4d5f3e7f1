/- An abstract machine for runs of the program, proved sound against the model: part 3. No conditions. -/
import Derived.Test.YtdhkhecalpkngaaGreatDoorMach2
import Derived.Scope
import Derived.LoopN
import Derived.Orders
namespace Go.Ev
open Go
section
variable{P:Program}{G:fy}{pl:Pl}{M:dT}{h h':AHeap}{w w':World}{v:AV}{A:Fr}{a:Act}
theorem uP{x y:AV}{cx cy:Value}(hx:VRel pl M x cx)(hy:VRel pl M y cy)(e:jf x y=true)(n:Nat):cx=cy/\Instr.sameBits n cy cx=true:=by
 unfold jf at e;split at e
 ·grind[mV,pT,Instr.sameBits,cases VRel]
 all_goals grind[mF,Instr.sameBits,DO,cases VRel]
theorem sT{n:Nat}:∀{xs ys:List AV}{cxs cys:List Value},VRels pl M xs cxs.toArray->VRels pl M ys cys.toArray->j5 xs ys=true->cxs=cys/\(cys.zip cxs).all (fun(x,y)=>Instr.sameBits n x y)=true
 |[],[],cxs,cys,hx,hy,_=>by
  have h1:cxs=[]:=qk (by grind[cases VRels]);have h2:cys=[]:=qk (by grind[cases VRels]);simp_all
 |x::xs,y::ys,[],cys,hx,hy,e=>by grind[cases VRels]
 |x::xs,y::ys,cx::cxs,[],hx,hy,e=>by grind[cases VRels]
 | x::xs,y::ys,cx::cxs,cy::cys,hx,hy,e=>by
  simp only[j5,bZ]at e;have h1:=hx.at_ 0 _ rfl;have h2:=hy.at_ 0 _ rfl;simp[Array.getD]at h1 h2;obtain⟨q1,q2⟩:=uP h1 h2 e.1 n;have tl:∀{z:AV}{zs:List AV}{c:Value}{cs:List Value},VRels pl M (z::zs) (c::cs).toArray->VRels pl M zs cs.toArray:=by
   intro z zs c cs hz;exact⟨by grind[cases VRels],fun j y hj=>by
    have:=hz.at_ (j+1) y (by simp_all);simp_all⟩
  obtain⟨q3,q4⟩:=sT (n:=n) (tl hx) (tl hy) e.2;simp_all
theorem AG{x y:AV}{cx cy:Value}(hx:VRel pl M x cx)(hy:VRel pl M y cy)(e:kN x y=true):cx=cy/\Instr.sameBits 10000 cy cx=true:=by
 unfold kN at e;split at e
 ·cases hx with
  | agg a1 a2 a3=>
   cases hy with
   |agg b1 b2 b3=>
    obtain⟨q1,q2⟩:=sT (pl:=pl) (M:=M) (n:=9999) ⟨a1,a3⟩ ⟨b1,b3⟩ e;rw[Array.toList_inj]at q1;subst q1;refine⟨rfl,?_⟩;rw[show(10000:Nat)=9999+1 from rfl,Instr.sameBits];simp_all
 grind[uP]
theorem nO{p:Place}{es:List AEnt}{clock:Nat}{entries:Array MapEntry}(hp:p.ep=0)(he:EntsRel pl M es entries.toList):bm pl M p (.map es clock) (some (.map entries clock)):=by
 refine⟨hp,rfl,by simpa using he.len,fun i e hi=>?_⟩;grind[cases EntsRel]
theorem Jy{kt t e:TypeId}{ag:Bool}{sz:Nat}{lv:List (Nat×Nat)}(hk:KeyT P kt ag sz lv)(hu:P.underlying t=some (.map kt e))(hr:cN pl M h w){m k x:AV}{cm ck cx:Value}(hm:VRel pl M m cm)(hck:VRel pl M k ck)(hx:VRel pl M x cx)
  (he:rO ag sz lv h (some m) (some k) (some x)=some h'):∃w',(Instr.mapUpdate t cm ck cx).run P w=.ok () w'/\cN pl M h' w'/\dQ h pl M w h' pl M w'/\h'.n=h.n:=by
 cases m<;>simp only[rO]at he<;>(try(exact absurd he (by simp)))
 rename_i id;split at he
 ·rename_i hkr;split at he
  ·rename_i es clock hgo;cases hm with
   | map hp ha=>
    rename_i r p;have ho:=hr.obj id p _ hp hgo;cases hb:w.heap[p.blk]? with
    |none=>grind[bm]
    | some ob=>
     rw[hb]at ho;cases ob<;>simp only[bm]at ho
     rename_i entries clock';obtain⟨g1,g2,g3,g4⟩:=ho;have hrb:=ha g1;subst hrb;subst g2;have hents:EntsRel pl M es entries.toList:=⟨by omega,fun i e hi=>by simp_all⟩
     have hc:=fun em w=>pL (P:=P) hk hck hkr em w
     have hgm:(getObj p.blk).run P w=.ok (.map entries clock') w:=by grind[getObj,Sem.run]
     have hsm:∀o,(setObj p.blk o).run P w=.ok () {w with heap:=w.heap.setIfInBounds p.blk o}:=by grind[setObj,Sem.run]
     have hlt:=hr.blk id p hp;have fin:∀(es':List AEnt)(ents':Array MapEntry)(c':Nat),EntsRel pl M es' ents'.toList->
       cN pl M (h.put id (.map es' c')) {w with heap:=w.heap.setIfInBounds p.blk (.map ents' c')}/\dQ h pl M w (h.put id (.map es' c')) pl M {w with heap:=w.heap.setIfInBounds p.blk (.map ents' c')}:=by
      intro es' ents' c' hrel;have hpe:upd pl id p=pl:=tY hp;have:=cN.change (w':={w with heap:=w.heap.setIfInBounds p.blk (.map ents' c')}) (o':=.map es' c') hr hp hgo (p':=p) (.inl rfl) ⟨rfl,rfl,rfl,af _⟩ (by simp) (fun b _ hne=>by grind) (.inl rfl) (by simp_all)
       (by grind[nO])
      simp_all
     unfold yn at he;split at he
     ·rename_i i en hfe;split at he
      ·rename_i hks;simp at he;subst he;obtain⟨cr,q1,q2⟩:=j7 (P:=P) hk hck w hents hfe;cases cr with
       |none=>exact q2.elim
       | some cr=>
        obtain⟨j,cv⟩:=cr;obtain⟨rfl,_,q3,_⟩:=q2;simp at q3;obtain⟨e',q4,q5,q6,q7⟩:=hents.at_ i en q3;obtain⟨q8,q9⟩:=AG hck q5 hks;have q4':entries[i]?=some e':=by simp_all
        refine⟨_,?_,(fin (es.set i {en with val:=x}) (entries.modify i fun e=>{e with key:=ck,val:=cx}) clock' ?_).1,(fin (es.set i {en with val:=x}) (entries.modify i fun e=>{e with key:=ck,val:=cx}) clock' ?_).2,rfl⟩
        ·simp_all[Instr.mapUpdate,run_underlying,Instr.keyThatStays]
        all_goals
         refine⟨by simpa using hents.len,fun j e hj=>?_⟩;rw[Ct]at hj;by_cases hij:i=j
         ·subst hij;have hil:i<es.length:=by have:=(gZ.1 q3).1;exact this
          simp[hil]at hj;subst hj;refine⟨{e' with key:=ck,val:=cx},by simp[xX,q4'],?_,hx,q7⟩;show VRel pl M en.key ck
          rw[q8];exact q5
         ·simp[hij]at hj;obtain⟨e2,r1,r2⟩:=hents.at_ j e hj;exact⟨e2,by simpa[xX,hij]using r1,r2⟩
      simp_all
     ·rename_i hfe;simp at he;subst he;obtain⟨cr,q1,q2⟩:=j7 (P:=P) hk hck w hents hfe;cases cr with
      |some _=>exact q2.elim
      | none=>
       have hrel:EntsRel pl M (es++[{key:=k,val:=x,born:=clock'}]) (entries.push {key:=ck,val:=cx,born:=clock'}).toList:=by
        refine⟨by simp_all,fun j e hj=>?_⟩;rcases gQ j es.length with hlt2|hge
        ·grind
        ·rw[oD hge]at hj;have hz:j-es.length=0:=by grind
         rw[hz]at hj;simp at hj;subst hj;refine⟨{key:=ck,val:=cx,born:=clock'},?_,hck,hx,rfl⟩;grind
       exact⟨_,by simp_all[Instr.mapUpdate,run_underlying],(fin _ _ _ hrel).1,(fin _ _ _ hrel).2,rfl⟩
     simp_all
  simp_all
 simp_all
theorem C0{o:Option AHeap}{r:ARes}(e:wj o=some r):∃h,o=some h/\r=.val gF h:=by
 cases o with
 |none=>grind[wj]
 |some v=>grind[wj]
theorem EY{ag:Bool}{sz:Nat}{lv:List (Nat×Nat)}{m k x:Option AV}(e:rO ag sz lv h m k x=some h'):∃a b c,m=some a/\k=some b/\x=some c:=by
 unfold rO at e;grind
theorem uT(t:TypeId)(m k x:Operand):ja P G (.mapUpdate t m k x)/\ja P G (.insert t m k x):=by
 have key:∀(pl:Pl)(M:dT)(A:Fr)(h:AHeap)(v:AV)(h':AHeap)(a:Act)(w:World),qr G pl M->cN pl M h w->FrRel pl M A a->(fC P G (.mapUpdate t m k x)).run A h=some (.val v h')->
   qG pl M h w ((do Instr.mapUpdate t (a.eval m) (a.eval k) (a.eval x);pure .skip:Sem Next).run P w) v h':=by
  intro pl M A h v h' a w hg hr hf he;simp only[fC]at he;split at he
  ·rename_i kt e hu;split at he
   ·rename_i ag sz lv h1 h2 h3;obtain⟨u,e1,e2⟩:=C0 he;simp at e2;obtain⟨rfl,rfl⟩:=e2;obtain⟨mv,kv,xv,e3,e4,e5⟩:=EY e1;rw[e3,e4,e5]at e1;obtain⟨w',q1,q2,q3,q4⟩:=Jy (P:=P) ⟨h1,h2,h3⟩ hu hr (bq hg hf e3) (bq hg hf e4) (bq hg hf e5) e1;exact⟨pl,M,undef,w',.skip,by simp_all,.inr ⟨rfl,rfl⟩,.tuple rfl (fun j y h=>by simp_all),q2,q3,by omega⟩
   grind[av]
  grind[av]
 constructor<;>(intro pl M A h v h' a w dst ty pos after guard hg hr hf he;exact key pl M A h v h' a w hg hr hf he)
theorem QP(t:TypeId)(x:Operand):ja P G (.range t x):=by
 intro pl M A h v h' a w dst ty pos after guard hg hr hf he;simp only[fC]at he;split at he
 ·rename_i hu;simp only[]at he;split at he
  ·rename_i s hx;simp at he;obtain⟨rfl,rfl⟩:=he;have hxv:=bq hg hf hx;generalize hq:a.eval x=cx at hxv;cases hxv
   have hal:=cN.alloc (w':={w with heap:=w.heap.push (.stringIter ⟨⟨s⟩⟩ 0)}) (o:=.siter s 0) (p:=⟨w.heap.size,0,1,0,0⟩) hr rfl ⟨rfl,rfl,rfl,af _⟩ rfl ⟨rfl,rfl,rfl,rfl⟩;refine⟨_,M,.pointer (some ⟨w.heap.size,0,none⟩),_,.value _,?_,.inl rfl,?_,hal.1,hal.2,by simp[AHeap.push]⟩
   ·simp only[execOp,hq,Instr.range,Sem.run_bind,run_underlying hu,Result.andThen_ok,Sem.run_pure];rfl
   ·refine .ptr (eh _ _ _) (af _) fun _=>?_
    simp
  simp_all
 ·rename_i hu;simp only[]at he;obtain⟨p0,e1,e2⟩:=ll he;simp at e2;obtain⟨rfl,rfl⟩:=e2;cases hx:(cE G x).run A with
  |none=>grind[wv]
  | some xv=>
   have hxv:=bq hg hf hx;rw[hx]at e1;generalize hq:a.eval x=cx at hxv;unfold wv at e1;split at e1
   ·rename_i q;simp at q;subst q;simp at e1;subst e1;cases hxv
    have hal:=cN.alloc (w':={w with heap:=w.heap.push (.mapIter none 0 #[] 0)}) (o:=.miter .nilm 0 []) (p:=⟨w.heap.size,0,1,0,0⟩) hr rfl ⟨rfl,rfl,rfl,af _⟩ rfl ⟨rfl,rfl,.nilm,rfl,rfl,rfl⟩;refine⟨_,M,.pointer (some ⟨w.heap.size,0,none⟩),_,.value _,?_,.inl rfl,?_,hal.1,hal.2,by simp[AHeap.push]⟩
    ·simp only[execOp,hq,Instr.range,Sem.run_bind,run_underlying hu,Result.andThen_ok,Sem.run_pure];rfl
    ·refine .ptr (eh _ _ _) (af _) fun _=>?_
     simp
   ·rename_i id q;simp at q;subst q;split at e1
    ·rename_i es clock hgo;simp at e1;subst e1;cases hxv with
     | map hp ha=>
      rename_i r p;have ho:=hr.obj id p _ hp hgo;cases hb:w.heap[p.blk]? with
      |none=>grind[bm]
      | some ob=>
       rw[hb]at ho;cases ob<;>simp only[bm]at ho
       rename_i entries clock';obtain⟨g1,g2,g3,g4⟩:=ho;have hrb:=ha g1;subst hrb;subst g2;have hgm:(getObj p.blk).run P w=.ok (.map entries clock') w:=by grind[getObj,Sem.run]
       have hne:id≠h.n:=by have:=hr.dom id p hp;omega
       have hal:=cN.alloc (w':={w with heap:=w.heap.push (.mapIter (some p.blk) clock' #[] clock')}) (o:=.miter (.map id) clock' []) (p:=⟨w.heap.size,0,1,0,0⟩) hr rfl ⟨rfl,rfl,rfl,af _⟩ rfl
        ⟨rfl,rfl,.map (by grind[dJ]) (fun _=>rfl),rfl,rfl,rfl⟩
       refine⟨_,M,.pointer (some ⟨w.heap.size,0,none⟩),_,.value _,?_,.inl rfl,?_,hal.1,hal.2,by simp[AHeap.push]⟩
       ·simp only[execOp,hq,Instr.range,Sem.run_bind,run_underlying hu,Result.andThen_ok,Sem.run_pure,hgm];rfl
       ·refine .ptr (eh _ _ _) (af _) fun _=>?_
        simp
    simp_all
   simp_all
 grind[av]
theorem HU(hr:cN pl M h w){id:Nat}{m:AV}{clock:Nat}{seen:List Nat}{c:Value}(hv:VRel pl M (.ptr id 0 0 0) c)(hgo:h.get id=some (.miter m clock seen)):
  ∃p m' seen',pl id=some p/\p.ep=0/\p.sz=1/\c=.pointer (some ⟨p.blk,0,none⟩)/\w.heap[p.blk]?=some (.mapIter m' clock seen' clock)/\VRel pl M m (.map m')/\seen'.toList=seen:=by
 cases hv with
 | ptr hp hle ha=>
  rename_i ad p;have ho:=hr.obj id p _ hp hgo;cases hb:w.heap[p.blk]? with
  |none=>grind[bm]
  |some ob=>
   rw[hb]at ho;cases ob<;>simp only[bm]at ho
   grind
theorem XM(hr:cN pl M h w){id:Nat}{es:List AEnt}{clock:Nat}{m':Option Nat}(hv:VRel pl M (.map id) (.map m'))(hgo:h.get id=some (.map es clock)):
  ∃r entries,m'=some r/\w.heap[r]?=some (.map entries clock)/\EntsRel pl M es entries.toList:=by
 cases hv with
 | map hp ha=>
  rename_i r p;have ho:=hr.obj id p _ hp hgo;cases hb:w.heap[p.blk]? with
  |none=>grind[bm]
  |some ob=>
   rw[hb]at ho;cases ob<;>simp only[bm]at ho
   rename_i entries clock';obtain⟨g1,g2,g3,g4⟩:=ho;have hrb:=ha g1;subst hrb;subst g2;exact⟨p.blk,entries,rfl,hb,⟨by omega,fun i e hi=>by simp_all⟩⟩
theorem Ha:∀(l:List Nat),MB l=l.getLast?
 |[]=>rfl
 |[_]=>rfl
 |x::y::r=>by show MB (y::r)=_;rw[Ha (y::r)];simp
theorem s8{b:Nat}:∀{es:List AEnt}{l:List MapEntry}{e:AEnt},EntsRel pl M es l->o9 b es=some e->∃e',l.find? (·.born ==b)=some e'/\VRel pl M e.key e'.key/\VRel pl M e.val e'.val/\e'.born=e.born
 |[],_,_,_,h=>by grind[o9]
 | x::r,l,e,he,h=>by
  obtain⟨e',h1,k1,k2,k3⟩:=he.at_ 0 x rfl
  match l,h1,he with
  |y::l',h1,he=>
   simp at h1;subst h1;simp only[o9,aB]at h;by_cases q:x.born=b
   ·simp_all
   ·simp[q]at h;obtain⟨e2,z1,z2⟩:=s8 (l:=l') ⟨by have:=he.len;simp_all,fun i e hi=>he.at_ (i+1) e (by simp_all)⟩ h;simp_all
theorem QT(it:Operand):ja P G (.entry it):=by
 intro pl M A h v h' a w dst ty pos after guard hg hr hf he;simp only[fC]at he;obtain⟨v0,e1,e2⟩:=bI he;simp at e2;obtain⟨rfl,rfl⟩:=e2;cases hx:(cE G it).run A with
 |none=>grind[KC]
 | some xv=>
  have hxv:=bq hg hf hx;rw[hx]at e1;generalize hq:a.eval it=cx at hxv;unfold KC at e1;split at e1
  ·rename_i id q;simp at q;subst q;split at e1
   ·rename_i m clock seen hgo;split at e1
    ·rename_i es clock' hgm;rw[aB]at e1;by_cases hc:clock=clock'
     ·subst hc;simp at e1;obtain⟨p,m',seen',hp,g1,g2,rfl,hb,g3,g4⟩:=HU hr hxv hgo;obtain⟨r,entries,rfl,hbm,hen⟩:=XM hr g3 hgm;rw[Ha]at e1;cases hl:seen.getLast? with
      |none=>grind[TX,VM]
      | some bn=>
       rw[hl]at e1;simp only[TX]at e1;cases hfb:o9 bn es with
       |none=>grind[VM]
       | some e=>
        rw[hfb]at e1;simp[VM]at e1;obtain⟨e',z1,z2,z3,z4⟩:=s8 hen hfb;have hgi:(getObj p.blk).run P w=.ok (.mapIter (some r) clock seen' clock) w:=by grind[getObj,Sem.run]
        have hgm':(getObj r).run P w=.ok (.map entries clock) w:=by grind[getObj,Sem.run]
        have hback:seen'.back?=some bn:=by grind
        have hfind:entries.find? (·.born ==bn)=some e':=by simp_all
        refine⟨pl,M,.tuple #[e'.key,e'.val],w,.value _,?_,.inl rfl,?_,hr,dQ.refl _ _ _ _,af _⟩
        ·simp_all[execOp,Instr.entry]
        ·subst e1;refine .tuple rfl fun j y hj=>?_
         match j,hj with
         |0,hj=>simp_all
         |1,hj=>simp_all
     simp_all
    simp_all
   simp_all
  simp_all
theorem JH(it:Operand):ja P G (.next it false):=by
 intro pl M A h v h' a w dst ty pos after guard hg hr hf he;simp only[fC]at he;obtain⟨v0,e1,e2⟩:=bI he;simp at e2;obtain⟨rfl,rfl⟩:=e2;cases hx:(cE G it).run A with
 |none=>grind[Ac]
 | some xv=>
  have hxv:=bq hg hf hx;rw[hx]at e1;generalize hq:a.eval it=cx at hxv;unfold Ac at e1;split at e1
  ·rename_i id q;simp at q;subst q;split at e1
   ·rename_i clock seen hgo;simp at e1;obtain⟨p,m',seen',hp,g1,g2,rfl,hb,g3,g4⟩:=HU hr hxv hgo;cases g3
    have hgi:(getObj p.blk).run P w=.ok (.mapIter none clock seen' clock) w:=by grind[getObj,Sem.run]
    refine⟨pl,M,.tuple #[.bool false],w,.value _,?_,.inl rfl,?_,hr,dQ.refl _ _ _ _,af _⟩
    ·simp_all[execOp,Instr.next]
    ·subst e1;refine .tuple rfl fun j y hj=>?_
     match j,hj with
     |0,hj=>simp at hj;subst hj;exact .bool _
   simp_all
  simp_all
theorem UG(it:Operand):ja P G (.next it true):=by
 intro pl M A h v h' a w dst ty pos after guard hg hr hf he;simp only[fC]at he;obtain⟨p0,e1,e2⟩:=ll he;simp at e2;obtain⟨rfl,rfl⟩:=e2;cases hx:(cE G it).run A with
 |none=>grind[RX]
 | some xv=>
  have hxv:=bq hg hf hx;rw[hx]at e1;unfold RX at e1;split at e1
  ·rename_i id q;simp at q;subst q;split at e1
   ·rename_i s pos' hgo;generalize hq:a.eval it=cx at hxv;cases hxv with
    | ptr hp hle ha=>
     rename_i ad p;have ho:=hr.obj id p _ hp hgo;cases hb:w.heap[p.blk]? with
     |none=>grind[bm]
     | some ob=>
      rw[hb]at ho;cases ob<;>simp only[bm]at ho
      rename_i s' pos2;obtain⟨g1,g2,g3,g4⟩:=ho;have had:=ha g1.symm;simp at had;subst had;subst g3;subst g4;have hlt:=hr.blk id p hp;have hgm:(getObj p.blk).run P w=.ok (.stringIter ⟨⟨s⟩⟩ pos2) w:=by grind[getObj,Sem.run]
      have hsm:∀o,(setObj p.blk o).run P w=.ok () {w with heap:=w.heap.setIfInBounds p.blk o}:=by grind[setObj,Sem.run]
      have hsize:(⟨⟨s⟩⟩:ByteArray).size=s.length:=rfl;rw[dN]at e1;split at e1
      ·rename_i hps;simp at hps;simp at e1;subst e1;have hpe:upd pl id p=pl:=tY hp;have hch:=cN.change (w':={w with heap:=w.heap.setIfInBounds p.blk (.stringIter ⟨⟨s⟩⟩ (pos2+(Utf8.decode ⟨⟨s⟩⟩ pos2).2))}) (o':=.siter s (pos2+(Utf8.decode ⟨s.toArray⟩ pos2).2)) hr hp hgo (p':=p) (.inl rfl) ⟨rfl,rfl,rfl,af _⟩ (by simp) (fun b _ hne=>by grind) (.inl rfl) (by simp_all)
        (by rw[hpe];simp only[Array.getElem?_setIfInBounds_self_of_lt hlt];exact⟨g1,g2,rfl,rfl⟩)
       rw[hpe]at hch;refine⟨pl,M,.tuple #[.bool true,goInt pos2,.int .i32 (Utf8.decode ⟨⟨s⟩⟩ pos2).1],_,.value _,?_,.inl rfl,?_,hch.1,hch.2,af _⟩
       ·simp_all[execOp,Instr.next]
       ·refine .tuple rfl fun j y hj=>?_
        match j,hj with
        |0,hj=>simp at hj;subst hj;exact .bool _
        |1,hj=>simp at hj;subst hj;exact .int _ _
        |2,hj=>simp at hj;subst hj;exact .int _ _
      ·rename_i hps;simp at hps;simp at e1;subst e1;refine⟨pl,M,.tuple #[.bool false],w,.value _,?_,.inl rfl,?_,hr,dQ.refl _ _ _ _,af _⟩
       ·simp_all[execOp,Instr.next]
       ·refine .tuple rfl fun j y hj=>?_
        match j,hj with
        |0,hj=>simp at hj;subst hj;exact .bool _
   simp_all
  simp_all
theorem ZD{o:Option AV}{f:FuncId}{args:List AV}:bA h o=some (.call f args)->False:=by cases o<;>simp[bA]
theorem noH{o:Option (AV×AHeap)}{f:FuncId}{args:List AV}:fG o=some (.call f args)->False:=by rcases o with _|⟨a,b⟩<;>simp[fG]
theorem noU{o:Option AHeap}{f:FuncId}{args:List AV}:wj o=some (.call f args)->False:=by cases o<;>simp[wj]
theorem noB{o:Option AV}{f:FuncId}{args:List AV}:sE h o=some (.call f args)->False:=by
 intro e;unfold sE at e;grind
theorem VRels.append{as bs:List AV}{vs ws:Array Value}(h1:VRels pl M as vs)(h2:VRels pl M bs ws):VRels pl M (as++bs) (vs++ws):=by
 refine⟨by grind[cases VRels],fun j y hj=>?_⟩;rcases gQ j as.length with hlt|hge
 ·rw[sL hlt]at hj;have:=h1.at_ j y hj;rw[iJ]at this ⊢;rw[Array.getElem?_append_left (by rw[<-h1.len];omega)];omega
 ·rw[oD hge]at hj;have:=h2.at_ _ y hj;rw[iJ]at this ⊢;rw[Array.getElem?_append_right (by rw[<-h1.len];omega),<-h1.len];omega
theorem u9{o:Oper}{f:FuncId}{args:List AV}{h:AHeap}(hg:qr G pl M)(hf:FrRel pl M A a)(he:(fC P G o.op).run A h=some (.call f args)):
  ∃vs,VRels pl M args vs/\(execOp a.eval o).run P w=(callFunc f vs).run P w:=by
 obtain⟨dst,op,ty,pos,after,guard⟩:=o;simp only at he;cases op
 case call c=>
  obtain⟨callee,cargs,ts⟩:=c;cases callee with
  |builtin b=>
   simp only[fC]at he;unfold iG at he
   repeat' (first|exact(ZD he).elim |exact(noH he).elim |exact(noU he).elim |exact(noB he).elim |exact(av he).elim |(simp at he;done)|(split at he)|(simp only[]at he))
  |invoke r n=>exact(av he).elim
  | value fo=>
   simp only[fC]at he;cases hl:(wb G cargs.toList).run A with
   |none=>simp_all
   | some l=>
    cases hfo:(cE G fo).run A with
    |none=>grind[DN]
    | some fv=>
     rw[hl,hfo]at he;have hfv:=bq hg hf hfo;have hlv:=sZ hg hf _ _ hl;cases fv with
     | func fn first captured=>
      cases fn with
      | func g=>
       simp[DN]at he;obtain⟨rfl,rfl⟩:=he;generalize hq:a.eval fo=cf at hfv;cases hfv with
       | func k1 k2 k3 k4=>
        rename_i vs ws;refine⟨vs++cargs.map a.eval++ws,?_,?_⟩
        ·have hl2:VRels pl M l (cargs.map a.eval):=by
          have e:(List.map a.eval cargs.toList).toArray=cargs.map a.eval:=by grind
          simp_all
         rw[<-qP];exact((VRels.mk k1 k3).append hl2).append (VRels.mk k2 k4)
        grind[execOp,resolve,Deferred.ofValue,invoke]
      |_=>simp[DN]at he
     |_=>simp[DN]at he
 case build t parts=>
  simp only[fC]at he
  repeat' (first|exact(av he).elim |(unfold Cb at he;split at he;split at he;exact(ZD he).elim)|exact(av he).elim |(split at he)|(simp only[]at he))
 case makeMap t r=>cases r<;>(simp only[fC]at he;(try unfold wI at he);(try unfold Cb at he);repeat' (first|exact(ZD he).elim |exact(noH he).elim |exact(noU he).elim |exact(noB he).elim |exact(av he).elim |(simp at he;done)|(split at he)|(simp only[]at he)))
 case next it b=>cases b<;>(simp only[fC]at he;(try unfold wI at he);(try unfold Cb at he);repeat' (first|exact(ZD he).elim |grind[noH]|exact(noU he).elim |exact(noB he).elim |exact(av he).elim |(simp at he;done)|(split at he)|(simp only[]at he)))
 all_goals (simp only[fC]at he;(try unfold wI at he);(try unfold Cb at he);repeat' (first|exact(ZD he).elim |exact(noH he).elim |exact(noU he).elim |exact(noB he).elim |exact(av he).elim |(simp at he;done)|(split at he)|(simp only[]at he)))
theorem OP{kt t e:TypeId}{ag:Bool}{sz:Nat}{lv:List (Nat×Nat)}(hk:KeyT P kt ag sz lv)(hu:P.underlying t=some (.map kt e))(hr:cN pl M h w){m k:AV}{cm ck:Value}(hm:VRel pl M m cm)(hck:VRel pl M k ck)
  (he:oS ag sz lv (iS P e) h (some m) (some k)=some (v,h')):∃cv w',(Instr.mapEntry t cm ck).run P w=.ok cv w'/\VRel pl M v cv/\cN pl M h' w'/\dQ h pl M w h' pl M w'/\h'.n=h.n:=by
 cases m<;>simp only[oS]at he<;>(try(exact absurd he (by simp)))
 rename_i id;split at he
 ·rename_i hkr;split at he
  ·rename_i es clock hgo;cases hm with
   | map hp ha=>
    rename_i r p;have ho:=hr.obj id p _ hp hgo;cases hb:w.heap[p.blk]? with
    |none=>grind[bm]
    | some ob=>
     rw[hb]at ho;cases ob<;>simp only[bm]at ho
     rename_i entries clock';obtain⟨g1,g2,g3,g4⟩:=ho;have hrb:=ha g1;subst hrb;subst g2;have hents:EntsRel pl M es entries.toList:=⟨by omega,fun i e hi=>by simp_all⟩
     have hc:=fun em w=>pL (P:=P) hk hck hkr em w
     have hgm:(getObj p.blk).run P w=.ok (.map entries clock') w:=by grind[getObj,Sem.run]
     have hsm:∀o,(setObj p.blk o).run P w=.ok () {w with heap:=w.heap.setIfInBounds p.blk o}:=by grind[setObj,Sem.run]
     have fin:∀(es':List AEnt)(ents':Array MapEntry)(c':Nat),EntsRel pl M es' ents'.toList->
       cN pl M (h.put id (.map es' c')) {w with heap:=w.heap.setIfInBounds p.blk (.map ents' c')}/\dQ h pl M w (h.put id (.map es' c')) pl M {w with heap:=w.heap.setIfInBounds p.blk (.map ents' c')}:=by
      intro es' ents' c' hrel;have hpe:upd pl id p=pl:=tY hp;have:=cN.change (w':={w with heap:=w.heap.setIfInBounds p.blk (.map ents' c')}) (o':=.map es' c') hr hp hgo (p':=p) (.inl rfl) ⟨rfl,rfl,rfl,af _⟩ (by simp) (fun b _ hne=>by grind) (.inl rfl) (by clear he;simp[hr.blk id p hp])
       (by grind[nO])
      simp_all
     have pair:∀{x:AV}{cx:Value}{b:Nat},VRel pl M x cx->VRel pl M (.tuple [x,.int .i64 (.ofNat b)]) (.tuple #[cx,goInt b]):=by
      intro x cx b hx;refine .tuple rfl fun j y hj=>?_
      match j,hj with
      |0,hj=>simp at hj;subst hj;simpa using hx
      |1,hj=>simp at hj;subst hj;exact .int _ _
     unfold Sm at he;split at he
     ·rename_i i en hfe;split at he
      ·rename_i hks;simp at he;obtain⟨rfl,rfl⟩:=he;obtain⟨cr,q1,q2⟩:=j7 (P:=P) hk hck w hents hfe;cases cr with
       |none=>exact q2.elim
       | some cr=>
        obtain⟨j,cv⟩:=cr;obtain⟨rfl,_,q3,q0⟩:=q2;simp at q3;obtain⟨e',q4,q5,q6,q7⟩:=hents.at_ i en q3;obtain⟨q8,q9⟩:=AG hck q5 hks;have q4':entries[i]?=some e':=by simp_all
        have hrel:EntsRel pl M (es.set i {en with val:=en.val}) (entries.modify i fun e=>{e with key:=ck}).toList:=by
         refine⟨by simpa using hents.len,fun j e hj=>?_⟩;rw[Ct]at hj;by_cases hij:i=j
         ·subst hij;have hil:i<es.length:=by have:=(gZ.1 q3).1;exact this
          simp[hil]at hj;subst hj;refine⟨{e' with key:=ck},by simp[xX,q4'],?_,q6,q7⟩;show VRel pl M en.key ck
          rw[q8];exact q5
         ·simp[hij]at hj;obtain⟨e2,r1,r2⟩:=hents.at_ j e hj;exact⟨e2,by simpa[xX,hij]using r1,r2⟩
        have hrun:(Instr.mapEntry t (.map (some p.blk)) ck).run P w=.ok (.tuple #[cv,goInt en.born]) {w with heap:=w.heap.setIfInBounds p.blk (.map (entries.modify i fun e=>{e with key:=ck}) clock')}:=by simp_all[Instr.mapEntry,run_underlying,Instr.keyThatStays]
        exact⟨_,_,hrun,pair q0,(fin _ _ _ hrel).1,(fin _ _ _ hrel).2,rfl⟩
      simp_all
     ·rename_i hfe;split at he
      ·rename_i z hz;simp at he;obtain⟨rfl,rfl⟩:=he;obtain⟨cz,hz3,hz4⟩:=mJ hz;obtain⟨cr,q1,q2⟩:=j7 (P:=P) hk hck w hents hfe;cases cr with
       |some _=>exact q2.elim
       | none=>
        have hrel:EntsRel pl M (es++[{key:=k,val:=z,born:=clock'}]) (entries.push {key:=ck,val:=cz,born:=clock'}).toList:=by
         refine⟨by simp_all,fun j e hj=>?_⟩;rcases gQ j es.length with hlt2|hge
         ·rw[sL hlt2]at hj;obtain⟨e2,r1,r2⟩:=hents.at_ j e hj;exact⟨e2,by rw[Array.toList_push,sL (by have:=hents.len;omega)];exact r1,r2⟩
         ·have hjl:=(gZ.1 hj).1;rw[oD hge]at hj;have hz:j-es.length=0:=by simp at hjl;omega
          rw[hz]at hj;simp at hj;subst hj;have hj2:j=entries.size:=by omega
          subst hj2;exact⟨{key:=ck,val:=cz,born:=clock'},by simp,hck,dn hz4,rfl⟩
        have hrun:(Instr.mapEntry t (.map (some p.blk)) ck).run P w=.ok (.tuple #[cz,goInt clock']) {w with heap:=w.heap.setIfInBounds p.blk (.map (entries.push {key:=ck,val:=cz,born:=clock'}) (clock'+1))}:=by simp_all[Instr.mapEntry,run_underlying]
        exact⟨_,_,hrun,pair (dn hz4),(fin _ _ _ hrel).1,(fin _ _ _ hrel).2,rfl⟩
      simp_all
     simp_all
  simp_all
 simp_all
theorem G5(t:TypeId)(m k:Operand):ja P G (.mapEntry t m k):=by
 intro pl M A h v h' a w dst ty pos after guard hg hr hf he;simp only[fC]at he;split at he
 ·rename_i kt e hu;split at he
  ·rename_i ag sz lv h1 h2 h3;obtain⟨⟨u,u'⟩,e1,e2⟩:=ll he;simp at e2;obtain⟨rfl,rfl⟩:=e2;cases hm:(cE G m).run A with
   |none=>grind[oS]
   | some mv=>
    cases hkk:(cE G k).run A with
    |none=>grind[oS]
    |some kv=>
     rw[hm,hkk]at e1;obtain⟨cv,w',q1,q2,q3,q4,q5⟩:=OP (P:=P) ⟨h1,h2,h3⟩ hu hr (bq hg hf hm) (bq hg hf hkk) e1;exact⟨pl,M,cv,w',.value cv,by simp[execOp,q1],.inl rfl,q2,q3,q4,by omega⟩
  grind[av]
 grind[av]
theorem DR{n:Int}:∀{es:List AEnt}{i j:Nat}{en:AEnt},BB n es i=some (j,en)->∃q,j=i+q/\es[q]?=some en/\((en.born:Nat):Int)=n/\∀(r:Nat)(x:AEnt),r<q->es[r]?=some x->((x.born:Nat):Int)≠n
 |[],_,_,_,e=>by simp[BB]at e
 | x::xs,i,j,en,e=>by
  simp only[BB]at e;split at e
  ·rename_i hq;rw[pT]at hq;simp at e hq;obtain⟨rfl,rfl⟩:=e;exact⟨0,rfl,rfl,hq,fun r x hr=>by omega⟩
  ·rename_i hq;rw[pT]at hq;simp at hq;obtain⟨q,rfl,h2,h3,h4⟩:=DR e;refine⟨q+1,by omega,by simpa using h2,h3,fun r y hr hy=>?_⟩;cases r with
   |zero=>simp at hy;subst hy;exact hq
   |succ r=>exact h4 r y (by omega) (by simpa using hy)
theorem Bv{t:TypeId}(hr:cN pl M h w){m s x:AV}{cm cs cx:Value}(hm:VRel pl M m cm)(hs:VRel pl M s cs)(hx:VRel pl M x cx)
  (he:kx h (some m) (some s) (some x)=some h'):∃w',(Instr.entryStore t cm cs cx).run P w=.ok () w'/\cN pl M h' w'/\dQ h pl M w h' pl M w'/\h'.n=h.n:=by
 cases m<;>simp only[kx]at he<;>(try(exact absurd he (by simp)))
 cases s<;>simp only[]at he<;>(try(exact absurd he (by simp)))
 rename_i id kd n;split at he
 ·rename_i es clock hgo;cases hs
  cases hm with
  | map hp ha=>
   rename_i r p;have ho:=hr.obj id p _ hp hgo;cases hb:w.heap[p.blk]? with
   |none=>grind[bm]
   | some ob=>
    rw[hb]at ho;cases ob<;>simp only[bm]at ho
    rename_i entries clock';obtain⟨g1,g2,g3,g4⟩:=ho;have hrb:=ha g1;subst hrb;subst g2;have hents:EntsRel pl M es entries.toList:=⟨by omega,fun i e hi=>by simp_all⟩
    have hgm:(getObj p.blk).run P w=.ok (.map entries clock') w:=by grind[getObj,Sem.run]
    have hsm:∀o,(setObj p.blk o).run P w=.ok () {w with heap:=w.heap.setIfInBounds p.blk o}:=by grind[setObj,Sem.run]
    have fin:∀(es':List AEnt)(ents':Array MapEntry)(c':Nat),EntsRel pl M es' ents'.toList->
      cN pl M (h.put id (.map es' c')) {w with heap:=w.heap.setIfInBounds p.blk (.map ents' c')}/\dQ h pl M w (h.put id (.map es' c')) pl M {w with heap:=w.heap.setIfInBounds p.blk (.map ents' c')}:=by
     intro es' ents' c' hrel;have hpe:upd pl id p=pl:=tY hp;have:=cN.change (w':={w with heap:=w.heap.setIfInBounds p.blk (.map ents' c')}) (o':=.map es' c') hr hp hgo (p':=p) (.inl rfl) ⟨rfl,rfl,rfl,af _⟩ (by simp) (fun b _ hne=>by grind) (.inl rfl) (by clear he;simp[hr.blk id p hp])
      (by grind[nO])
     simp_all
    split at he
    ·rename_i j en hfe;simp at he;subst he;obtain⟨q,rfl,q3,qb,qn⟩:=DR hfe;simp only[gn];obtain⟨e',q4,q5,q6,q7⟩:=hents.at_ q en q3;have q4':entries[q]?=some e':=by simp_all
     have hix:entries.findIdx? (fun e=>((e.born:Nat):Int)==n)=some q:=by
      have hq:q<entries.size:=by have:=(sI.1 q4').1;exact this
      rw[Array.findIdx?_eq_some_iff_getElem];refine⟨hq,?_,fun r hr=>?_⟩
      ·have:entries[q]=e':=by have:=(sI.1 q4').2;exact this
       rw[this,q7];simpa using qb
      ·have hre:r<es.length:=by have:=hents.len;simp at this;omega
       obtain⟨e2,r1,r2,r3,r4⟩:=hents.at_ r es[r] (by simp[hre]);have h2:=qn r es[r] hr (by simp[hre]);have h3:entries[r]=e2:=by simpa using(gZ.1 r1).2
       rw[h3,r4];simpa using h2
     have hrel:EntsRel pl M (es.set q {en with val:=x}) (entries.modify q fun e=>{e with val:=cx}).toList:=by
      refine⟨by simpa using hents.len,fun j e hj=>?_⟩;rw[Ct]at hj;by_cases hij:q=j
      ·subst hij;have hil:q<es.length:=by have:=(gZ.1 q3).1;exact this
       simp[hil]at hj;subst hj;exact⟨{e' with val:=cx},by simp[xX,q4'],q5,hx,q7⟩
      ·simp[hij]at hj;obtain⟨e2,r1,r2⟩:=hents.at_ j e hj;exact⟨e2,by simpa[xX,hij]using r1,r2⟩
     exact⟨_,by simp[Instr.entryStore,hgm,asInt,asIntOf,hix,hsm],(fin _ _ _ hrel).1,(fin _ _ _ hrel).2,rfl⟩
    simp_all
 simp_all
theorem Cx(t:TypeId)(m s x:Operand):ja P G (.entryStore t m s x):=by
 intro pl M A h v h' a w dst ty pos after guard hg hr hf he;simp only[fC]at he;obtain⟨u,e1,e2⟩:=C0 he;simp at e2;obtain⟨rfl,rfl⟩:=e2;cases hm:(cE G m).run A with
 |none=>grind[kx]
 | some mv=>
  cases hss:(cE G s).run A with
  |none=>rw[hm,hss]at e1;simp only[kx]at e1;grind
  | some sv=>
   cases hxx:(cE G x).run A with
   |none=>rw[hm,hss,hxx]at e1;simp only[kx]at e1;grind
   |some xv=>
    rw[hm,hss,hxx]at e1;obtain⟨w',q1,q2,q3,q4⟩:=Bv (P:=P) (t:=t) hr (bq hg hf hm) (bq hg hf hss) (bq hg hf hxx) e1;exact⟨pl,M,undef,w',.skip,by simp[execOp,q1],.inr ⟨rfl,rfl⟩,.tuple rfl (fun j y h=>by simp_all),q2,q3,by omega⟩
theorem Aj(op:Op):ja P G op:=by
 have none:fC P G op=eW->ja P G op:=fun e pl M A h v h' a w dst ty pos after guard hg hr hf he=>by grind[av]
 cases op
 case move x=>exact L0 x
 case assign x=>exact Oq x
 case pick c a b=>grind[UF]
 case alloc e=>exact Q2 e
 case box e x=>grind[Xu]
 case build t p=>grind[Q0]
 case buildSlice t n p=>grind[Cj]
 case load t a=>grind[UH]
 case store t a x=>grind[QN]
 case nilCheck x=>exact G4 x
 case binOp op t x y z=>grind[Q1]
 case unOp op t x=>grind[UE]
 case convert s d x=>grind[JM]
 case makeInterface t x=>grind[wc]
 case makeFunc f a b=>grind[G6]
 case makeMap t r=>grind[JI]
 case makeSlice t l c=>grind[Eu]
 case slice t x lo hi mx=>grind[QO]
 case fieldAddr s x f=>grind[EB]
 case field s x f=>grind[QS]
 case indexAddr t x i=>grind[EA]
 case index t x i=>grind[QR]
 case lookup t m k ok=>grind[OU]
 case mapUpdate t m k x=>grind[uT]
 case insert t m k x=>simp_all[uT]
 case mapEntry t m k=>exact G5 t m k
 case entryStore t m s x=>exact Cx t m s x
 case range t x=>grind[QP]
 case next it b=>
  cases b
  all_goals grind[JH,UG]
 case entry it=>grind[QT]
 case extract t i=>grind[JL]
 case call c=>
  obtain⟨callee,args,ts⟩:=c;cases callee with
  |builtin b=>grind[JN]
  |invoke r n=>exact none rfl
  |value f=>
   intro pl M A h v h' a w dst ty pos after guard hg hr hf he;simp only[fC]at he;split at he
   ·unfold DN at he;grind
   simp_all
 all_goals exact none rfl
end
section
variable{P:Program}{G:fy}{pl pl':Pl}{M M':dT}{h h':AHeap}{w w':World}{v:AV}
theorem ra{a b n:Nat}:Nat.mx a b<=n↔a<=n/\b<=n:=by grind[Nat.mx,ba]
theorem eJ{n:Nat}:∀{xs:List AV},az xs<=n↔∀x,x∈xs->x.top<=n
 |[]=>by simp[az]
 |x::r=>by simp[az,ra,eJ (xs:=r)]
theorem lH{n:Nat}{x y:AV}(h:x.top<=n)(hy:y∈x.cells):y.top<=n:=by
 cases x<;>simp only[AV.cells,oC]at hy
 case agg cs=>simp only[AV.top]at h;exact eJ.1 h y hy
 all_goals (subst hy;exact h)
def dj(pl:Pl)(n:Nat):Pl:=fun id=>if id<n then pl id else none
theorem aT{n id:Nat}{p:Place}:dj pl n id=some p↔id<n/\pl id=some p:=by grind[dj]
theorem VRel.agree{n:Nat}{x:Value}(h:VRel pl M v x)(ht:v.top<=n)(ha:∀id p,id<n->pl id=some p->pl' id=some p)(hm:qF M M'):VRel pl' M' v x:=by
 have elems:∀{xs:List AV}{i j:Nat}{x y:AV},az xs<=n->xs[i]?=some x->x.cells[j]?=some y->y.top<=n:=by
  intro xs i j x y h1 h2 h3;exact lH (eJ.1 h1 x (bH h2)) (bH h3)
 induction h with
 |bool b=>exact .bool b
 |int k n=>exact .int k n
 |str s=>exact .str s
 |nilp=>exact .nilp
 |ptr hp hle hh=>simp only[AV.top]at ht;exact .ptr (ha _ _ (by omega) hp) hle hh
 |pptr hm' hs hi hc ih=>
  simp only[AV.top]at ht;exact .pptr ⟨hm'.1,hm _ _ hm'.2.1,hm'.2.2⟩ hs hi (fun i x j y h1 h2=>ih i x j y h1 h2 (elems ht h1 h2))
 |nils=>exact .nils
 |slice hp hle hl hk hh=>simp only[AV.top]at ht;exact .slice (ha _ _ (by omega) hp) hle hl hk hh
 |sl0n _ ih=>exact .sl0n (ih (b8 _))
 |sl0s _ ih=>exact .sl0s (ih ht)
 |ps hl ht' hm' hs hc ih=>
  simp only[AV.top]at ht;exact .ps hl ht' (fun h=>⟨(hm' h).1,hm _ _ (hm' h).2.1,(hm' h).2.2⟩) hs (fun i x j y h1 h2=>ih i x j y h1 h2 (elems ht h1 h2))
 |lsn=>exact .lsn
 |lsp _ ht0 ih=>exact .lsp (ih (by grind[AV.top])) ht0
 |nilm=>exact .nilm
 |map hp hh=>simp only[AV.top]at ht;exact .map (ha _ _ (by omega) hp) hh
 |func h1 h2 _ _ ih1 ih2=>
  simp only[AV.top,ra]at ht;exact .func h1 h2 (fun j y hj=>ih1 j y hj (eJ.1 ht.1 y (bH hj))) (fun j y hj=>ih2 j y hj (eJ.1 ht.2 y (bH hj)))
 |nilf=>exact .nilf
 |iface _ ih=>simp only[AV.top]at ht;exact .iface (ih ht)
 |nili=>exact .nili
 |agg h1 h2 _ ih=>simp only[AV.top]at ht;exact .agg h1 h2 (fun j y hj=>ih j y hj (eJ.1 ht y (bH hj)))
 |tuple h1 _ ih=>simp only[AV.top]at ht;exact .tuple h1 (fun j y hj=>ih j y hj (eJ.1 ht y (bH hj)))
theorem qZ{n:Nat}:∀{es:List AEnt},aO es<=n↔∀e,e∈es->e.key.top<=n/\e.val.top<=n
 |[]=>by simp[aO]
 |e::r=>by simp[aO,ra,qZ (es:=r)]
theorem bm.agree{n:Nat}{p:Place}{o:AObj}{x:Option Obj}(h:bm pl M p o x)(ht:o.top<=n)(ha:∀id p,id<n->pl id=some p->pl' id=some p)(hm:qF M M'):bm pl' M' p o x:=by
 match o,x with
 | .dead,_=>trivial
 | .row sz op ep xs,some (.cells c t fr)=>
  obtain⟨h1,h2,h3,h4,h5,h6,h7,h8⟩:=h;simp only[AObj.top]at ht;exact⟨h1,h2,h3,h4,h5,h6,h7,⟨h8.fit,h8.elem,fun i x j y k1 k2=>(h8.cell i x j y k1 k2).agree (lH (eJ.1 ht x (bH k1)) (bH k2)) ha hm⟩⟩
 | .map es clock,some (.map entries clock')=>
  obtain⟨h1,h2,h3,h4⟩:=h;simp only[AObj.top]at ht;refine⟨h1,h2,h3,fun i e hi=>?_⟩;obtain⟨e',k1,k2,k3,k4⟩:=h4 i e hi;have:=qZ.1 ht e (bH hi);exact⟨e',k1,k2.agree this.1 ha hm,k3.agree this.2 ha hm,k4⟩
 | .siter s pos,some (.stringIter s' pos')=>exact h
 | .miter m clock seen,some (.mapIter m' since seen' stepped)=>simp only[AObj.top]at ht;exact⟨h.1,h.2.1,h.2.2.1.agree ht ha hm,h.2.2.2⟩
noncomputable def mw(pl:Pl)(M:dT)(w:World)(n:Nat):dT:=fun b=>
 match M b with
 |some c=>some c
 | none=>
  open Classical in
  if ∃id p,n<=id/\pl id=some p/\p.blk=b then
   match w.heap[b]? with
   |some (.cells c _ _)=>some c
   |_=>none
  else none
theorem f9(n:Nat):qF M (mw pl M w n):=fun b c hb=>by grind[mw]
theorem jk{n b:Nat}{c:Array Value}(hb:mw pl M w n b=some c):M b=some c\/((∃id p,n<=id/\pl id=some p/\p.blk=b)/\∃t fr,w.heap[b]?=some (.cells c t fr)):=by
 unfold mw at hb;cases hM:M b with
 |some c'=>simp_all
 |none=>
  rw[hM]at hb;simp only[]at hb;split at hb;all_goals grind
theorem pW(hr:cN pl M h w){n id:Nat}{p:Place}{c:Array Value}{t:TypeId}{fr:Nat×Nat}(hid:n<=id)(hp:pl id=some p)(hw:w.heap[p.blk]?=some (.cells c t fr)):mw pl M w n p.blk=some c:=by
 unfold mw;rw[hr.sep id p hp];simp only[];rw[if_pos ⟨id,p,hid,hp,rfl⟩,hw]
theorem cN.dropped(hr:cN pl M h w){n:Nat}(hn:n<=h.n)(hc:∀id o,id<n->h.get id=some o->o.top<=n):cN (dj pl n) (mw pl M w n) (h.cut n) w:=by
 have ag:∀id p,id<n->pl id=some p->dj pl n id=some p:=fun id p h1 h2=>aT.2 ⟨h1,h2⟩
 refine⟨fun id p hp=>(aT.1 hp).1,fun id p o hp hg=>?_,fun id p hp=>hr.blk id p (aT.1 hp).2,fun id id' p p' h1 h2 h3=>hr.inj id id' p p' (aT.1 h1).2 (aT.1 h2).2 h3,fun b c hb=>?_,fun id p hp=>?_⟩
 ·obtain⟨h1,h2⟩:=aT.1 hp;obtain⟨h3,h4⟩:=iH hn hg;exact(hr.obj id p o h2 h4).agree (hc id o h3 h4) ag (f9 n)
 ·rcases jk hb with hb|⟨_,h2⟩
  ·exact hr.imm b c hb
  omega
 ·obtain⟨h1,h2⟩:=aT.1 hp;cases hd:mw pl M w n p.blk with
  |none=>rfl
  |some c=>
   rcases jk hd with hb|⟨⟨id',p',k1,k2,k3⟩,_⟩
   ·rw[hr.sep id p h2]at hb;grind
   ·have:=hr.inj id id' p p' h2 k2 k3.symm;omega
theorem gL{n:Nat}:∀(k:Nat),fN h n k=true->∀id o,id<k->h.get id=some o->o.top<=n
 |0,_,id,o,hid,_=>by omega
 |k+1,hc,id,o,hid,hg=>by
  unfold fN at hc;have key:fN h n k=true/\∀o,h.get k=some o->o.top<=n:=by grind[ba]
  rcases gQ id k with hlt|hge
  ·exact gL k key.1 id o hlt hg
  grind
theorem gm{f:AV->Option AV}:∀{xs ys:List AV},tH f xs=some ys->xs.length=ys.length/\∀(i:Nat)(y:AV),ys[i]?=some y->∃x,xs[i]?=some x/\f x=some y
 |[],ys,e=>by grind[tH]
 | x::r,ys,e=>by
  simp only[tH]at e;cases hx:f x with
  |none=>simp_all
  | some y=>
   cases hr:tH f r with
   |none=>simp_all
   |some zs=>
    simp[hx,hr]at e;subst e;obtain⟨h1,h2⟩:=gm hr;grind
theorem vV{n:Nat}{z y:AV}(e:vY n z=some y):y=z/\z.top<=n:=by grind[vY,ba]
theorem o7{n k:Nat}{x y:AV}(e:frz h k n x=some y):(dW x=true->dW y=true)/\(∀cs,x=.agg cs->∃ds,y=.agg ds/\tH (frz h (k-1) n) cs=some ds)/\(fh x=true->fh y=true):=by
 cases k with
 |zero=>grind[frz]
 | succ k=>
  have own:∀z:AV,vY n z=some y->y=z:=fun z hz=>(vV hz).1
  cases x<;>simp only[frz]at e
  case slice id ep off len cap=>
   refine⟨fun _=>?_,fun cs h=>(by grind),fun _=>?_⟩<;>
   ·split at e
    ·simp at e;subst e;rfl
    ·split at e
     ·split at e
      ·split at e
       ·simp at e;subst e;rfl
       ·simp at e
      ·simp at e
     ·simp at e
  case agg cs=>
   split at e
   ·rename_i ds hd;simp at e;subst e;exact⟨fun h=>by grind[dW],fun cs' h=>by simp_all,fun _=>rfl⟩
   simp_all
  case tuple cs=>grind[dW,fh]
  case func fn a b=>
   split at e
   ·simp at e;subst e;exact⟨fun _=>rfl,fun cs h=>(by grind),fun _=>rfl⟩
   simp_all
  case iface t v=>
   split at e
   ·simp at e;subst e;exact⟨fun _=>rfl,fun cs h=>(by grind),fun _=>rfl⟩
   simp_all
  all_goals (have:=own _ e;subst this;exact⟨fun h=>h,fun cs h=>(by cases h),fun h=>h⟩)
theorem o8{n k:Nat}{x y:AV}(e:frz h k n x=some y)(hf:fh x=true)(hs:Sc x):y.cells.length=x.cells.length/\Sc y/\∀(j:Nat)(u:AV),y.cells[j]?=some u->∃z k',x.cells[j]?=some z/\frz h k' n z=some u:=by
 obtain⟨h1,h2,h3⟩:=o7 e;rcases A8 x hf with⟨cs,rfl⟩|⟨hsx,hcx⟩
 ·obtain⟨ds,rfl,hd⟩:=h2 cs rfl;obtain⟨g1,g2⟩:=gm hd;refine⟨g1.symm,fun u hu=>?_,fun j u hu=>?_⟩
  ·obtain⟨j,hj⟩:=Cr hu;obtain⟨z,k1,k2⟩:=g2 j u hj;exact(o7 k2).1 (hs z (bH k1))
  ·obtain⟨z,k1,k2⟩:=g2 j u hu;exact⟨z,_,k1,k2⟩
 ·have hsy:=h1 hsx;have hcy:y.cells=[y]:=by cases y<;>first|rfl|grind[dW]
  rw[hcx,hcy];refine⟨rfl,fun u hu=>?_,fun j u hu=>?_⟩;all_goals grind
theorem ee{n:Nat}:∀id p,id<n->pl id=some p->dj pl n id=some p:=fun id p h1 h2=>aT.2 ⟨h1,h2⟩
theorem mE (hr:cN pl M h w){n:Nat}{Md:dT}(hmd:qF M Md)
  (hd:∀id p sz op ep xs c t fr,n<=id->pl id=some p->h.get id=some (.row sz op ep xs)->w.heap[p.blk]?=some (.cells c t fr)->Md p.blk=some c):
  ∀(k:Nat)(v v':AV)(x:Value),VRel pl M v x->frz h k n v=some v'->VRel (dj pl n) Md v' x
 |0,v,v',x,_,e=>by grind[frz]
 | k+1,v,v',x,hv,e=>by
  have low:∀{z:AV},VRel pl M z x->vY n z=some v'->VRel (dj pl n) Md v' x:=by
   intro z hz hk;obtain⟨rfl,h2⟩:=vV hk;exact hz.agree h2 ee hmd
  cases v<;>simp only[frz]at e
  case slice id ep off len cap=>
   rw[dN]at e;by_cases hid:id<n
   ·simp[hid]at e;subst e;exact hv.agree (n:=n) (by grind[AV.top]) ee hmd
   ·simp only[hid,decide_false]at e;split at e
    ·rename_i sz op ep' xs hgo;rw[aB]at e;by_cases hep:ep=ep'
     ·simp only[hep,decide_true]at e;split at e
      ·rename_i ys hys;simp at e;subst e;cases hv with
       | slice hp hle hl hk ha=>
        rename_i cap' a p;have ho:=hr.obj id p _ hp hgo;cases hb:w.heap[p.blk]? with
        |none=>grind[bm]
        | some ob=>
         rw[hb]at ho;cases ob<;>simp only[bm]at ho
         rename_i c t fr;obtain⟨g1,g2,g3,g4,g5,g6,g7,g8⟩:=ho;obtain⟨q1,q2,q3,q4,q5⟩:=ha (by omega);obtain⟨m1,m2⟩:=gm hys;have hlen:ys.length=len:=by grind
         have src:∀(i:Nat)(y:AV),ys[i]?=some y->∃x,xs[off+i]?=some x/\i<len/\frz h k n x=some y:=by grind
         have cells:∀(i:Nat)(x y:AV),xs[off+i]?=some x->frz h k n x=some y->fh x=true:=by
          intro i x y h1 h2;have he:=(g8.elem x (bH h1)).2;cases x<;>first|rfl|skip
          exact absurd (he _ (by simp[AV.cells];rfl)) (by simp[dW])
         have hys0:ys≠[]->a=⟨p.blk,off*p.sz,none⟩:=by
          intro hne;rcases q1 with hc0|hc1
          all_goals simp_all
         have hfit:off*p.sz+ys.length*p.sz<=c.size:=by
          rw[<-g4]
          calc off*p.sz+ys.length*p.sz=(off+ys.length)*p.sz:=by grind
           _<=(off+cap')*p.sz:=fV _ (by omega)
           _<=p.tot:=q2
         rw[<-hlen];refine VRel.ps (sz:=p.sz) (c:=c) (by omega) (fun ht=>?_) (fun hne=>?_) (fun y hy=>?_) (fun i y j u hi hu=>?_)
         ·cases cap with
          |none=>grind[oO]
          |some cc=>simp[oO,aB]at ht;simp_all
         ·grind
         ·obtain⟨i,hi⟩:=Cr hy;obtain⟨x,k1,k2,k3⟩:=src i y hi;have he:=g8.elem x (bH k1);grind[o8]
         ·have hne:ys≠[]:=fun h0=>by simp_all
          rw[hys0 hne];obtain⟨x,k1,k2,k3⟩:=src i y hi;have he:=g8.elem x (bH k1);have hfl:=cells i x y k1 k3;rcases A8 x hfl with⟨cs,rfl⟩|⟨hsx,hcx⟩
          ·obtain⟨ds,rfl,hds⟩:=(o7 k3).2.1 cs rfl;obtain⟨z1,z2⟩:=gm hds;obtain⟨z,y1,y2⟩:=z2 j u hu;have hz:=g8.cell _ _ j z k1 y1;have:=mE hr hmd hd (k-1) z u _ hz y2;grind
          ·have hsy:=(o7 k3).1 hsx;have hcy:y.cells=[y]:=by cases y<;>first|rfl|grind[dW]
           rw[hcy]at hu
           match j,hu with
           |0,hu=>
            simp at hu;subst hu;have hz:=g8.cell _ _ 0 x k1 (by simp_all);have:=mE hr hmd hd k x y _ hz k3;grind
      simp_all
     simp_all
    simp_all
  case agg cs=>
   split at e
   ·rename_i ds hds;simp at e;subst e;cases hv with
    |agg h1 h2 h3=>
     obtain⟨m1,m2⟩:=gm hds;refine .agg (by omega) (fun y hy=>?_) (fun j y hj=>?_)
     ·obtain⟨i,hi⟩:=Cr hy;obtain⟨x,k1,k2⟩:=m2 i y hi;exact(o7 k2).1 (h2 x (bH k1))
     ·obtain⟨x,k1,k2⟩:=m2 j y hj;exact mE hr hmd hd k x y _ (h3 j x k1) k2
   simp_all
  case tuple cs=>
   split at e
   ·rename_i ds hds;simp at e;subst e;cases hv with
    |tuple h1 h3=>
     obtain⟨m1,m2⟩:=gm hds;refine .tuple (by omega) (fun j y hj=>?_);obtain⟨x,k1,k2⟩:=m2 j y hj;exact mE hr hmd hd k x y _ (h3 j x k1) k2
   simp_all
  case func fn a b=>
   split at e
   ·rename_i a' b' ha hb;simp at e;subst e;cases hv with
    |func h1 h2 h3 h4=>
     obtain⟨m1,m2⟩:=gm ha;obtain⟨n1,n2⟩:=gm hb;refine .func (by omega) (by omega) (fun j y hj=>?_) (fun j y hj=>?_)
     ·obtain⟨x,k1,k2⟩:=m2 j y hj;exact mE hr hmd hd k x y _ (h3 j x k1) k2
     ·obtain⟨x,k1,k2⟩:=n2 j y hj;exact mE hr hmd hd k x y _ (h4 j x k1) k2
   simp_all
  case iface t u=>
   split at e
   ·rename_i u' hu;simp at e;subst e;cases hv with
    |iface h1=>exact .iface (mE hr hmd hd k u u' _ h1 hu)
   simp_all
  all_goals exact low hv e
end
section
variable{P:Program}{G:fy}{pl pl':Pl}{M M':dT}{h h':AHeap}{w w':World}{v:AV}
theorem dQ.cut(hr0:cN pl M h w)(hs:dQ h pl M w h' pl' M' w'){Md:dT}(hmd:qF M' Md)(hmn:∀b c,Md b=some c->M' b=some c\/∃id p,h.n<=id/\pl' id=some p/\p.blk=b)(hn:h.n<=h'.n):dQ h pl M w (h'.cut h.n) (dj pl' h.n) Md w':=by
 refine⟨fun id p hp=>?_,fun id hid hp=>?_,fun b c hb=>hmd b c (hs.mem b c hb),hs.size,hs.kept,fun id p' hp'=>?_,fun id p hp hg=>?_,fun id p hp hg=>?_,fun b c hb=>?_,hs.os,hs.tape,hs.out,hs.drawn⟩
 ·obtain⟨p',h1,h2⟩:=hs.ext id p hp;exact⟨p',aT.2 ⟨hr0.dom id p hp,h1⟩,h2⟩
 ·have:=hs.new id hid hp;cases hc:dj pl' h.n id with
  |none=>rfl
  |some q=>rw[(aT.1 hc).2]at this;omega
 ·exact hs.blks id p' (aT.1 hp').2
 ·have:=hs.live id p hp hg;cases hc:(h'.cut h.n).get id with
  |none=>rfl
  |some o=>rw[(iH hn hc).2]at this;omega
 ·exact aT.2 ⟨hr0.dom id p hp,hs.stay id p hp hg⟩
 ·rcases hmn b c hb with k|⟨id,p,k1,k2,k3⟩
  ·exact hs.memNew b c k
  ·rcases hs.blks id p k2 with⟨p0,k4,_⟩|k4
   ·have:=hr0.dom id p0 k4;omega
   omega
theorem cN.killed(hr:cN pl M h w){id:Nat}{o:AObj}(hg:h.get id=some o):cN pl M (h.put id .dead) w:=by
 have hid:id<1000000:=(AHeap.get_some.1 hg).2.1;refine⟨hr.dom,fun k p o' hp hk=>?_,hr.blk,hr.inj,hr.imm,hr.sep⟩;rcases AHeap.get_put hid hk with⟨_,rfl⟩|⟨_,h2⟩
 ·exact trivial
 ·exact hr.obj k p o' hp h2
theorem vW (pol:Nat){v2:AV}{h2:AHeap}{x:Value}(hr0:cN pl M h w)(hr:cN pl' M' h' w')(hv:VRel pl' M' v x)(hs:dQ h pl M w h' pl' M' w')(hn:h.n<=h'.n)(e:gk pol h.n v h'=(v2,h2)):
  ∃pl2 M2,VRel pl2 M2 v2 x/\cN pl2 M2 h2 w'/\dQ h pl M w h2 pl2 M2 w'/\h.n<=h2.n:=by
 have same:(v,h')=(v2,h2)->∃pl2 M2,VRel pl2 M2 v2 x/\cN pl2 M2 h2 w'/\dQ h pl M w h2 pl2 M2 w'/\h.n<=h2.n:=by grind
 have kept:fN h' h.n h.n=true->ES v h' h.n (frz h' kz h.n v)=(v2,h2)->∃pl2 M2,VRel pl2 M2 v2 x/\cN pl2 M2 h2 w'/\dQ h pl M w h2 pl2 M2 w'/\h.n<=h2.n:=by
  intro hc e;unfold ES at e;split at e
  ·rename_i v' hf;simp at e;obtain⟨rfl,rfl⟩:=e;refine⟨dj pl' h.n,mw pl' M' w' h.n,mE hr (f9 _) (fun id p sz op ep xs c t fr k1 k2 k3 k4=>pW hr k1 k2 k4) _ _ _ _ hv hf,hr.dropped hn (fun id o k1 k2=>gL h.n hc id o k1 k2),hs.cut hr0 (f9 _) (fun b c hb=>(jk hb).imp id (fun k=>k.1)) hn,af _⟩
  simp_all
 unfold gk at e;split at e
 ·simp_all
 ·split at e
  ·grind
  ·split at e
   ·rename_i hc;unfold Hv at e;split at e
    ·rename_i id ep len cap;split at e
     ·rename_i sz op ep' xs hgo;split at e
      ·rename_i hck;simp only[ba,aB,bZ,decide_eq_true_eq]at hck;obtain⟨⟨c1,c2⟩,c3⟩:=hck;unfold MD at e;split at e
       ·rename_i ys hys;simp at e;obtain⟨rfl,rfl⟩:=e;cases hv with
        | slice hp hle hl hk ha=>
         rename_i cap' a p;have ho:=hr.obj id p _ hp hgo;cases hb:w'.heap[p.blk]? with
         |none=>grind[bm]
         | some ob=>
          rw[hb]at ho;cases ob<;>simp only[bm]at ho
          rename_i c t fr;obtain⟨g1,g2,g3,g4,g5,g6,g7,g8⟩:=ho;have hq:=ha (by omega);obtain⟨m1,m2⟩:=gm hys;have hpm:=hr.sep id p hp;let Md:dT:=fun b=>if b=p.blk then none else mw pl' M' w' h.n b
          have hmd:qF M' Md:=by
           intro b c' hb';have:b≠p.blk:=fun e=>by grind
           simp[Md,this,f9 h.n b c' hb']
          have hid:id<1000000:=(AHeap.get_some.1 hgo).2.1;have hk0:=hr.killed hgo;have hd:∀id' p' sz' op' ep' xs' c' t' fr',h.n<=id'->pl' id'=some p'->(h'.put id .dead).get id'=some (.row sz' op' ep' xs')->w'.heap[p'.blk]?=some (.cells c' t' fr')->Md p'.blk=some c':=by
           intro id' p' sz' op' ep' xs' c' t' fr' k1 k2 k3 k4;rcases AHeap.get_put hid k3 with⟨_,k5⟩|⟨k5,_⟩
           ·grind
           ·have:p'.blk≠p.blk:=fun e=>k5 (hr.inj id' id p' p k2 hp e)
            grind[pW]
          let p2:Place:=⟨p.blk,0,p.sz,p.n,p.tot⟩
          have hext:n8 (dj pl' h.n) (upd (dj pl' h.n) h.n p2):=fun id q hq=>⟨q,by rw[dJ (by have:=(aT.1 hq).1;omega)];omega,af _,fun _=>rfl⟩
          have hcase:∀k q,upd (dj pl' h.n) h.n p2 k=some q->(k=h.n/\q=p2)\/(k<h.n/\pl' k=some q):=by
           intro k q hq;by_cases e:k=h.n
           ·subst e;rw[eh]at hq;grind
           ·rw[dJ e]at hq;exact .inr (aT.1 hq)
          have hmem:InMem (upd (dj pl' h.n) h.n p2) Md c 0 sz ys:=by
           refine⟨by grind[cases InMem],fun y hy=>?_,fun i y j u hi hu=>?_⟩
           ·obtain⟨i,hi⟩:=Cr hy;obtain⟨x,k1,k2⟩:=m2 i y hi;have he:=g8.elem x (bH k1);have hfl:fh x=true:=by
             cases x<;>first|rfl|skip
             exact absurd (he.2 _ (by simp[AV.cells];rfl)) (by simp[dW])
            grind[o8]
           ·obtain⟨x,k1,k2⟩:=m2 i y hi;have he:=g8.elem x (bH k1);have hfl:fh x=true:=by
             cases x<;>first|rfl|skip
             exact absurd (he.2 _ (by simp[AV.cells];rfl)) (by simp[dW])
            obtain⟨_,_,f3⟩:=o8 k2 hfl he.2;obtain⟨z,k',q1,q2⟩:=f3 j u hu;exact(mE hk0 hmd hd k' z u _ (g8.cell i x j z k1 q1) q2).mono hext (fun _ _ h=>h)
          refine⟨upd (dj pl' h.n) h.n p2,Md,?_,⟨?_,?_,?_,?_,?_,?_⟩,?_,by simp[AHeap.push,AHeap.cut]⟩
          ·refine .slice (eh _ _ _) (b8 _) hl hk (fun _=>?_);grind
          ·intro k q hq;show k<h.n+1
           grind
          ·intro k q o hq hg;rcases hcase k q hq with⟨e,e2⟩|⟨e,e2⟩
           ·subst e;subst e2;rcases dg hg with⟨_,k⟩|⟨k,_⟩
            ·subst k;show bm _ _ _ _ w'.heap[p.blk]?
             rw[hb];exact⟨rfl,g2,by grind,g4,g5,g6,fun ho=>by grind,hmem⟩
            ·exact absurd k (xZ _)
           ·rcases dg hg with⟨k,_⟩|⟨_,k⟩
            ·exact absurd k (by show ¬_=h.n;omega)
            ·obtain⟨h3,h4⟩:=iH hn k;exact((hr.obj _ q o e2 h4).agree (gL h.n hc _ o h3 h4) ee hmd).mono hext (fun _ _ h=>h)
          ·intro k q hq;rcases hcase k q hq with⟨_,e2⟩|⟨_,e2⟩
           ·grind
           ·exact hr.blk k q e2
          ·intro k k' q q' hq hq' e;rcases hcase k q hq with⟨a,b⟩|⟨a,b⟩<;>rcases hcase k' q' hq' with⟨a',b'⟩|⟨a',b'⟩
           ·omega
           ·subst b;have:=hr.inj id k' p q' hp b' e;omega
           ·subst b';have:=hr.inj k id q p b hp e;omega
           ·exact hr.inj k k' q q' b b' e
          ·intro b c' hb';by_cases e:b=p.blk
           ·grind
           ·simp only[Md,e,if_false]at hb';rcases jk hb' with hb'|⟨_,k⟩
            ·exact hr.imm b c' hb'
            omega
          ·intro k q hq;rcases hcase k q hq with⟨_,e2⟩|⟨e1,e2⟩
           ·grind
           ·by_cases e:q.blk=p.blk
            ·grind
            ·simp only[Md,e,if_false];cases hd2:mw pl' M' w' h.n q.blk with
             |none=>rfl
             |some c'=>
              rcases jk hd2 with k1|⟨⟨id2,p3,k1,k2,k3⟩,_⟩
              ·rw[hr.sep k q e2]at k1;grind
              ·have:=hr.inj k id2 q p3 e2 k2 k3.symm;omega
          ·have hs1:=hs.cut hr0 hmd (fun b c' hb'=>by
            by_cases e:b=p.blk
            ·grind
            ·grind[jk]) hn
           refine⟨hs1.ext.trans hext,fun k hk hp'=>?_,hs1.mem,hs1.size,hs1.kept,fun k q hq=>?_,fun k q hq hg=>?_,fun k q hq hg=>?_,hs1.memNew,hs1.os,hs1.tape,hs1.out,hs1.drawn⟩
           ·rw[dJ (by omega)];exact hs1.new k hk hp'
           ·rcases hcase k q hq with⟨e1,e2⟩|⟨e1,e2⟩
            ·subst e2;rcases hs.blks id p hp with⟨p0,k1,_⟩|k1
             ·have:=hr0.dom id p0 k1;omega
             grind
            ·exact hs.blks k q e2
           ·cases hg2:((h'.cut h.n).push (.row sz op 0 ys)).get k with
            |none=>rfl
            |some o=>
             rcases dg hg2 with⟨k1,_⟩|⟨_,k1⟩
             ·have:=hr0.dom k q hq;rw[k1]at this;exact absurd this (xZ _)
             ·have:=hs1.live k q hq hg;grind
           ·rw[dJ (by have:=hr0.dom k q hq;omega)];exact hs1.stay k q hq hg
       simp_all
      simp_all
     simp_all
    simp_all
   simp_all
  simp_all
end
def iD(pl:Pl)(M:dT)(h:AHeap)(w:World)(v:AV)(h':AHeap)(cv:Value)(w':World):Prop:=∃pl' M',VRel pl' M' v cv/\cN pl' M' h' w'/\dQ h pl M w h' pl' M' w'/\h.n<=h'.n
def FO(P:Program)(pl:Pl)(M:dT)(h:AHeap)(w:World)(f:FuncId)(vs:Array Value)(v:AV)(h':AHeap):Prop:=
 ((callFunc f vs).run P w=.ok (.enter f vs) w/\Calls P f vs w fun e w'=>∃cv,e=.returned cv/\iD pl M h w v h' cv w')\/
 (∃cv w',(callFunc f vs).run P w=.ok (.value cv) w'/\iD pl M h w v h' cv w')
def cL(P:Program)(G:fy)(call:cA):Prop:=
 ∀(f:FuncId)(args:List AV)(h:AHeap)(v:AV)(h':AHeap),call f args h=some (v,h')->
  ∀(pl:Pl)(M:dT)(w:World)(vs:Array Value),qr G pl M->cN pl M h w->VRels pl M args vs->FO P pl M h w f vs v h'
structure SNow(G:fy)(N:Nat)(h0:AHeap)(pl0:Pl)(M0:dT)(w0:World)(s:St)(a:Act)(w:World):Prop where
 ex:∃pl M,qr G pl M/\cN pl M s.heap w/\FrRel pl M s.tmps a/\dQ h0 pl0 M0 w0 s.heap pl M w/\h0.n<=s.heap.n
 n:s.tmps.n=N
 small:N<=60000
section
variable{P:Program}{G:fy}{N:Nat}{h0:AHeap}{pl0:Pl}{M0:dT}{w0:World}{pl:Pl}{M:dT}{h h':AHeap}{w w':World}{v:AV}{A A':Fr}{a a':Act}{s s':St}{call:cA}
theorem oW{dst:Option Tmp}{x:Value}(hf:FrRel pl M A a)(hv:VRel pl M v x)(hn:A.n<=60000)(e:je A dst v=some A'):FrRel pl M A' (a.put dst x)/\A'.n=A.n:=by
 cases dst with
 |none=>simp[je]at e;subst e;exact⟨hf,rfl⟩
 | some d=>
  simp only[je]at e;have hn':A'.n=A.n:=by
   unfold Fr.put at e;grind
  refine⟨⟨by simp[Act.put,hn',hf.size],by simpa[Act.put]using hf.defers,fun t u ht=>?_⟩,hn'⟩;obtain⟨_,h2,h3⟩:=Fr.get_put hn e ht;rcases h3 with⟨rfl,rfl⟩|⟨h4,h5⟩
  ·refine⟨by omega,?_⟩;have:(a.put (some t) x).tmps.getD t undef=x:=by simp[Act.put,iJ,hf.size,h2]
   simp_all
  ·obtain⟨k1,k2⟩:=hf.at_ t u h5;refine⟨by omega,?_⟩;have:(a.put (some d) x).tmps.getD t undef=a.tmps.getD t undef:=by simp[Act.put,iJ,Array.getElem?_setIfInBounds,Ne.symm h4]
   simp_all
theorem CG:VRel pl M gF undef:=.tuple rfl fun j y h=>by simp_all
theorem f8{ops:Array Oper}{o:Oper}{b:Bool}(hf:FrRel pl M A a)(e:fK A (e9 ops o)=some b):Region.wanted o (yielded ops a.tmps)=b:=by
 unfold e9 at e;unfold Region.wanted;cases hg:o.guard with
 |none=>grind[fK]
 | some jw=>
  obtain⟨j,want⟩:=jw;rw[hg]at e;simp only[]at e;unfold yielded;cases hd:(ops[j]?).bind (·.dst)with
  |none=>grind[fK]
  | some d=>
   rw[hd]at e;simp only[fK]at e;cases hA:A.get d with
   |none=>simp_all
   |some u=>
    rw[hA]at e;obtain⟨k1,k2⟩:=hf.at_ d u hA;have hget:a.tmps[d]?=some (a.tmps.getD d undef):=M5 (by rw[hf.size];omega);simp only[hd,Option.bind_some,hget];generalize a.tmps.getD d undef=x at k2;cases k2<;>first|(simp at e;done)|skip
    case bool b'=>cases b'<;>cases want<;>simp at e<;>subst e<;>rfl
    grind
theorem LS(hc:cL P G call){ops:Array Oper}{o:Oper}{k:St->Option St}{K:Act->World->Prop}{Q:Exit->Act->World->Prop}
  (hs:SNow G N h0 pl0 M0 w0 s a w)(e:zo call (b0 P G ops o) s k=some s')
  (hK:∀s1 a1 w1,SNow G N h0 pl0 M0 w0 s1 a1 w1->k s1=some s'->K a1 w1):
  if Region.wanted o (yielded ops a.tmps)then o.wp P a w K Q\/(o.asks P a w/\LetsOut Q)else K (a.put o.dst undef) w:=by
 have finS:∀r:Option (AV×AHeap),fin s.tmps o.dst k r=some s'->∃v h' A',r=some (v,h')/\je s.tmps o.dst v=some A'/\k ⟨A',h'⟩=some s':=by
  intro r e;unfold fin at e;grind
 obtain⟨pl,M,g1,g2,g3,g4,g5⟩:=hs.ex;unfold zo b0 at e;simp only[]at e;split at e
 ·rename_i hg;rw[f8 g3 hg];simp only[if_true];left;obtain⟨v,h',A',e1,e2,e3⟩:=finS _ e;cases hr:(fC P G o.op).run s.tmps s.heap with
  |none=>grind[behind]
  | some r=>
   rw[hr]at e1;cases r with
   | val v1 h1=>
    simp[behind]at e1;obtain⟨rfl,rfl⟩:=e1;obtain⟨dst,op,ty,pos,after,guard⟩:=o;obtain⟨pl',M',cv,w',nx,q1,q2,q3,q4,q5,q6⟩:=Aj (P:=P) (G:=G) op pl M s.tmps s.heap v1 h1 a w dst ty pos after guard g1 g2 g3 hr;have key:SNow G N h0 pl0 M0 w0 ⟨A',h1⟩ (a.put dst cv) w':=by
     obtain⟨p1,p2⟩:=oW (g3.mono q5.ext q5.mem) q3 (by rw[hs.n];exact hs.small) e2;exact⟨⟨pl',M',g1.mono q5.ext q5.mem,q4,p1,g4.trans q5 g5,bu g5 q6⟩,by rw[<-hs.n];omega,hs.small⟩
    unfold Oper.wp;rw[q1];rcases q2 with rfl|⟨rfl,rfl⟩
    ·exact hK _ _ _ key e3
    ·exact hK _ _ _ key e3
   | call f args=>
    simp only[behind]at e1;obtain⟨vs,q1,q2⟩:=u9 (P:=P) (w:=w) g1 g3 hr;have key:∀cv w',iD pl M s.heap w v h' cv w'->SNow G N h0 pl0 M0 w0 ⟨A',h'⟩ (a.put o.dst cv) w':=by
     intro cv w' ⟨pl',M',k1,k2,k3,k4⟩;obtain⟨p1,p2⟩:=oW (g3.mono k3.ext k3.mem) k1 (by rw[hs.n];exact hs.small) e2;exact⟨⟨pl',M',g1.mono k3.ext k3.mem,k2,p1,g4.trans k3 g5,bu g5 k4⟩,by rw[<-hs.n];omega,hs.small⟩
    unfold Oper.wp;rw[q2];rcases hc f args s.heap v h' e1 pl M w vs g1 g2 q1 with⟨k1,k2⟩|⟨cv,w',k1,k2⟩
    ·rw[k1];refine Calls.mono k2 fun en w'' hh=>?_
     grind
    ·rw[k1];exact hK _ _ _ (key cv w' k2) e3
 ·rename_i hg;rw[f8 g3 hg];simp only[gP,if_false];obtain⟨v,h',A',e1,e2,e3⟩:=finS _ e;simp at e1;obtain⟨rfl,rfl⟩:=e1;obtain⟨p1,p2⟩:=oW g3 CG (by rw[hs.n];exact hs.small) e2;have hn2:A'.n=N:=by rw[p2];exact hs.n
  exact hK ⟨A',s.heap⟩ _ _ (⟨⟨pl,M,g1,g2,p1,g4,g5⟩,hn2,hs.small⟩:SNow G N h0 pl0 M0 w0 ⟨A',s.heap⟩ _ _) e3
 simp_all
theorem QF(hc:cL P G call){ops:Array Oper}{Q:Exit->Act->World->Prop}(hQ:∀a1 w1,SNow G N h0 pl0 M0 w0 s' a1 w1->Q .normal a1 w1):
  ∀(l:List Oper)(i:Nat)(s:St)(a:Act)(w:World),(∀j,ops[i+j]?=l[j]?)->(zM P G ops l).run call s=some s'->SNow G N h0 pl0 M0 w0 s a w->wpOps P ops Q (List.range' i l.length) a w
 |[],i,s,a,w,hl,e,hs=>by
  simp[zM]at e;subst e;exact hQ a w hs
 |o::r,i,s,a,w,hl,e,hs=>by
  simp only[zM]at e;have ho:ops[i]?=some o:=by simpa using hl 0
  simp only[cO,Cp,wpOps,ho];refine LS (K:=wpOps P ops Q (List.range' (i+1) r.length)) hc hs e fun s1 a1 w1 h1 h2=>?_
  exact QF hc hQ r (i+1) s1 a1 w1 (fun j=>by have:=hl (j+1);grind) h2 h1
def wZ:AExit->Exit
 | .normal=>.normal
 | .exit id=>.exit id
 | .ret=>.ret
def FN(P:Program)(G:fy)(call:cA):Prop:=
 ∀(N:Nat)(h0:AHeap)(pl0:Pl)(M0:dT)(w0:World)(ops:Array Oper)(id:Nat)(s s':St)(a:Act)(w:World)(Q:Exit->Act->World->Prop),
  (FV P G ops).run call s=some s'->SNow G N h0 pl0 M0 w0 s a w->(∀a1 w1,SNow G N h0 pl0 M0 w0 s' a1 w1->Q .normal a1 w1)->(Code.region id ops true).wp P Q a w
theorem DJ{o:Option St}{e:AExit}(h:Q8 o=some (e,s')):o=some s'/\e=.normal:=by
 cases o with
 |none=>simp_all[Q8]
 |some s=>simp_all[Q8]
theorem WZ(hc:cL P G call)(hd:FN P G call)(n:Nat):∀(c:Code)(s:St)(e:AExit)(s':St)(a:Act)(w:World)(Q:Exit->Act->World->Prop),
  (eP P G n c).run call s=some (e,s')->SNow G N h0 pl0 M0 w0 s a w->(∀a1 w1,SNow G N h0 pl0 M0 w0 s' a1 w1->Q (wZ e) a1 w1)->c.wp P Q a w:=by
 intro c;induction c with
 |skip=>
  intro s e s' a w Q he hs hQ;simp[eP]at he;obtain⟨rfl,rfl⟩:=he;exact wp_skip (hQ a w hs)
 |label l=>
  intro s e s' a w Q he hs hQ;simp[eP]at he;obtain⟨rfl,rfl⟩:=he;exact wp_label (hQ a w hs)
 | region id ops draw=>
  intro s e s' a w Q he hs hQ;cases draw with
  |false=>
   simp only[eP]at he;obtain⟨h1,rfl⟩:=DJ he;refine wp_region ?_;rw[List.range_eq_range'];have hlen:ops.size=ops.toList.length:=by simp
   rw[hlen];exact QF hc hQ ops.toList 0 s a w (fun j=>by simp) h1 hs
  |true=>
   simp only[eP]at he;obtain⟨h1,rfl⟩:=DJ he;exact hd N h0 pl0 M0 w0 ops id s s' a w Q h1 hs hQ
 | seq x y ihx ihy=>
  intro s e s' a w Q he hs hQ;simp only[eP]at he;cases hx:(eP P G n x).run call s with
  |none=>grind[Lg]
  |some r=>
   obtain⟨e1,s1⟩:=r;rw[hx]at he;refine wp_seq (ihx s e1 s1 a w _ hx hs fun a1 w1 h1=>?_);cases e1 with
   |normal=>exact ihy s1 e s' a1 w1 Q he h1 hQ
   |exit id=>simp[Lg]at he;obtain⟨rfl,rfl⟩:=he;exact hQ a1 w1 h1
   |ret=>simp[Lg]at he;obtain⟨rfl,rfl⟩:=he;exact hQ a1 w1 h1
 | cond c x y ihx ihy=>
  intro s e s' a w Q he hs hQ;simp only[eP]at he;obtain⟨pl,M,g1,g2,g3,g4,g5⟩:=hs.ex;cases hcv:(cE G c).run s.tmps with
  |none=>grind[SO]
  |some cv=>
   have hv:=bq g1 g3 hcv;rw[hcv]at he;cases cv<;>simp[SO]at he
   grind[wp_cond_false,wp_cond_true,cases VRel]
 | block id b ih=>
  intro s e s' a w Q he hs hQ;simp only[eP]at he;cases hx:(eP P G n b).run call s with
  |none=>grind[inBlock]
  | some r=>
   obtain⟨e1,s1⟩:=r;rw[hx]at he;refine wp_block (ih s e1 s1 a w _ hx hs fun a1 w1 h1=>?_);cases e1 with
   |normal=>simp[inBlock]at he;obtain⟨rfl,rfl⟩:=he;exact hQ a1 w1 h1
   |ret=>simp[inBlock]at he;obtain⟨rfl,rfl⟩:=he;exact hQ a1 w1 h1
   |exit id'=>
    simp only[inBlock,aB]at he;by_cases hid:id'=id
    ·simp[hid]at he;obtain⟨rfl,rfl⟩:=he;simp_all[wZ,Exit.inBlock]
    ·simp[hid]at he;obtain⟨rfl,rfl⟩:=he;simp_all[wZ,Exit.inBlock]
 | loop b ih=>
  intro s e s' a w Q he hs hQ;simp only[eP]at he;have key:∀(m:Nat)(s:St)(a:Act)(w:World),rounds ((eP P G n b).run call) m s=some (e,s')->SNow G N h0 pl0 M0 w0 s a w->Code.rounds P b Q m a w:=by
   intro m;induction m with
   |zero=>simp_all[rounds]
   | succ m ihm=>
    intro s a w h hs;have h:oR (rounds ((eP P G n b).run call) m) ((eP P G n b).run call s)=some (e,s'):=h;rw[rounds_succ];cases hx:(eP P G n b).run call s with
    |none=>grind[oR]
    |some r=>
     obtain⟨e1,s1⟩:=r;rw[hx]at h;refine ih s e1 s1 a w _ hx hs fun a1 w1 h1=>?_
     cases e1 with
     |normal=>exact ihm s1 a1 w1 h h1
     |exit id=>simp[oR]at h;obtain⟨rfl,rfl⟩:=h;exact hQ a1 w1 h1
     |ret=>simp[oR]at h;obtain⟨rfl,rfl⟩:=h;exact hQ a1 w1 h1
  grind[wp_loop_rounds]
 |exit id=>
  intro s e s' a w Q he hs hQ;simp[eP]at he;obtain⟨rfl,rfl⟩:=he;exact wp_exit (hQ a w hs)
 |scope b ih=>
  intro s e s' a w Q he hs hQ;simp only[eP]at he;refine wp_scope_straight (ih s e s' a w _ he hs fun a1 w1 h1=>?_);cases e<;>exact hQ a1 w1 h1
 |ret=>
  intro s e s' a w Q he hs hQ;simp[eP]at he;obtain⟨rfl,rfl⟩:=he;exact wp_ret (hQ a w hs)
 |_=>intro s e s' a w Q he hs hQ;simp[eP]at he
end
section
variable{P:Program}{G:fy}{pl:Pl}{M:dT}{h h':AHeap}{w w':World}{v:AV}{A:Fr}{a:Act}
def Ue(tmps:Array Value):ResultVar->Sem Value
 | .tmp t=>pure (tmps.getD t undef)
 | .cell ad t=>do loadVar t (<-asAddr (tmps.getD ad undef))
theorem Jr(fn:Func)(tmps:Array Value):results fn tmps=(do let vs <-fn.results.mapM (Ue tmps);pure (if h:vs.size=1 then vs[0]else .tuple vs)):=rfl
theorem Uc(hr:cN pl M h w)(hf:FrRel pl M A a){x:ResultVar}(e:(Ud P x).run A h=some v):
  ∃cv,(Ue a.tmps x).run P w=.ok cv w/\VRel pl M v cv:=by
 cases x with
 |tmp t=>exact⟨_,rfl,(hf.at_ t v e).2⟩
 | cell ad t=>
  simp only[Ud]at e;split at e
  ·rename_i ag n h1 h2;simp only[]at e;cases hx:A.get ad with
   |none=>grind[AA]
   |some xv=>grind[Hw,Ue,asAddr,cases FrRel]
  simp_all
theorem xe(hr:cN pl M h w)(hf:FrRel pl M A a):∀(l:List ResultVar)(vs:List AV),fD P l A h=some vs->
  ∃cs:List Value,(l.mapM (Ue a.tmps)).run P w=.ok cs w/\VRels pl M vs cs.toArray
 |[],vs,e=>by
  simp[fD]at e;subst e;exact⟨[],rfl,⟨rfl,fun j y h=>by simp_all⟩⟩
 | x::r,vs,e=>by
  simp only[fD]at e;cases hx:(Ud P x).run A h with
  |none=>simp_all
  | some v=>
   cases hrr:fD P r A h with
   |none=>simp_all
   | some vr=>
    simp[hx,hrr]at e;subst e;obtain⟨cv,k1,k2⟩:=Uc hr hf hx;obtain⟨cs,q1,q2⟩:=xe hr hf r vr hrr;refine⟨cv::cs,?_,⟨by simp[q2.len],fun j y hj=>?_⟩⟩
    ·simp_all
    ·match j,hj with
     |0,hj=>simp_all
     |j+1,hj=>
      have:=q2.at_ j y (by simp_all);simp_all
theorem td(hr:cN pl M h w)(hf:FrRel pl M A a){fn:Func}(e:fp (fD P fn.results.toList A h)=some v):
  ∃cv,(results fn a.tmps).run P w=.ok cv w/\VRel pl M v cv:=by
 cases hl:fD P fn.results.toList A h with
 |none=>grind[fp]
 | some vs=>
  rw[hl]at e;obtain⟨cs,q1,q2⟩:=xe hr hf _ _ hl;have hrun:(results fn a.tmps).run P w=.ok (if h:cs.toArray.size=1 then cs.toArray[0]else .tuple cs.toArray) w:=by
   rw[Jr,Sem.run_bind,Array.mapM_eq_mapM_toList,Sem.run_map,q1];rfl
  refine⟨_,hrun,?_⟩;have hlen:=q2.len;unfold fp at e;split at e
  ·rename_i v1 q;simp at q e;subst q;subst e;have hone:cs.toArray.size=1:=by simp_all
   rw[dif_pos hone];have:=q2.at_ 0 _ rfl;simp_all
  ·rename_i vs' hne q;simp at q e;subst q;subst e;have hne1:¬cs.toArray.size=1:=by
    rw[<-hlen];intro h1
    match vs,h1,hne with
    |[x],_,hne=>simp_all
   rw[dif_neg hne1];exact .tuple q2.len q2.at_
  simp_all
theorem BF{n:Nat}:∀(l:List AV)(i:Nat)(t:Tr AV)(j:Nat)(u:AV),i+l.length<=60000->(ig n l i t).get j=some u->(i<=j/\l[j-i]?=some u)\/t.get j=some u
 |[],i,t,j,u,_,h=>.inr h
 | x::r,i,t,j,u,hl,h=>by
  simp only[ig]at h;simp only[cO]at hl;rcases BF r (i+1) _ j u (by omega) h with⟨h1,h2⟩|h1
  ·grind
  ·rcases jy 16 t i x j u (by omega) h1 with⟨rfl,rfl⟩|⟨_,h2⟩
   all_goals simp_all
theorem zp{args:List AV}{vs:Array Value}{n:Nat}(hv:VRels pl M args vs)(hn:args.length<=n)(hs:n<=60000):
  FrRel pl M ⟨n,ig n args 0 .nil⟩ {tmps:=vs++Array.replicate (n-vs.size) undef,defers:=[]}:=by
 have hl:=hv.len;refine⟨by simp_all,rfl,fun t u ht=>?_⟩;rcases BF args 0 .nil t u (by omega) ht with⟨_,h2⟩|h2
 ·have h2:args[t]?=some u:=by omega
  have hlt:t<args.length:=(gZ.1 h2).1;refine⟨by grind,?_⟩;have:=hv.at_ t u h2;have e:(vs++Array.replicate (n-vs.size) undef).getD t undef=vs.getD t undef:=by simp_all[Array.getElem?_append_left]
  simp_all
 grind[gq]
def Wg(P:Program):Prop:=∀(f:FuncId)(fn:Func),P.funcs[f]?=some fn->(fn.name== "runtime.NumGoroutine")=false
def LK(C:Cfg):Prop:=
 ∀(f:FuncId)(args:List AV)(h:AHeap)(v:AV)(h':AHeap),C.hook f args h=some (v,h')->
  ∀(pl:Pl)(M:dT)(w:World)(vs:Array Value),qr C.G pl M->cN pl M h w->VRels pl M args vs->FO C.P pl M h w f vs v h'
theorem OR{C:Cfg}{call:cA}(hN:Wg C.P)(hc:cL C.P C.G call)(hd:FN C.P C.G call){f:FuncId}{args:List AV}(e:Ba C call f args h (SQ C f)=some (v,h'))
  {vs:Array Value}(hg:qr C.G pl M)(hr:cN pl M h w)(hv:VRels pl M args vs):FO C.P pl M h w f vs v h':=by
 unfold SQ at e;cases hf:C.P.funcs[f]? with
 |none=>grind[Ba]
 | some fn=>
  cases hb:fn.body with
  |none=>grind[Ba]
  | some c=>
   simp only[hf,hb,Ba]at e;split at e
   ·rename_i hck;simp only[ba,bZ,decide_eq_true_eq]at hck;left;refine⟨?_,?_⟩
    ·have hne:=hN f fn hf;simp_all[callFunc]
    ·refine calls_of_wp hf hb ?_;cases hx:(eP C.P C.G C.rounds c).run call ⟨⟨fn.ntmps,ig fn.ntmps args 0 .nil⟩,h⟩with
     |none=>grind[Yi]
     | some r=>
      obtain⟨ex,s1⟩:=r;rw[hx]at e;have hs0:SNow C.G fn.ntmps h pl M w ⟨⟨fn.ntmps,ig fn.ntmps args 0 .nil⟩,h⟩ {tmps:=vs++Array.replicate (fn.ntmps-vs.size) undef,defers:=[]} w:=⟨⟨pl,M,hg,hr,zp hv hck.1 hck.2,dQ.refl _ _ _ _,af _⟩,rfl,hck.2⟩
      refine WZ hc hd C.rounds c _ ex s1 _ w _ hx hs0 fun a1 w1 h1=>?_
      have fin:∀r,EO (C.pol f) h.n s1.heap (fp (fD C.P fn.results.toList s1.tmps s1.heap))=some r->r=(v,h')->
        a1.defers=[]/\∃u,(results fn a1.tmps).run C.P w1=.ok u w1/\∃cv,Ending.returned u=.returned cv/\iD pl M h w v h' cv w1:=by
       intro r er hrr;obtain⟨pl1,M1,g1,g2,g3,g4,g5⟩:=h1.ex;cases hres:fp (fD C.P fn.results.toList s1.tmps s1.heap)with
       |none=>grind[EO]
       |some v1=>
        rw[hres]at er;simp only[EO,yz]at er;obtain⟨cv,k1,k2⟩:=td g2 g3 hres;obtain⟨pl2,M2,q1,q2,q3,q4⟩:=vW (C.pol f) hr g2 k2 g4 g5 (er.trans hrr);exact⟨g3.defers,cv,k1,cv,rfl,pl2,M2,q1,q2,q3,q4⟩
      cases ex with
      |exit id=>grind[Yi]
      |normal=>exact fin _ e rfl
      |ret=>exact fin _ e rfl
   simp_all
theorem Dp{C:Cfg}(hN:Wg C.P)(hH:LK C)(hd:∀call,cL C.P C.G call->FN C.P C.G call):∀(k:Nat),cL C.P C.G (jz C k)
 |0=>by intro f args h v h' e;simp_all[jz]
 | k+1=>by
  intro f args h v h' e pl M w vs hg hr hv;have e:Et C (jz C k) f args h (C.hook f args h)=some (v,h'):=e;have ih:=Dp hN hH hd k;cases hh:C.hook f args h with
  |some r=>
   rw[hh]at e;simp[Et]at e;subst e;exact hH f args h v h' hh pl M w vs hg hr hv
  |none=>
   rw[hh]at e;exact OR hN ih (hd _ ih) e hg hr hv
end
def fI(pl pl':Pl)(n:Nat):Pl:=fun id=>if id<n then pl' id else pl id
open Classical in
noncomputable def kM(W:Nat->Prop)(g g':Nat->Option AObj):Nat->Option AObj:=fun id=>if W id then g' id else g id
section
variable{P:Program}{G:fy}{pl pl':Pl}{M M':dT}{w w':World}
theorem m9{W:Nat->Prop}{g g':Nat->Option AObj}{id:Nat}(h:W id):kM W g g' id=g' id:=by grind[kM]
theorem iw{W:Nat->Prop}{g g':Nat->Option AObj}{id:Nat}(h:¬W id):kM W g g' id=g id:=by grind[kM]
theorem L7{nk n0:Nat}{g:Nat->Option AObj}{hv h':AHeap}{W:Nat->Prop}(hr:RepF pl M nk g w)(hn0:n0<=hv.n)(hvg:∀id o,hv.get id=some o->g id=some o)
  (hr':cN pl' M' h' w')(hs:dQ hv (dj pl hv.n) M w h' pl' M' w')(hle:hv.n<=h'.n)(hnk:h'.n=hv.n\/h'.n<=nk)
  (hU:∀id,hv.n<=id->id<h'.n->pl id=none)
  (W1:∀id,id<hv.n->¬W id->hv.get id≠none->h'.get id=hv.get id)
  (W2:∀id,W id->id<hv.n->hv.get id≠none)(W3:∀id,W id->id<h'.n)(W4:∀id,hv.n<=id->id<h'.n->W id):
  RepF (fI pl pl' h'.n) M' nk (kM W g h'.get) w'/\StepF n0 g pl M w (kM W g h'.get) (fI pl pl' h'.n) M' w'/\n8 pl' (fI pl pl' h'.n)/\n8 pl (fI pl pl' h'.n):=by
 have ext':n8 pl' (fI pl pl' h'.n):=fun id p hp=>⟨p,by grind[fI,cases RepF],af _,fun _=>rfl⟩
 have hcase:∀id q,fI pl pl' h'.n id=some q->(id<h'.n/\pl' id=some q)\/(h'.n<=id/\pl id=some q):=by grind[fI]
 have hgone:∀id,g id=none->hv.get id=none:=by
  intro id hg;cases hv2:hv.get id with
  |none=>rfl
  |some o=>simp_all
 have low:∀id p,pl id=some p->id<h'.n->id<hv.n:=by grind
 have back:∀id q,pl' id=some q->id<hv.n->∃p,pl id=some p:=by
  intro id q hq hid;cases hp:pl id with
  |some p=>simp_all
  |none=>
   have:=hs.new id hid (by grind[dj]);grind
 have ext:n8 pl (fI pl pl' h'.n):=by
  intro id p hp;by_cases e:id<h'.n
  ·obtain⟨p',h1,h2⟩:=hs.ext id p (aT.2 ⟨low id p hp e,hp⟩);grind[fI]
  ·exact⟨p,by grind[fI],af _,fun _=>rfl⟩
 have unseen:∀id p,pl id=some p->hv.get id=none->w'.heap[p.blk]?=w.heap[p.blk]?:=by
  intro id p hp hg;refine hs.kept p.blk (hr.blk id p hp) fun id2 p2 h2 h3 e=>?_
  have:=hr.inj id2 id p2 p (aT.1 h2).2 hp e;simp_all
 have blks:∀id q,fI pl pl' h'.n id=some q->(∃p,pl id=some p/\p.blk=q.blk)\/w.heap.size<=q.blk:=by
  intro id q hq;rcases hcase id q hq with⟨h1,h2⟩|⟨h1,h2⟩
  ·rcases hs.blks id q h2 with⟨p,k1,k2⟩|k
   ·exact .inl ⟨p,(aT.1 k1).2,k2⟩
   omega
  simp_all
 have hge:∀id,h'.n<=id->hv.get id=none:=by
  intro id hid;cases h2:hv.get id with
  |none=>rfl
  |some o=>have:=(AHeap.get_some.1 h2).1;omega
 refine⟨⟨?_,?_,?_,?_,hr'.imm,?_⟩,⟨ext,?_,hs.mem,hs.size,?_,blks,?_,?_,hs.memNew,hs.os,hs.tape,hs.out,hs.drawn⟩,ext',ext⟩
 ·intro id q hq;rcases hcase id q hq with⟨h1,h2⟩|⟨h1,h2⟩
  ·grind[cases RepF]
  ·exact hr.dom id q h2
 ·intro id q o hq hg;rcases hcase id q hq with⟨h1,h2⟩|⟨h1,h2⟩
  ·by_cases hW:W id
   ·rw[m9 hW]at hg;exact(hr'.obj id q o h2 hg).mono ext' (fun _ _ h=>h)
   ·rw[iw hW]at hg;have hlow:id<hv.n:=by grind
    cases hvv:hv.get id with
    |some o1=>
     have h3:=hvg id o1 hvv;rw[hg]at h3;have h4:=W1 id hlow hW (by simp_all);rw[hvv,<-h3]at h4;exact(hr'.obj id q o h2 h4).mono ext' (fun _ _ h=>h)
    |none=>
     obtain⟨p,hp⟩:=back id q h2 hlow;have h3:=hs.stay id p (aT.2 ⟨hlow,hp⟩) hvv;rw[h2]at h3;have h3:=Lq h3;subst h3;rw[unseen id q hp hvv];exact(hr.obj id q o hp hg).mono ext hs.mem
  ·have hW:¬W id:=fun hW=>by grind
   rw[iw hW]at hg;rw[unseen id q h2 (hge id h1)];exact(hr.obj id q o h2 hg).mono ext hs.mem
 ·intro id q hq;rcases hcase id q hq with⟨h1,h2⟩|⟨h1,h2⟩
  ·exact hr'.blk id q h2
  grind[cases RepF]
 ·grind[cases RepF]
 ·intro id q hq;rcases hcase id q hq with⟨h1,h2⟩|⟨h1,h2⟩
  ·exact hr'.sep id q h2
  ·cases hm:M' q.blk with
   |none=>rfl
   |some c=>
    rcases hs.memNew _ c hm with k|k
    all_goals grind[cases RepF]
 ·intro id hid hp;have h1:id<h'.n:=by omega
  simp only[fI,h1,if_true];exact hs.new id (by omega) (by grind[dj])
 ·intro b hb hn;refine hs.kept b hb fun id p h1 h2=>?_
  refine hn id p (aT.1 h1).2 fun hg=>h2 (hgone id hg)
 ·grind[iw]
 ·intro id p hp hg;by_cases e:id<h'.n
  ·have h1:=low id p hp e;simp only[fI,e,if_true];exact hs.stay id p (aT.2 ⟨h1,hp⟩) (hgone id hg)
  grind[fI]
end
end Go.Ev
namespace Go.Ev
open Go
section
variable{P:Program}{G:fy}{pl pl':Pl}{M M':dT}{h h':AHeap}{w w':World}{v:AV}{A F:Fr}{a:Act}
theorem rdV{o:Option AV}{v:AV}{h':AHeap}(e:bA h o=some (.val v h')):h'=h:=by
 cases o<;>simp[bA]at e
 simp_all
theorem GO(op:Op)(hk:dK op=0)(e:(fC P G op).run A h=some (.val v h')):h'=h:=by
 cases op
 case makeFunc f x y=>grind[fC]
 case build t parts=>
  simp only[fC]at e
  repeat' (first|exact(av e).elim |(unfold Cb at e;split at e;split at e;exact rdV e)|exact(av e).elim |(split at e)|(simp only[]at e))
 case call c=>
  obtain⟨callee,args,ts⟩:=c;cases callee with
  |builtin b=>
   simp only[fC]at e;unfold iG at e
   repeat' (first|(simp[dK]at hk;done)|exact rdV e|exact(av e).elim |(simp at e;done)|(split at e)|(simp only[]at e))
  |invoke r n=>grind[dK]
  |value f=>grind[dK]
 all_goals first|(simp[dK]at hk;done)|skip
 all_goals (simp only[fC]at e;(try unfold wI at e);(try unfold Cb at e);(try unfold iG at e);repeat' (first|exact rdV e|exact(av e).elim |(simp at e;done)|(split at e)|(simp only[]at e)))
theorem J0{l:List Tmp}:∀{t0:Tr AV}{x:Tmp}{u:AV},(cZ F l t0).get x=some u->(x∈l/\F.get x=some u)\/t0.get x=some u:=by
 induction l with
 |nil=>intro t0 x u h;exact .inr h
 | cons y r ih=>
  intro t0 x u h;simp only[cZ]at h;rcases ih h with⟨h1,h2⟩|h1
  ·simp_all
  ·cases hy:F.get y with
   |none=>simp_all
   | some z=>
    rw[hy,dN]at h1;by_cases hlt:y<60000
    ·simp only[hlt,decide_true]at h1;rcases jy 16 t0 y z x u (Nat.lt_trans (Nat.succ_lt_succ hlt) (by omega)) h1 with⟨rfl,rfl⟩|⟨_,h2⟩
     all_goals simp_all
    simp_all
theorem OY{ids:List Nat}:∀{t0:Tr AObj}{id:Nat}{o:AObj},(bR h ids t0).get id=some o->(id∈ids/\h.get id=some o)\/t0.get id=some o:=by
 induction ids with
 |nil=>intro t0 x u h;exact .inr h
 | cons y r ih=>
  intro t0 x u hx;simp only[bR]at hx;rcases ih hx with⟨h1,h2⟩|h1
  ·simp_all
  ·cases hy:h.get y with
   |none=>simp_all
   |some z=>
    rw[hy]at h1;have hlt:=(AHeap.get_some.1 hy).2.1;rcases jy 20 t0 y z x u (by omega) h1 with⟨rfl,rfl⟩|⟨_,h2⟩
    all_goals simp_all
theorem rv{ids:List Nat}{n id:Nat}{o:AObj}(e:(⟨n,bR h ids .nil⟩:AHeap).get id=some o):id∈ids/\h.get id=some o:=by
 obtain⟨_,_,h3⟩:=AHeap.get_some.1 e;rcases OY h3 with h|h
 all_goals grind[gq]
theorem NF{n:Nat}{l:List Tmp}(e:jV F n l=true):∀t u,t∈l->F.get t=some u->u.top<=n:=by
 induction l with
 |nil=>simp_all
 |cons x r ih=>
  simp only[jV,bZ]at e;grind[ba]
theorem Ox{n:Nat}{l:List Nat}(e:pA h n l=true):∀id o,id∈l->h.get id=some o->o.top<=n:=by
 induction l with
 |nil=>simp_all
 |cons x r ih=>
  simp only[pA,bZ]at e;grind[ba]
theorem o6{id:Nat}:∀{l:List Nat},jq id l=true↔id∈l
 |[]=>by simp[jq]
 |x::r=>by
  simp only[jq,ud,aB,decide_eq_true_eq,dP,o6 (l:=r)];grind
def Ids.Holds(X:Ids)(id:Nat):Prop:=(X.all=true/\id<X.lo)\/id∈X.l\/(X.lo<=id/\id<X.hi)
theorem Ids.has_iff{X:Ids}{id:Nat}:X.has id=true↔X.Holds id:=by
 unfold Ids.has Ids.Holds;simp_all[o6,or_assoc]
theorem vO{X:Ids}:∀{l:List Nat}{id:Nat},id∈l->X.Holds id->I1 X l=true
 |x::r,id,h,hm=>by
  simp only[I1,ud];rcases dP.1 h with rfl|h
  ·exact .inl (Ids.has_iff.2 hm)
  ·exact .inr (vO h hm)
theorem FH{X Y:Ids}{id:Nat}(hx:X.Holds id)(hy:Y.Holds id):X.meets Y=true:=by
 unfold Ids.meets;simp only[ud,bZ,dN,decide_eq_true_eq];have hx0:=hx;have hy0:=hy;rcases hy with⟨h1,h2⟩|h1|⟨h1,h2⟩
 ·rcases hx with⟨k1,k2⟩|k1|⟨k1,k2⟩
  all_goals grind[vO]
 ·grind[vO]
 ·rcases hx with⟨k1,k2⟩|k1|⟨k1,k2⟩
  all_goals grind[vO]
end
section
variable{P:Program}{G:fy}{pl pl':Pl}{M M':dT}{h h' hv:AHeap}{w w':World}{v:AV}{A F:Fr}{a:Act}{call:cA}
theorem wV{nk:Nat}{g:Nat->Option AObj}(hr:RepF pl M nk g w)(hvg:∀id o,hv.get id=some o->g id=some o)(ho:∀id o,hv.get id=some o->o.top<=hv.n):
  cN (dj pl hv.n) M hv w:=by
 refine⟨fun id p hp=>(aT.1 hp).1,fun id p o hp hg=>?_,fun id p hp=>hr.blk id p (aT.1 hp).2,fun id id' p p' h1 h2=>hr.inj id id' p p' (aT.1 h1).2 (aT.1 h2).2,hr.imm,fun id p hp=>hr.sep id p (aT.1 hp).2⟩;obtain⟨h1,h2⟩:=aT.1 hp;exact(hr.obj id p o h2 (hvg id o hg)).agree (ho id o hg) ee (fun _ _ h=>h)
theorem CO{nk n0:Nat}{g:Nat->Option AObj}{W:Nat->Prop}{o:Oper}(hr:RepF pl M nk g w)(hn0:n0<=hv.n)(hvg:∀id o,hv.get id=some o->g id=some o)(ho:∀id o,hv.get id=some o->o.top<=hv.n)
  (hf:FrRel (dj pl hv.n) M A a)(hg:qr G (dj pl hv.n) M)(e:(fC P G o.op).run A hv=some (.val v h'))(hnk:h'.n=hv.n\/h'.n<=nk)
  (hU:∀id,hv.n<=id->id<h'.n->pl id=none)(W1:∀id,id<hv.n->¬W id->hv.get id≠none->h'.get id=hv.get id)
  (W2:∀id,W id->id<hv.n->hv.get id≠none)(W3:∀id,W id->id<h'.n)(W4:∀id,hv.n<=id->id<h'.n->W id)
  {K:Act->World->Prop}{Q:Exit->Act->World->Prop}
  (hK:∀cv w' pl' M',RepF pl' M' nk (kM W g h'.get) w'->StepF n0 g pl M w (kM W g h'.get) pl' M' w'->VRel pl' M' v cv->n8 pl pl'->(∀id,h'.n<=id->pl' id=pl id)->K (a.put o.dst cv) w'):
  o.wp P a w K Q:=by
 obtain⟨dst,op,ty,pos,after,guard⟩:=o;obtain⟨pl1,M1,cv,w1,nx,q1,q2,q3,q4,q5,q6⟩:=Aj (P:=P) (G:=G) op (dj pl hv.n) M A hv v h' a w dst ty pos after guard hg (wV hr hvg ho) hf e;obtain⟨r1,r2,r3,r4⟩:=L7 hr hn0 hvg q4 q5 q6 hnk hU W1 W2 W3 W4;have key:=hK cv w1 _ M1 r1 r2 (q3.mono r3 (fun _ _ h=>h)) r4 (fun id hid=>by grind[fI]);unfold Oper.wp;rw[q1];rcases q2 with rfl|⟨rfl,rfl⟩
 ·exact key
 ·exact key
theorem Jl{nk n0:Nat}{g:Nat->Option AObj}{W:Nat->Prop}{o:Oper}(hc:cL P G call)(hr:RepF pl M nk g w)(hn0:n0<=hv.n)(hvg:∀id o,hv.get id=some o->g id=some o)(ho:∀id o,hv.get id=some o->o.top<=hv.n)
  (hf:FrRel (dj pl hv.n) M A a)(hg:qr G (dj pl hv.n) M){f:FuncId}{args:List AV}(e:(fC P G o.op).run A hv=some (.call f args))(e2:call f args hv=some (v,h'))(hnk:h'.n=hv.n\/h'.n<=nk)
  (hU:∀id,hv.n<=id->id<h'.n->pl id=none)(W1:∀id,id<hv.n->¬W id->hv.get id≠none->h'.get id=hv.get id)
  (W2:∀id,W id->id<hv.n->hv.get id≠none)(W3:∀id,W id->id<h'.n)(W4:∀id,hv.n<=id->id<h'.n->W id)
  {K:Act->World->Prop}{Q:Exit->Act->World->Prop}
  (hK:∀cv w' pl' M',RepF pl' M' nk (kM W g h'.get) w'->StepF n0 g pl M w (kM W g h'.get) pl' M' w'->VRel pl' M' v cv->n8 pl pl'->(∀id,h'.n<=id->pl' id=pl id)->K (a.put o.dst cv) w'):
  o.wp P a w K Q:=by
 obtain⟨vs,k1,k2⟩:=u9 (P:=P) (w:=w) hg hf e;have fin:∀cv w1,iD (dj pl hv.n) M hv w v h' cv w1->K (a.put o.dst cv) w1:=by
  intro cv w1 ⟨pl1,M1,q3,q4,q5,q6⟩;obtain⟨r1,r2,r3,r4⟩:=L7 hr hn0 hvg q4 q5 q6 hnk hU W1 W2 W3 W4;exact hK cv w1 _ M1 r1 r2 (q3.mono r3 (fun _ _ h=>h)) r4 (fun id hid=>by grind[fI])
 unfold Oper.wp;rw[k2];rcases hc f args hv v h' e2 _ M w vs hg (wV hr hvg ho) k1 with⟨q1,q2⟩|⟨cv,w1,q1,q2⟩
 ·rw[q1];refine Calls.mono q2 fun en w'' hh=>?_
  grind
 ·rw[q1];exact fin cv w1 q2
end
section
variable{P:Program}{G:fy}{pl pl':Pl}{M M':dT}{h h' h1 hv:AHeap}{w w':World}{v:AV}{A F:Fr}{a:Act}{call:cA}
theorem iy{l:List Tmp}(hs:a.tmps.size=F.n)(hd:a.defers=[])(hF:∀t u,t∈l->F.get t=some u->t<F.n/\VRel pl M u (a.tmps.getD t undef)):FrRel pl M ⟨F.n,cZ F l .nil⟩ a:=by
 refine⟨hs,hd,fun t u ht=>?_⟩;rcases J0 ht with⟨h1,h2⟩|h1
 all_goals grind[gq]
theorem Rc{ids:List Nat}:∀{H H':AHeap},laid hv h' ids H=some H'->H'.n=H.n/\∀id o,H'.get id=some o->(id∈ids/\hv.get id≠none/\h'.get id=some o)\/((id∈ids->hv.get id=none)/\H.get id=some o):=by
 induction ids with
 |nil=>intro H H' e;simp[laid]at e;simp_all
 | cons x r ih=>
  intro H H' e;simp only[laid]at e;cases hx:hv.get x with
  |none=>grind
  | some y=>
   cases hy:h'.get x with
   |none=>simp_all
   | some o1=>
    simp only[hx,hy]at e;obtain⟨k1,k2⟩:=ih e;have hlt:=(AHeap.get_some.1 hx).2.1;refine⟨k1,fun id o h=>?_⟩;rcases k2 id o h with⟨q1,q2⟩|⟨q1,q2⟩
    ·simp_all
    ·rcases AHeap.get_put hlt q2 with⟨rfl,rfl⟩|⟨q3,q4⟩
     all_goals simp_all
theorem Hb{H H':AHeap}(hH:H.n=h.n)(e:EP h h' H=some H'):H'.n=h'.n/\h.n<=h'.n/\∀id o,H'.get id=some o->(id<h.n/\H.get id=some o)\/(h.n<=id/\h'.get id=some o):=by
 unfold EP at e;rw[aB]at e;by_cases q:h'.n=h.n
 ·simp[q]at e;subst e;refine⟨by omega,by omega,fun id o h=>.inl ⟨?_,h⟩⟩;have:=(AHeap.get_some.1 h).1;omega
 ·simp only[q,decide_false]at e;rw[aB]at e;by_cases q2:h'.n=h.n+1
  ·simp only[q2,decide_true]at e;cases hg:h'.get h.n with
   |none=>simp_all
   |some o1=>
    simp[hg]at e;subst e;refine⟨by grind[AHeap.push],by omega,fun id o h=>?_⟩;rcases dg h with⟨rfl,rfl⟩|⟨k1,k2⟩
    all_goals simp_all
  simp_all
end
theorem IM{a b:Bool}(h:((a&&b)||(!a&& !b))=true):a=b:=by grind
theorem UC{a b:Option Nat}(h:oO a b=true):a=b:=by cases a<;>cases b<;>simp[oO,aB]at h<;>simp[h]
mutual
theorem AV.same_eq:∀(x y:AV),AV.same x y=true->x=y
 | .bool a,y,h=>by cases y<;>simp only[AV.same,gP]at h;rw[IM h]
 | .int j a,y,h=>by
  cases y<;>simp only[AV.same,gP,bZ,mV,pT,decide_eq_true_eq,beq_iff_eq]at h
  rw[h.1,h.2]
 | .str a,y,h=>by cases y<;>simp only[AV.same,gP,mF,beq_iff_eq]at h;rw[h]
 | .nilp,y,h=>by cases y<;>simp only[AV.same,gP]at h;rfl
 | .nils,y,h=>by cases y<;>simp only[AV.same,gP]at h;rfl
 | .nilm,y,h=>by cases y<;>simp only[AV.same,gP]at h;rfl
 | .nilf,y,h=>by cases y<;>simp only[AV.same,gP]at h;rfl
 | .nili,y,h=>by cases y<;>simp only[AV.same,gP]at h;rfl
 | .ptr a b c d,y,h=>by
  cases y<;>simp only[AV.same,gP,bZ,aB,decide_eq_true_eq]at h
  obtain⟨⟨⟨h1,h2⟩,h3⟩,h4⟩:=h;rw[h1,h2,h3,h4]
 | .map a,y,h=>by cases y<;>simp only[AV.same,gP,aB,decide_eq_true_eq]at h;rw[h]
 | .slice a b c d e,y,h=>by
  cases y<;>simp only[AV.same,gP,bZ,aB,decide_eq_true_eq]at h
  obtain⟨⟨⟨⟨h1,h2⟩,h3⟩,h4⟩,h5⟩:=h;rw[h1,h2,h3,h4,UC h5]
 | .ps xs a,y,h=>by
  cases y<;>simp only[AV.same,gP,bZ]at h
  rw[gE _ _ h.1,IM h.2]
 | .ls xs,y,h=>by
  cases y<;>simp only[AV.same,gP]at h
  rw[gE _ _ h]
 | .pptr xs a b,y,h=>by
  cases y<;>simp only[AV.same,gP,bZ,aB,decide_eq_true_eq]at h
  rw[gE _ _ h.1.1,h.1.2,h.2]
 | .iface t u,y,h=>by
  cases y<;>simp only[AV.same,gP,bZ,aB,decide_eq_true_eq]at h
  rw[h.1,AV.same_eq _ _ h.2]
 | .agg a,y,h=>by cases y<;>simp only[AV.same,gP]at h;rw[gE _ _ h]
 | .tuple a,y,h=>by cases y<;>simp only[AV.same,gP]at h;rw[gE _ _ h]
 | .func fn a b,y,h=>by
  cases fn<;>cases y<;>(try(rename_i fn2 _ _;cases fn2))<;>simp only[AV.same,gP,bZ,aB,decide_eq_true_eq]at h
  rw[h.1.1,gE _ _ h.1.2,gE _ _ h.2]
theorem gE:∀(x y:List AV),iQ x y=true->x=y
 |[],[],_=>rfl
 |[],_::_,h=>by simp[iQ]at h
 |_::_,[],h=>by simp[iQ]at h
 |a::as,b::bs,h=>by
  simp only[iQ,bZ]at h;rw[AV.same_eq a b h.1,gE as bs h.2]
end
theorem xR:∀(x y:List AEnt),pZ x y=true->x=y
 |[],[],_=>rfl
 |[],_::_,h=>by grind[pZ]
 |_::_,[],h=>by grind[pZ]
 |a::as,b::bs,h=>by
  simp only[pZ,bZ,aB,decide_eq_true_eq]at h;obtain⟨⟨⟨h1,h2⟩,h3⟩,h4⟩:=h;rw[xR as bs h4];cases a;cases b
  grind[AV.same_eq]
theorem AObj.same_eq(x y:AObj)(h:AObj.same x y=true):x=y:=by
 cases x<;>cases y<;>simp only[AObj.same,gP,bZ,aB,decide_eq_true_eq]at h
 all_goals grind[gE,xR]
theorem wU{h h':AHeap}:∀(k:Nat),wq h h' k=true->∀id,id<k->h'.get id=h.get id
 |0,_,id,hid=>by omega
 | k+1,e,id,hid=>by
  unfold wq at e;have key:wq h h' k=true/\h'.get k=h.get k:=by
   cases h1:h'.get k with
   |none=>
    cases h2:h.get k with
    |none=>rw[h1,h2]at e;exact⟨e,rfl⟩
    |some o=>rw[h1,h2]at e;simp at e
   | some o'=>
    cases h2:h.get k with
    |none=>rw[h1,h2]at e;simp at e
    |some o=>
     rw[h1,h2]at e;simp only[]at e;split at e
     ·rename_i hs;exact⟨e,by rw[AObj.same_eq _ _ hs]⟩
     ·simp at e
  rcases gQ id k with h1|h1
  ·exact wU k key.1 id h1
  ·have:id=k:=by omega
   rw[this];exact key.2
theorem StepF.weaken{n m:Nat}{g g':Nat->Option AObj}{pl pl':Pl}{M M':dT}{w w':World}(h:StepF n g pl M w g' pl' M' w')(hm:m<=n):StepF m g pl M w g' pl' M' w':=⟨h.ext,fun id hid hp=>h.new id (by omega) hp,h.mem,h.size,h.kept,h.blks,h.live,h.stay,h.memNew,h.os,h.tape,h.out,h.drawn⟩
structure DSpec(P:Program)(G:fy)(ops:Array Oper)(o:Oper)(look:List Tmp)(F:Fr)(h:AHeap)(v:AV)(h1:AHeap)(r:Rec):Prop where
 le:h.n<=h1.n
 keep:∀id o',¬r.wr.Holds id->h1.get id=some o'->h.get id=some o'
 new:∀id,h.n<=id->id<h1.n->r.wr.Holds id
 exec:∀(nk n0:Nat)(g:Nat->Option AObj)(pl:Pl)(M:dT)(a:Act)(w:World)(K:Act->World->Prop)(Q:Exit->Act->World->Prop),n0<=h.n->h1.n<=nk->nk<=1000000->RepF pl M nk g w->
  (∀id o',r.vis.Holds id->h.get id=some o'->g id=some o')->(∀id,h.n<=id->id<h1.n->pl id=none)->qr G (dj pl h.n) M->a.tmps.size=F.n->a.defers=[]->
  (∀t u,t∈look->F.get t=some u->t<F.n/\VRel pl M u (a.tmps.getD t undef))->
  (∀cv w' pl' M' g',RepF pl' M' nk g' w'->StepF n0 g pl M w g' pl' M' w'->VRel pl' M' v cv->n8 pl pl'->(∀id,pl id=none->(id<h.n\/h1.n<=id)->pl' id=none)->
   (∀id,¬r.wr.Holds id->g' id=g id)->(∀id o',r.wr.Holds id->h1.get id=some o'->g' id=some o')->K (a.put o.dst cv) w')->
  if Region.wanted o (yielded ops a.tmps)then o.wp P a w K Q\/(o.asks P a w/\LetsOut Q)else K (a.put o.dst undef) w
section
variable{P:Program}{G:fy}{pl pl':Pl}{M M':dT}{h h' h1 hv:AHeap}{w w':World}{v:AV}{A F:Fr}{a:Act}{call:cA}{ops:Array Oper}{o:Oper}{d:DOper}{r:Rec}
theorem sK{ids:List Nat}{id:Nat}:¬(⟨false,[],0,0⟩:Ids).Holds id:=by simp[Ids.Holds]
theorem lJ(hd:d.r.op=fC P G o.op)(hk:dK o.op=0){ids:List Nat}(e:qm F h d ids=some (v,h1,r))(hg:fK ⟨F.n,cZ F d.look .nil⟩ (e9 ops o)=some true):
  DSpec P G ops o d.look F h v h1 r:=by
 unfold qm at e;split at e
 ·rename_i v2 h2 hrun;simp at e;obtain⟨rfl,rfl,rfl⟩:=e;rw[hd]at hrun;have hh:=GO o.op hk hrun;subst hh;refine⟨af _,fun _ _ _ h=>h,fun id h1 h2=>by omega,?_⟩;intro nk n0 g pl M a w K Q hn0 hnk hbig hr hvis hU hG hs hdf hF hK;have hcut:dj pl 1000000=pl:=by
   funext id;cases hp:pl id with
   |none=>grind[dj]
   |some p=>exact aT.2 ⟨by grind[cases RepF],hp⟩
  have hvg:∀id o,(⟨1000000,bR h ids .nil⟩:AHeap).get id=some o->g id=some o:=fun id o' hh=>by
   obtain⟨k1,k2⟩:=rv hh;exact hvis id o' (.inr (.inl k1)) k2
  have hf:FrRel pl M ⟨F.n,cZ F d.look .nil⟩ a:=iy hs hdf hF;rw[f8 hf hg];simp only[if_true];left;have hG2:qr G pl M:=hG.mono (fun id p hp=>⟨p,(aT.1 hp).2,af _,fun _=>rfl⟩) (fun _ _ h=>h);have rep:cN pl M ⟨1000000,bR h ids .nil⟩ w:=⟨fun id p hp=>by grind[cases RepF],fun id p o' hp hh=>hr.obj id p o' hp (hvg id o' hh),hr.blk,hr.inj,hr.imm,hr.sep⟩
  obtain⟨dst,op,ty,pos,after,guard⟩:=o;obtain⟨pl1,M1,cv,w1,nx,q1,q2,q3,q4,q5,q6⟩:=Aj (P:=P) (G:=G) op pl M _ _ v2 _ a w dst ty pos after guard hG2 rep hf hrun;have q5':dQ ⟨1000000,bR h ids .nil⟩ (dj pl 1000000) M w ⟨1000000,bR h ids .nil⟩ pl1 M1 w1:=by simp_all
  obtain⟨r1,r2,r3,r4⟩:=L7 (n0:=1000000) (W:=fun _=>False) hr (af _) hvg q4 q5' (af _) (.inl rfl) (fun id k1 k2=>absurd k2 (by omega)) (fun _ _ _ _=>rfl) (fun _ h=>h.elim) (fun _ h=>h.elim) (fun id k1 k2=>absurd k2 (by omega));have key:=hK cv w1 _ M1 _ r1 (r2.weaken (by omega)) (q3.mono r3 (fun _ _ h=>h)) r4 (fun id hp hh=>by
    by_cases hid:id<1000000
    ·exact r2.new id hid hp
    grind[fI]) (fun id _=>iw (fun h=>h)) (fun id o' hh=>absurd hh (sK (ids:=[])))
  unfold Oper.wp;rw[q1];rcases q2 with rfl|⟨rfl,rfl⟩
  ·exact key
  ·exact key
 simp_all
theorem rH(hs:a.tmps.size=F.n)(hd:a.defers=[]){l:List Tmp}{n:Nat}(ht:jV F n l=true)(hF:∀t u,t∈l->F.get t=some u->t<F.n/\VRel pl M u (a.tmps.getD t undef)):FrRel (dj pl n) M ⟨F.n,cZ F l .nil⟩ a:=iy hs hd fun t u h1 h2=>⟨(hF t u h1 h2).1,(hF t u h1 h2).2.agree (NF ht t u h1 h2) ee (fun _ _ h=>h)⟩
theorem nX(hd:d.r.op=fC P G o.op){ids:List Nat}(e:qJ F h d ids=some (v,h1,r))(hg:fK ⟨F.n,cZ F d.look .nil⟩ (e9 ops o)=some true):
  DSpec P G ops o d.look F h v h1 r:=by
 unfold qJ at e;split at e
 ·rename_i hck;simp only[bZ]at hck;obtain⟨hck1,hck2⟩:=hck;unfold nR lG at e;rw[hd]at e;split at e
  ·rename_i v2 h2 hrun;split at e
   ·rename_i H hla;split at e
    ·rename_i H1 hln;simp at e;obtain⟨rfl,rfl,rfl⟩:=e;obtain⟨a1,a2⟩:=Rc hla;obtain⟨b1,b2,b3⟩:=Hb a1 hln;refine⟨by omega,fun id o' hno hg1=>?_,fun id k1 k2=>.inr (.inr ⟨k1,by simp_all⟩),?_⟩
     ·rcases b3 id o' hg1 with⟨k1,k2⟩|⟨k1,k2⟩
      ·rcases a2 id o' k2 with⟨q1,_⟩|⟨_,q1⟩
       ·exact absurd (.inr (.inl q1)) hno
       omega
      ·exact absurd (.inr (.inr ⟨k1,(AHeap.get_some.1 k2).1⟩)) hno
     ·intro nk n0 g pl M a w K Q hn0 hnk hbig hr hvis hU hG hs hdf hF hK;have hf0:FrRel pl M ⟨F.n,cZ F d.look .nil⟩ a:=iy hs hdf hF;rw[f8 hf0 hg];simp only[if_true];left;have hvg:∀id o,(⟨h.n,bR h ids .nil⟩:AHeap).get id=some o->g id=some o:=fun id o' hh=>by
       obtain⟨k1,k2⟩:=rv hh;exact hvis id o' (.inr (.inl k1)) k2
      refine CO (hv:=⟨h.n,bR h ids .nil⟩) (h':=h2) (n0:=h.n) (W:=fun id=>(id∈ids/\id<h.n/\(⟨h.n,bR h ids .nil⟩:AHeap).get id≠none)\/(h.n<=id/\id<h2.n)) hr (af _) hvg (fun id o' hh=>Ox hck2 id o' (rv hh).1 (rv hh).2)
       (rH hs hdf hck1 hF) hG hrun (.inr (by omega)) (fun id k1 k2=>hU id k1 (by omega)) (fun id k1 k2 k3=>?_) (fun id k1 k2=>?_) (fun id k1=>?_) (fun id k1 k2=>.inr ⟨k1,k2⟩) ?_
      ·cases hh:(⟨h.n,bR h ids .nil⟩:AHeap).get id with
       |none=>simp_all
       |some o'=>grind[rv]
      ·grind
      ·omega
      ·intro cv w' pl' M' r1 r2 r3 r4 r5;refine hK cv w' pl' M' _ r1 (r2.weaken hn0) r3 r4 (fun id hp hh=>?_) (fun id hno=>iw fun hW=>?_) (fun id o' hyes hg1=>?_)
       ·rcases hh with hh|hh
        ·exact r2.new id hh hp
        simp_all
       ·rcases hW with⟨k,_,_⟩|k
        ·exact hno (.inr (.inl k))
        ·exact hno (.inr (.inr k))
       ·rcases b3 id o' hg1 with⟨k1,k2⟩|⟨k1,k2⟩
        ·rcases a2 id o' k2 with⟨q1,q2,q3⟩|⟨q1,q2⟩
         ·grind[m9]
         ·rw[iw (fun hW=>by grind)];refine hvis id o' (.inr (.inl ?_)) q2;rcases hyes with⟨z,_⟩|z|⟨z,_⟩
          all_goals grind
        ·rw[m9 (.inr ⟨k1,(AHeap.get_some.1 k2).1⟩)];omega
    simp_all
   simp_all
  simp_all
 simp_all
end
end Go.Ev
namespace Go.Ev
open Go
section
variable{P:Program}{G:fy}{pl pl':Pl}{M M':dT}{h h' h1 hv:AHeap}{w w':World}{v:AV}{A F:Fr}{a:Act}{call:cA}{ops:Array Oper}{o:Oper}{d:DOper}{r:Rec}
theorem pS{h h':AHeap}:∀(k:Nat),oK h h' k=true->∀id,id<k->h.get id=none->h'.get id=none
 |0,_,id,hid,_=>by omega
 | k+1,e,id,hid,hn=>by
  unfold oK at e;have key:oK h h' k=true/\(h.get k=none->h'.get k=none):=by
   cases h1:h'.get k with
   |none=>rw[h1]at e;exact⟨e,fun _=>rfl⟩
   |some o'=>
    cases h2:h.get k with
    |none=>rw[h1,h2]at e;simp at e
    |some o=>rw[h1,h2]at e;exact⟨e,fun h=>by cases h⟩
  rcases gQ id k with h1|h1
  ·exact pS k key.1 id h1 hn
  ·have:id=k:=by omega
   subst this;exact key.2 hn
theorem Ca{x:Option (AV×AHeap)}(e:Bh h x=some (v,h1,r)):x=some (v,h1)/\h.n<=h1.n/\∃b,r=⟨⟨true,[],h.n,h.n⟩,⟨b,[],h.n,h1.n⟩⟩/\
  (b=false->∀id,id<h.n->h1.get id=h.get id)/\(∀id,id<h.n->h.get id=none->h1.get id=none):=by
 unfold Bh at e;split at e
 ·rename_i v2 h2;rw[ba]at e;by_cases hle:h.n<=h2.n
  ·simp only[hle,decide_true]at e;split at e
   ·rename_i hs;simp[vn]at e;obtain⟨rfl,rfl,rfl⟩:=e;exact⟨rfl,hle,false,rfl,fun _=>wU h.n hs,fun id hid hn=>by grind[wU]⟩
   ·split at e
    ·rename_i hf;simp[vn]at e;obtain⟨rfl,rfl,rfl⟩:=e;exact⟨rfl,hle,true,rfl,(fun hq=>absurd hq (by simp)),pS h.n hf⟩
    simp_all
  simp_all
 simp_all
theorem SL(hc:cL P G call)(hd:d.r.op=fC P G o.op)(e:Nj call F h d=some (v,h1,r))(hg:fK ⟨F.n,cZ F d.look .nil⟩ (e9 ops o)=some true):
  DSpec P G ops o d.look F h v h1 r:=by
 unfold Nj at e;split at e
 ·rename_i hck;simp only[bZ]at hck;obtain⟨hck1,hck2⟩:=hck;obtain⟨e1,hle,b,rfl,hb,hfew⟩:=Ca e;rw[hd]at e1;refine⟨hle,fun id o' hno hg1=>?_,fun id k1 k2=>.inr (.inr ⟨k1,k2⟩),?_⟩
  ·have hlt:=(AHeap.get_some.1 hg1).1;have hlow:id<h.n:=by
    rcases gQ id h.n with k|k
    ·omega
    ·exact absurd (.inr (.inr ⟨k,hlt⟩)) hno
   cases b with
   |true=>exact absurd (.inl ⟨rfl,hlow⟩) hno
   |false=>simp_all
  ·intro nk n0 g pl M a w K Q hn0 hnk hbig hr hvis hU hG hs hdf hF hK;have hf0:FrRel pl M ⟨F.n,cZ F d.look .nil⟩ a:=iy hs hdf hF;rw[f8 hf0 hg];simp only[if_true];left;have hvg:∀id o,h.get id=some o->g id=some o:=fun id o' hh=>hvis id o' (.inl ⟨rfl,(AHeap.get_some.1 hh).1⟩) hh
   have ho:∀id o,h.get id=some o->o.top<=h.n:=fun id o' hh=>gL h.n hck2 id o' (AHeap.get_some.1 hh).1 hh
   have hf:=rH (M:=M) hs hdf hck1 hF;let W:Nat->Prop:=fun id=>(b=true/\id<h.n/\h.get id≠none)\/(h.n<=id/\id<h1.n)
   have W1:∀id,id<h.n->¬W id->h.get id≠none->h1.get id=h.get id:=by grind
   have W2:∀id,W id->id<h.n->h.get id≠none:=by grind
   have W3:∀id,W id->id<h1.n:=by omega
   have W4:∀id,h.n<=id->id<h1.n->W id:=fun id k1 k2=>.inr ⟨k1,k2⟩
   have hKK:∀cv w' pl' M',RepF pl' M' nk (kM W g h1.get) w'->StepF h.n g pl M w (kM W g h1.get) pl' M' w'->VRel pl' M' v cv->n8 pl pl'->(∀id,h1.n<=id->pl' id=pl id)->K (a.put o.dst cv) w':=by
    intro cv w' pl' M' r1 r2 r3 r4 r5;refine hK cv w' pl' M' _ r1 (r2.weaken hn0) r3 r4 (fun id hp hh=>?_) (fun id hno=>iw fun hW=>?_) (fun id o' hyes hg1=>?_)
    ·rcases hh with hh|hh
     ·exact r2.new id hh hp
     simp_all
    ·rcases hW with⟨k1,k2,_⟩|k
     ·exact hno (.inl ⟨k1,k2⟩)
     ·exact hno (.inr (.inr k))
    ·have hlt:=(AHeap.get_some.1 hg1).1;have hW:W id:=by
      rcases hyes with⟨k1,k2⟩|k|k
      all_goals grind
     grind[m9]
   cases hrun:(fC P G o.op).run ⟨F.n,cZ F d.look .nil⟩ h with
   |none=>grind[behind]
   | some res=>
    rw[hrun]at e1;cases res with
    |val v2 h2=>
     simp[behind]at e1;obtain⟨rfl,rfl⟩:=e1;exact CO hr (af _) hvg ho hf hG hrun (.inr hnk) (fun id k1 k2=>hU id k1 k2) W1 W2 W3 W4 hKK
    |call f args=>
     simp only[behind]at e1;exact Jl hc hr (af _) hvg ho hf hG hrun e1 (.inr hnk) (fun id k1 k2=>hU id k1 k2) W1 W2 W3 W4 hKK
 simp_all
end
section
variable{P:Program}{G:fy}{h h1:AHeap}{v:AV}{F:Fr}{call:cA}{ops:Array Oper}{o:Oper}{d:DOper}{r:Rec}
theorem Nz(hc:cL P G call)(hd:d.r=b0 P G ops o)(hk:d.kind=dK o.op)(e:FU call F h d=some (v,h1,r)):DSpec P G ops o d.look F h v h1 r:=by
 have hop:d.r.op=fC P G o.op:=by rw[hd];rfl
 have hgd:d.r.g=e9 ops o:=by rw[hd];rfl
 unfold FU at e;rw[hgd]at e;split at e
 ·grind[lJ,nX,SL]
 ·rename_i hg;simp at e;obtain⟨rfl,rfl,rfl⟩:=e;refine⟨af _,fun _ _ _ h=>h,fun id h1 h2=>by omega,?_⟩;intro nk n0 g pl M a w K Q hn0 hnk hbig hr hvis hU hG hs hdf hF hK;have hf0:FrRel pl M ⟨F.n,cZ F d.look .nil⟩ a:=iy hs hdf hF;rw[f8 hf0 hg];simp only[gP,if_false];exact hK undef w pl M g hr (StepF.refl _ _ _ _ _) CG (n8.refl _) (fun id h _=>h) (fun _ _=>rfl) (fun id o' hh=>absurd hh (sK (ids:=[])))
 simp_all
end
section
variable{P:Program}{G:fy}{call:cA}{ops:Array Oper}
theorem qW:∀{l:List Edge}{x:Nat},x∈iM l↔∃e,e∈l/\Region.binds .any e=true/\e.on=x
 |[],x=>by simp[iM]
 | e::r,x=>by
  simp only[iM];cases hb:Region.binds .any e with
  |true=>
   simp only[dP,qW (l:=r)];grind
  |false=>
   simp only[dP,qW (l:=r)];simp_all
theorem Al{masks:List (Nat×Nat)}{x:Nat}:∀{l:List Nat},Nat.testBit (tF masks l) x=true->∃d,d∈l/\(x=d\/Nat.testBit (fq masks d) x=true)
 |[],h=>by simp[tF]at h
 |d::r,h=>by
  simp only[tF]at h;have h:Nat.testBit ((2^d ||| fq masks d) ||| tF masks r) x=true:=h;rw[Nat.testBit_or,Nat.testBit_or,ud,ud,Nat.testBit_two_pow]at h;rcases h with(h|h)|h
  ·exact⟨d,by simp,.inl (by simpa[eq_comm]using h)⟩
  ·exact⟨d,by simp,.inr h⟩
  ·obtain⟨d',h1,h2⟩:=Al h;exact⟨d',by simp[h1],h2⟩
theorem mc{i:Nat}:∀{l:List Nat},md i l=true->∀d,d∈l->d<i
 |[],_,d,h=>by simp_all
 |x::r,e,d,h=>by
  simp only[md,bZ,dN,decide_eq_true_eq]at e;rcases dP.1 h with rfl|h
  ·omega
  ·exact mc e.2 d h
theorem rb:∀(l:List Oper)(i:Nat)(acc:List (Nat×Nat))(j:Nat),j<i->fq (eC l i acc) j=fq acc j
 |[],i,acc,j,h=>rfl
 |o::r,i,acc,j,h=>by
  simp only[eC];rw[rb r (i+1) _ j (by omega)];have:Nat.beq i j=false:=by rw[aB];simp;omega
  simp[fq,this]
theorem re:∀(l:List Oper)(i:Nat)(acc:List (Nat×Nat))(t:Nat)(o:Oper),l[t]?=some o->md (i+t) (iM o.after.toList)=true->∀x,Nat.testBit (fq (eC l i acc) (i+t)) x=true->
  ∃d,d∈iM o.after.toList/\(x=d\/Nat.testBit (fq (eC l i acc) d) x=true)
 |[],i,acc,t,o,h,_,_,_=>by simp_all
 |o'::r,i,acc,0,o,h,hb,x,hx=>by
  simp at h;subst h;have e:fq (eC (o'::r) i acc) i=tF acc (iM o'.after.toList):=by grind[eC,rb,aB,fq]
  grind[Al,mc,rb]
 |o'::r,i,acc,t+1,o,h,hb,x,hx=>by
  simp only[eC]at hx ⊢;exact re r (i+1) _ t o (by simp_all) (by grind) x (by grind)
def aaR(masks:List (Nat×Nat))(L:Nat->Prop):Prop:=∀i,L i->∀x,Nat.testBit (fq masks i) x=true->L x
theorem Jt{L:Nat->Prop}(hD:aaR (eC ops.toList 0 []) L){j:Nat}{o:Oper}(ho:ops[j]?=some o)(hb:md j (iM o.after.toList)=true)(hr:∀d,d∈iM o.after.toList->L d):
  ∀x,Nat.testBit (fq (eC ops.toList 0 []) j) x=true->L x:=by
 intro x hx;have:=re ops.toList 0 [] j o (by simp_all) (by simp_all) x (by simp_all);obtain⟨d,h1,h2⟩:=this;rcases h2 with rfl|h2
 ·simp_all
 ·exact hD d (hr d h1) x h2
end
def Ns(q r:Rec):Prop:=∃id,(q.wr.Holds id/\r.vis.Holds id)\/(r.wr.Holds id/\q.vis.Holds id)\/(q.wr.Holds id/\r.wr.Holds id)
structure RunData(call:cA)(ds:List DOper)(k:Nat)(hs:Nat->AHeap)(Fs:Nat->Fr)(vs:Nat->AV)(rc:Nat->Rec):Prop where
 one:∀j d,ds[j]?=some d->FU call (Fs (k+j)) (hs (k+j)) d=some (vs (k+j),hs (k+j+1),rc (k+j))
 put:∀j d,ds[j]?=some d->je (Fs (k+j)) d.r.dst (vs (k+j))=some (Fs (k+j+1))
 ord:∀j d,ds[j]?=some d->∀i,i<k+j->Ns (rc i) (rc (k+j))->Nat.testBit d.mask i=true
section
variable{call:cA}
theorem tD{mask:Nat}{r:Rec}:∀{qs:List Rec},l0 mask r qs qs.length=true->∀i q,qs[i]?=some q->Ns q r->Nat.testBit mask (qs.length-1-i)=true
 |[],_,i,q,h,_=>by simp_all
 | p::ps,e,i,q,h,hc=>by
  simp only[l0,cO,Nat.add_sub_cancel,bZ,ud,Bool.not_eq_true']at e
  match i,h with
  |0,h=>
   simp at h;subst h;rcases e.1 with e1|e1
   ·exfalso;simp only[uc]at e1;obtain⟨⟨e2,e3⟩,e4⟩:=e1;obtain⟨id,hc|hc|hc⟩:=hc;all_goals grind[FH]
   simp_all
  |i+1,h=>
   have:=tD e.2 i q (by simp_all) hc;grind
def gw(rc:Nat->Rec):Nat->List Rec
 |0=>[]
 |k+1=>rc k::gw rc k
theorem nh(rc:Nat->Rec):∀k,(gw rc k).length=k
 |0=>rfl
 |k+1=>by simp[gw,nh rc k]
theorem tf(rc:Nat->Rec):∀(k i:Nat),i<k->(gw rc k)[k-1-i]?=some (rc i)
 |0,i,h=>by omega
 |k+1,i,h=>by
  simp only[gw];rcases gQ i k with h1|h1
  ·rw[show k+1-1-i=(k-1-i)+1 by omega];simpa using tf rc k i h1
  grind
theorem pi{rc rc':Nat->Rec}:∀{k:Nat},(∀i,i<k->rc i=rc' i)->gw rc k=gw rc' k
 |0,_=>rfl
 |k+1,h=>by simp only[gw];rw[h k (by omega),pi (fun i hi=>h i (by omega))]
theorem yQ:∀(ds:List DOper)(k:Nat)(hs0:Nat->AHeap)(Fs0:Nat->Fr)(vs0:Nat->AV)(rc0:Nat->Rec)(s':St),(rF ds).run call (Fs0 k) (hs0 k) (gw rc0 k) k=some s'->
  ∃hs Fs vs rc,(∀i,i<=k->hs i=hs0 i/\Fs i=Fs0 i)/\(∀i,i<k->vs i=vs0 i/\rc i=rc0 i)/\RunData call ds k hs Fs vs rc/\s'=⟨Fs (k+ds.length),hs (k+ds.length)⟩
 |[],k,hs0,Fs0,vs0,rc0,s',e=>by
  simp[rF]at e;refine⟨hs0,Fs0,vs0,rc0,fun _ _=>⟨rfl,rfl⟩,fun _ _=>⟨rfl,rfl⟩,⟨fun j d h=>by simp_all,fun j d h=>by simp_all,fun j d h=>by simp_all⟩,by simp_all⟩
 | d::r,k,hs0,Fs0,vs0,rc0,s',e=>by
  simp only[rF]at e;cases ho:FU call (Fs0 k) (hs0 k) d with
  |none=>grind[SI]
  | some res=>
   obtain⟨v,h',rec⟩:=res;rw[ho]at e;simp only[SI]at e;split at e
   ·rename_i hcl;cases hp:je (Fs0 k) d.r.dst v with
    |none=>simp_all
    | some F'=>
     rw[hp]at e;simp only[]at e;let hs1:Nat->AHeap:=fun i=>if i=k+1 then h' else hs0 i
     let Fs1:Nat->Fr:=fun i=>if i=k+1 then F' else Fs0 i
     let vs1:Nat->AV:=fun i=>if i=k then v else vs0 i
     let rc1:Nat->Rec:=fun i=>if i=k then rec else rc0 i
     have er:rec::gw rc0 k=gw rc1 (k+1):=by grind[gw,pi]
     have e2:(rF r).run call (Fs1 (k+1)) (hs1 (k+1)) (gw rc1 (k+1)) (k+1)=some s':=by grind
     obtain⟨hs,Fs,vs,rc,a1,a2,a3,a4⟩:=yQ r (k+1) hs1 Fs1 vs1 rc1 s' e2;have hk:=a1 k (by omega);have hk1:=a1 (k+1) (by omega);have hvk:=a2 k (by omega);simp only[hs1,Fs1,show ¬k=k+1 by omega,if_false,if_true]at hk hk1;simp only[vs1,rc1,if_true]at hvk;refine⟨hs,Fs,vs,rc,fun i hi=>?_,fun i hi=>?_,⟨fun j d' hj=>?_,fun j d' hj=>?_,fun j d' hj i hi hc=>?_⟩,?_⟩
     ·grind
     ·grind
     ·match j,hj with
      |0,hj=>simp_all
      |j+1,hj=>grind[cases RunData]
     ·match j,hj with
      |0,hj=>simp_all
      |j+1,hj=>grind[cases RunData]
     ·match j,hj with
      |0,hj=>
       simp at hj;subst hj;simp only[qj]at hi hc;have hri:=(a2 i (by omega)).2;simp only[rc1,show ¬i=k by omega,if_false]at hri;rw[hri,hvk.2]at hc;have hcl':l0 d.mask rec (gw rc0 k) (gw rc0 k).length=true:=by grind[nh]
       have:=tD hcl' (k-1-i) (rc0 i) (tf rc0 k i hi) hc;grind[nh]
      |j+1,hj=>grind[cases RunData]
     grind
   simp_all
end
structure Reg(P:Program)(G:fy)(call:cA)(ops:Array Oper)(N:Nat)(hs:Nat->AHeap)(Fs:Nat->Fr)(vs:Nat->AV)(rc:Nat->Rec):Prop where
 small:N<=60000
 n0:(Fs 0).n=N
 t0:∀t u,(Fs 0).get t=some u->t<N
 big:(hs ops.size).n<=1000000
 spec:∀j o,ops[j]?=some o->DSpec P G ops o (o.looksAt ops) (Fs j) (hs j) (vs j) (hs (j+1)) (rc j)
 put:∀j o,ops[j]?=some o->je (Fs j) o.dst (vs j)=some (Fs (j+1))
 ord:∀j o,ops[j]?=some o->∀i,i<j->Ns (rc i) (rc j)->Nat.testBit (fq (eC ops.toList 0 []) j) i=true
 below:∀j o,ops[j]?=some o->md j (iM o.after.toList)=true
 looks:∀j o,ops[j]?=some o->sY (eC ops.toList 0 []) (iM o.after.toList) (o.looksAt ops) j ops.toList 0=true
 dsts:∀(i j:Nat)(oi oj:Oper)(t:Tmp),ops[i]?=some oi->ops[j]?=some oj->oi.dst=some t->oj.dst=some t->i=j
structure Inv(P:Program)(G:fy)(ops:Array Oper)(N:Nat)(hs:Nat->AHeap)(Fs:Nat->Fr)(vs:Nat->AV)(rc:Nat->Rec)(h0:AHeap)(pl0:Pl)(M0:dT)(w0:World)(L:Nat->Prop)(a:Act)(w:World):Prop where
 down:aaR (eC ops.toList 0 []) L
 ex:∃pl M g,RepF pl M (hs ops.size).n g w/\StepF h0.n h0.get pl0 M0 w0 g pl M w/\
  (∀id m o,m<=ops.size->(∀i,i<m->(rc i).wr.Holds id->L i)->(∀i,m<=i->i<ops.size->(rc i).wr.Holds id->¬L i)->(hs m).get id=some o->g id=some o)/\
  (∀j,j<ops.size->¬L j->∀id,(hs j).n<=id->id<(hs (j+1)).n->pl id=none)/\
  (∀j o t,ops[j]?=some o->L j->o.dst=some t->VRel pl M (vs j) (a.tmps.getD t undef))/\
  (∀t u,(∀i o,ops[i]?=some o->L i->o.dst≠some t)->(Fs 0).get t=some u->VRel pl M u (a.tmps.getD t undef))
 size:a.tmps.size=N
 defers:a.defers=[]
section
variable{P:Program}{G:fy}{call:cA}{ops:Array Oper}{N:Nat}{hs:Nat->AHeap}{Fs:Nat->Fr}{vs:Nat->AV}{rc:Nat->Rec}{h0:AHeap}{pl0:Pl}{M0:dT}{w0:World}{L:Nat->Prop}{a:Act}{w:World}
theorem Reg.get{j:Nat}(hj:j<ops.size):∃o,ops[j]?=some o:=⟨ops[j],by simp_all⟩
theorem Reg.mono(R:Reg P G call ops N hs Fs vs rc){i:Nat}:∀{j:Nat},i<=j->j<=ops.size->(hs i).n<=(hs j).n
 |0,h,_=>by simp_all
 |j+1,h,hj=>by
  rcases gQ i (j+1)with h1|h1
  ·obtain⟨o,ho⟩:=Reg.get (ops:=ops) (j:=j) (by omega);exact bu (R.mono (by omega) (by omega)) (R.spec j o ho).le
  grind
theorem Xl{A A':Fr}{dst:Option Tmp}{v:AV}(e:je A dst v=some A'):A'.n=A.n:=by
 cases dst with
 |none=>grind[je]
 |some d=>grind[je,Fr.put]
theorem Reg.frame(R:Reg P G call ops N hs Fs vs rc):∀(j:Nat),j<=ops.size->(Fs j).n=N/\∀t u,(Fs j).get t=some u->t<N/\
  ((∃i o,i<j/\ops[i]?=some o/\o.dst=some t/\u=vs i)\/((∀i o,i<j->ops[i]?=some o->o.dst≠some t)/\(Fs 0).get t=some u))
 |0,_=>⟨R.n0,fun t u h=>⟨R.t0 t u h,.inr ⟨fun i o h=>by omega,h⟩⟩⟩
 | j+1,hj=>by
  obtain⟨o,ho⟩:=Reg.get (ops:=ops) (j:=j) (by omega);obtain⟨k1,k2⟩:=R.frame j (by omega);have hp:=R.put j o ho;refine⟨by grind[Xl],fun t u ht=>?_⟩;have old:(Fs j).get t=some u->o.dst≠some t->t<N/\((∃i o,i<j+1/\ops[i]?=some o/\o.dst=some t/\u=vs i)\/((∀i o,i<j+1->ops[i]?=some o->o.dst≠some t)/\(Fs 0).get t=some u)):=by grind
  cases hd:o.dst with
  |none=>grind[je]
  |some d=>
   rw[hd]at hp;simp only[je]at hp;obtain⟨_,q2,q3⟩:=Fr.get_put (by grind[cases Reg]) hp ht;grind
end
section
variable{P:Program}{G:fy}{call:cA}{ops:Array Oper}{N:Nat}{hs:Nat->AHeap}{Fs:Nat->Fr}{vs:Nat->AV}{rc:Nat->Rec}{h0:AHeap}{pl0:Pl}{M0:dT}{w0:World}{L:Nat->Prop}{a:Act}{w:World}
theorem Reg.maskLow(R:Reg P G call ops N hs Fs vs rc):∀(n i:Nat),i<n->∀o,ops[i]?=some o->∀x,Nat.testBit (fq (eC ops.toList 0 []) i) x=true->x<i
 |0,i,h,_,_,_,_=>by omega
 |n+1,i,h,o,ho,x,hx=>by
  have hb:=R.below i o ho;have:=re ops.toList 0 [] i o (by simp_all) (by simp_all) x (by simp_all);obtain⟨d,h1,h2⟩:=this;have hd:=mc hb d h1;rcases h2 with rfl|h2
  ·omega
  ·have hlt:=(sI.1 ho).1;obtain⟨o',ho'⟩:=Reg.get (ops:=ops) (j:=d) (by omega);have:=R.maskLow n d (by omega) o' ho' x h2;omega
theorem tI{masks:List (Nat×Nat)}{deps:List Nat}{look:List Tmp}{j:Nat}:∀{l:List Oper}{i:Nat},sY masks deps look j l i=true->∀(k:Nat)(o:Oper)(t:Tmp),l[k]?=some o->o.dst=some t->t∈look->
  i+k=j\/i+k∈deps\/Nat.testBit (fq masks (i+k)) j=true
 |[],_,_,k,o,t,h,_,_=>by simp_all
 | o'::r,i,e,k,o,t,h,hd,ht=>by
  simp only[sY,bZ]at e
  match k,h with
  |0,h=>
   simp at h;subst h;have e1:=e.1;rw[hd]at e1;simp only[ud,Bool.not_eq_true',o6,aB,decide_eq_true_eq]at e1;rcases e1 with((e1|e1)|e1)|e1
   ·have:jq t look=true:=o6.2 ht;grind
   all_goals simp_all
  |k+1,h=>
   have:=tI e.2 k o t (by simp_all) hd ht;grind
theorem Reg.back(R:Reg P G call ops N hs Fs vs rc){id:Nat}{o:AObj}{j:Nat}:∀(m:Nat),j<=m->m<=ops.size->(∀i,j<=i->i<m->¬(rc i).wr.Holds id)->(hs m).get id=some o->(hs j).get id=some o
 |0,h,_,_,e=>by simp_all
 |m+1,h,hm,hn,e=>by
  rcases gQ j (m+1)with h1|h1
  ·obtain⟨o',ho'⟩:=Reg.get (ops:=ops) (j:=m) (by omega);exact R.back m (by omega) (by omega) (fun i h2 h3=>hn i h2 (by omega)) ((R.spec m o' ho').keep id o (hn m (by omega) (by omega)) e)
  grind
theorem GR{t d:Nat}{x:Value}{dst:Option Tmp}(h:dst≠some t):(a.put dst x).tmps.getD t undef=a.tmps.getD t undef:=by
 cases dst with
 |none=>rfl
 |some d=>simp_all[Act.put]
theorem Cq{t:Nat}{x:Value}(h:t<a.tmps.size):(a.put (some t) x).tmps.getD t undef=x:=by simp[Act.put,iJ,h]
theorem Qg{dst:Option Tmp}{x:Value}:(a.put dst x).tmps.size=a.tmps.size:=by cases dst<;>simp[Act.put]
theorem JA{dst:Option Tmp}{x:Value}:(a.put dst x).defers=a.defers:=by cases dst<;>simp[Act.put]
theorem Inv.step(R:Reg P G call ops N hs Fs vs rc)(hG:qr G pl0 M0)(hdom:∀id p,pl0 id=some p->id<h0.n)(hh0:h0.n<=(hs 0).n)
  (I:Inv P G ops N hs Fs vs rc h0 pl0 M0 w0 L a w){j:Nat}{o:Oper}(ho:ops[j]?=some o)(hnL:¬L j)(hrd:∀d,d∈iM o.after.toList->L d)
  {K:Act->World->Prop}{Q:Exit->Act->World->Prop}(hK:∀a' w',Inv P G ops N hs Fs vs rc h0 pl0 M0 w0 (fun i=>i=j\/L i) a' w'->K a' w'):wpOp P ops Q j K a w:=by
 obtain⟨hdown,⟨pl,M,g,hr,hst,hV,hU,hF1,hF2⟩,hsz,hdf⟩:=I;have hj:j<ops.size:=(sI.1 ho).1;have hmask:=Jt hdown ho (R.below j o ho) hrd;have hn0:h0.n<=(hs j).n:=bu hh0 (R.mono (b8 _) (by omega));obtain⟨hfn,hfr⟩:=R.frame j (by omega);have later:∀i o',ops[i]?=some o'->Nat.testBit (fq (eC ops.toList 0 []) i) j=true->¬L i:=fun i o' _ hb hL=>hnL (hdown i hL j hb)
 unfold wpOp;rw[ho];simp only[];refine(R.spec j o ho).exec (hs ops.size).n h0.n g pl M a w K Q hn0 (R.mono (by omega) (af _)) R.big hr ?_ ?_ ?_ ?_ hdf ?_ ?_
 ·intro id o' hv hg;refine hV id j o' (by omega) (fun i hi hw=>?_) (fun i hi hi2 hw=>?_) hg
  ·exact hmask i (R.ord j o ho i hi ⟨id,.inl ⟨hw,hv⟩⟩)
  ·rcases gQ j i with h1|h1
   ·obtain⟨oi,hoi⟩:=Reg.get (ops:=ops) hi2;exact later i oi hoi (R.ord i oi hoi j h1 ⟨id,.inr (.inl ⟨hw,hv⟩)⟩)
   grind
 ·grind
 ·refine hG.mono (fun id p hp=>?_) hst.mem;obtain⟨p',k1,k2⟩:=hst.ext id p hp;exact⟨p',aT.2 ⟨by grind,k1⟩,k2⟩
 ·omega
 ·intro t u ht hu;obtain⟨k1,k2⟩:=hfr t u hu;refine⟨by simp_all,?_⟩;rcases k2 with⟨i,oi,q1,q2,q3,q4⟩|⟨q1,q2⟩
  ·subst q4;rcases tI (R.looks j o ho) i oi t (by simp_all) q3 ht with z|z|z
   ·omega
   ·grind
   ·have:=R.maskLow (i+1) i (by omega) oi q2 j (by simp_all);omega
  ·refine hF2 t u (fun i oi hoi hLi hd=>?_) q2;rcases gQ i j with h1|h1
   ·grind
   ·rcases tI (R.looks j o ho) i oi t (by simp_all) hd ht with z|z|z
    all_goals grind[mc,cases Reg]
 ·intro cv w' pl' M' g' r1 r2 r3 r4 r5 r6 r7;refine hK _ _ ⟨fun i hi x hx=>?_,⟨pl',M',g',r1,hst.trans r2 (af _),?_,?_,?_,?_⟩,by grind[Qg],by grind[JA]⟩
  ·rcases hi with rfl|hi
   ·simp_all
   ·exact .inr (hdown i hi x hx)
  ·intro id m o' hm ha hb hg;by_cases hw:(rc j).wr.Holds id
   ·have hjm:j<m:=by grind
    refine r7 id o' hw (R.back m (by omega) hm (fun i h1 h2 hwi=>?_) hg);obtain⟨oi,hoi⟩:=Reg.get (ops:=ops) (j:=i) (by omega);rcases ha i h2 hwi with rfl|hLi
    ·omega
    ·exact later i oi hoi (R.ord i oi hoi j (by omega) ⟨id,.inr (.inr ⟨hw,hwi⟩)⟩) hLi
   grind
  ·intro k hk hnk id h1 h2;have hkj:k≠j:=fun e=>hnk (.inl e)
   refine r5 id (hU k hk (fun h=>hnk (.inr h)) id h1 h2) ?_;rcases gQ k j with h3|h3
   ·have:=R.mono (i:=k+1) (j:=j) (by omega) (by omega);omega
   ·have:=R.mono (i:=j+1) (j:=k) (by omega) (by omega);omega
  ·intro k ok t hok hLk hd;by_cases e:k=j
   ·subst e;rw[ho]at hok;cases hok
    rw[hd];have hlt:t<a.tmps.size:=by
     have hp:=R.put k o ho;rw[hd]at hp;simp only[je,Fr.put]at hp;split at hp;all_goals simp_all
    grind[Cq]
   ·have hLk:L k:=hLk.resolve_left e;rw[GR (d:=0) fun h=>e (R.dsts k j ok o t hok ho hd h)];exact(hF1 k ok t hok hLk hd).mono r4 r2.mem
  ·intro t u hno hu;rw[GR (d:=0) (hno j o ho (.inl rfl))];exact(hF2 t u (fun i oi hoi hLi=>hno i oi hoi (.inr hLi)) hu).mono r4 r2.mem
end
section
variable{P:Program}{G:fy}{call:cA}{ops:Array Oper}{N:Nat}{hs:Nat->AHeap}{Fs:Nat->Fr}{vs:Nat->AV}{rc:Nat->Rec}{h0:AHeap}{pl0:Pl}{M0:dT}{w0:World}{L:Nat->Prop}{a:Act}{w:World}
theorem Reg.all_listed(R:Reg P G call ops N hs Fs vs rc){listed:Array Bool}(hl:listed.size=ops.size)(h:Region.ready .any ops listed=[]):∀(n j:Nat),j<n->j<ops.size->listed.getD j false=true
 |0,j,h1,_=>by omega
 | n+1,j,h1,h2=>by
  obtain⟨o,ho⟩:=Reg.get (ops:=ops) h2;cases hv:listed.getD j false with
  |true=>rfl
  | false=>
   exfalso;have:j∈Region.ready .any ops listed:=by
    refine mem_ready.2 ⟨?_,o,ho,fun e he hb=>?_⟩
    ·simp_all
    ·have hd:=mc (R.below j o ho) e.on (qW.2 ⟨e,by simp_all,hb,rfl⟩);exact R.all_listed hl h n e.on (by omega) (by omega)
   simp_all
theorem Inv.last(R:Reg P G call ops N hs Fs vs rc)(I:Inv P G ops N hs Fs vs rc h0 pl0 M0 w0 L a w)(hall:∀j,j<ops.size->L j):
  ∃pl M,cN pl M (hs ops.size) w/\dQ h0 pl0 M0 w0 (hs ops.size) pl M w/\FrRel pl M (Fs ops.size) a:=by
 obtain⟨hdown,⟨pl,M,g,hr,hst,hV,hU,hF1,hF2⟩,hsz,hdf⟩:=I;have key:∀id o,(hs ops.size).get id=some o->g id=some o:=fun id o hg=>hV id ops.size o (af _) (fun i hi _=>hall i hi) (fun i h1 h2=>by omega) hg
 obtain⟨hfn,hfr⟩:=R.frame ops.size (af _);refine⟨pl,M,⟨hr.dom,fun id p o hp hg=>hr.obj id p o hp (key id o hg),hr.blk,hr.inj,hr.imm,hr.sep⟩,⟨hst.ext,hst.new,hst.mem,hst.size,hst.kept,hst.blks,fun id p hp hg=>?_,hst.stay,hst.memNew,hst.os,hst.tape,hst.out,hst.drawn⟩,⟨by omega,hdf,fun t u ht=>?_⟩⟩
 ·cases hh:(hs ops.size).get id with
  |none=>rfl
  |some o=>grind[cases StepF]
 grind
theorem Tv(R:Reg P G call ops N hs Fs vs rc)(hG:qr G pl0 M0)(hdom:∀id p,pl0 id=some p->id<h0.n)(hh0:h0.n<=(hs 0).n){Q:Exit->Act->World->Prop}
  (hQ:∀a1 w1,(∃pl M,cN pl M (hs ops.size) w1/\dQ h0 pl0 M0 w0 (hs ops.size) pl M w1/\FrRel pl M (Fs ops.size) a1)->Q .normal a1 w1):
  ∀(fuel:Nat)(listed:Array Bool)(a:Act)(w:World),listed.size=ops.size->listed.count false<=fuel->Inv P G ops N hs Fs vs rc h0 pl0 M0 w0 (fun j=>listed.getD j false=true) a w->wpAny P .any ops Q fuel listed a w:=by
 intro fuel;induction fuel with
 | zero=>
  intro listed a w hl hc I;have hall:∀j,j<ops.size->listed.getD j false=true:=by
   intro j hj;have hlt:j<listed.size:=by omega
   cases hv:listed[j]with
   |true=>simp_all
   |false=>grind[Array.getElem_mem]
  refine⟨?_,hQ a w (I.last R hall)⟩;refine List.eq_nil_iff_forall_not_mem.2 fun j hj=>?_
  obtain⟨h1,o,ho,_⟩:=mem_ready.1 hj;grind
 | succ fuel ih=>
  intro listed a w hl hc I;refine⟨fun h=>hQ a w (I.last R fun j hj=>R.all_listed hl h (j+1) j (by omega) hj),fun j hj=>?_⟩;obtain⟨h1,o,ho,h2⟩:=mem_ready.1 hj;have hlt0:j<ops.size:=(sI.1 ho).1;have hlt:j<listed.size:=by omega
  have hf:listed[j]=false:=by simp_all
  refine I.step R hG hdom hh0 ho (by simp_all) (fun d hd=>?_) fun a' w' I'=>?_
  ·obtain⟨e,he,hb,rfl⟩:=qW.1 hd;simp_all
  ·refine ih _ a' w' (by simp_all) ?_ ?_
   ·grind
   ·have e:(fun i=>i=j\/listed.getD i false=true)=fun i=>(listed.setIfInBounds j true).getD i false=true:=by
     funext i;apply propext;by_cases q:j=i
     ·simp_all
     ·rw[getD_set_ne false q];grind
    simp_all
theorem pm{masks:List (Nat×Nat)}:∀{l:List Oper}{i:Nat}{ds:List DOper},ni P G ops masks l i=some ds->ds.length=l.length/\∀(k:Nat)(o:Oper),l[k]?=some o->
  md (i+k) (iM o.after.toList)=true/\sY masks (iM o.after.toList) (o.looksAt ops) (i+k) ops.toList 0=true/\
  ds[k]?=some ⟨b0 P G ops o,o.looksAt ops,dG o.op,dK o.op,fq masks (i+k)⟩
 |[],i,ds,e=>by simp[ni]at e;simp_all
 | o'::r,i,ds,e=>by
  simp only[ni]at e;split at e
  ·rename_i hck;simp only[bZ]at hck;cases hr:ni P G ops masks r (i+1)with
   |none=>simp_all
   |some l=>
    rw[hr]at e;simp at e;subst e;obtain⟨h1,h2⟩:=pm hr;grind
  simp_all
theorem wH:∀{l:List Oper},Be l=true->∀(i j:Nat)(oi oj:Oper)(t:Tmp),l[i]?=some oi->l[j]?=some oj->oi.dst=some t->oj.dst=some t->i=j
 |[],_,i,j,oi,oj,t,h,_,_,_=>by simp at h
 | o::r,e,i,j,oi,oj,t,hi,hj,h1,h2=>by
  simp only[Be,bZ]at e;have Bt:∀(k:Nat)(q:Oper),r[k]?=some q->o.dst=some t->q.dst=some t->False:=by
   intro k q hk a b;have e1:=e.1;rw[a]at e1;have:=kX.1 e1 q (bH hk);rw[b]at this;simp[aB]at this
  match i,j,hi,hj with
  |0,0,_,_=>rfl
  |0,j+1,hi,hj=>simp at hi;subst hi;exact(Bt j oj (by simpa using hj) h1 h2).elim
  |i+1,0,hi,hj=>simp at hj;subst hj;exact(Bt i oi (by simpa using hi) h2 h1).elim
  |i+1,j+1,hi,hj=>rw[wH e.2 i j oi oj t (by simpa using hi) (by simpa using hj) h1 h2]
theorem VP(hm:P.follows .mixedOrders=true)(hc:cL P G call):FN P G call:=by
 intro N h0 pl0 M0 w0 ops id s s' a w Q e hsn hQ;unfold FV at e;split at e
 ·rename_i hck;simp only[bZ]at hck;split at e
  ·rename_i _ ds hrd;have e:uE ((rF ds).run call s.tmps s.heap [] 0)=some s':=e;obtain⟨⟨pl,M,g1,g2,g3,g4,g5⟩,hn,hsm⟩:=hsn;cases hgo:(rF ds).run call s.tmps s.heap [] 0 with
   |none=>grind[uE]
   | some s1=>
    rw[hgo]at e;simp only[uE]at e;split at e
    ·rename_i hbig;simp at e;subst e;rw[ba]at hbig;simp only[decide_eq_true_eq]at hbig;obtain⟨hs,Fs,vs,rc,a1,_,D,rfl⟩:=yQ (call:=call) ds 0 (fun _=>s.heap) (fun _=>s.tmps) (fun _=>gF) (fun _=>⟨⟨false,[],0,0⟩,⟨false,[],0,0⟩⟩) s1 hgo;obtain⟨e1,e2⟩:=a1 0 (af _);obtain⟨hlen,hget⟩:=pm hrd;have hlen:ds.length=ops.size:=by omega
     rw[gn,hlen]at hQ hbig;have R:Reg P G call ops N hs Fs vs rc:=by
      refine⟨hsm,by simp_all,fun t u h=>?_,hbig,fun j o ho=>?_,fun j o ho=>?_,fun j o ho i hi hcl=>?_,fun j o ho=>?_,fun j o ho=>?_,fun i j oi oj t hi hj=>wH hck.1 i j oi oj t (by simp_all) (by simp_all)⟩
      ·grind[cases FrRel]
      ·obtain⟨_,_,h3⟩:=hget j o (by simp_all);have h4:=D.one j _ h3;simp only[gn]at h4;exact Nz hc rfl rfl h4
      ·obtain⟨_,_,h3⟩:=hget j o (by simp_all);have h4:=D.put j _ h3;simp only[gn]at h4;exact h4
      ·obtain⟨_,_,h3⟩:=hget j o (by simp_all);have h4:=D.ord j _ h3 i (by omega);simp_all
      all_goals simp_all
     refine wp_region_any hm (Tv R (h0:=s.heap) (pl0:=pl) (M0:=M) (w0:=w) g1 g2.dom (by simp_all) (fun a1 w1 h1=>?_) ops.size _ a _ (by simp) ?_ ?_)
     ·obtain⟨pl1,M1,k1,k2,k3⟩:=h1;refine hQ a1 w1 ⟨⟨pl1,M1,g1.mono k2.ext k2.mem,k1,k3,g4.trans k2 g5,?_⟩,(R.frame ops.size (af _)).1,hsm⟩;have:=R.mono (b8 ops.size) (af _);grind
     ·simp_all
     ·have hno:∀j,¬(Array.replicate ops.size false).getD j false=true:=by simp_all[Array.getD]
      refine⟨fun i hi=>absurd hi (hno i),⟨pl,M,s.heap.get,?_,?_,fun id m o hm ha _ hg=>?_,fun j hj _ id h1 h2=>?_,fun j o t _ h=>absurd h (hno j),fun t u _ hu=>?_⟩,by rw[g3.size];omega,g3.defers⟩
      ·refine⟨fun id p hp=>?_,g2.obj,g2.blk,g2.inj,g2.imm,g2.sep⟩;have h1:=g2.dom id p hp;have:=R.mono (b8 ops.size) (af _);grind
      ·exact⟨n8.refl _,fun _ _ h=>h,fun _ _ h=>h,af _,fun _ _ _=>rfl,fun id p h=>.inl ⟨p,h,rfl⟩,fun _ _ _ h=>h,fun _ _ h _=>h,fun _ _ h=>.inl h,rfl,rfl,rfl,n9 _⟩
      ·have:=R.back (j:=0) m (b8 _) hm (fun i _ h2 hw=>hno i (ha i h2 hw)) hg;simp_all
      ·cases hp:pl id with
       |none=>rfl
       |some p=>
        have h3:=g2.dom id p hp;have:=R.mono (b8 j) (by omega);grind
      grind[cases FrRel]
    simp_all
  simp_all
 simp_all
end
theorem WL{C:Cfg}(hN:Wg C.P)(hm:C.P.follows .mixedOrders=true)(hH:LK C)(k:Nat):cL C.P C.G (jz C k):=Dp hN hH (fun _ hc=>VP hm hc) k
end Go.Ev
