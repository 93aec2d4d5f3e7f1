/- An abstract machine for closed runs and for walks, proved sound against the model: part 3 of 6. No conditions. -/
import Derived.Test.YtbkijjplgkojcaaGreatDoorMach2
import Derived.MapKept
import Derived.Scope
import Derived.LoopN
import Derived.Orders

namespace Go.Ev
open Go
section
variable {P : Program} {G : Env} {pl : Pl} {M : Mem} {h h' : AHeap} {w w' : World} {v : AV} {A : Fr} {a : Act}
theorem checkKey_leaves (em:Bool) {vx:Array Value} : ∀ (n:Nat) (t:TypeId) (off:Nat) (ls:List (Nat × Nat)) (cx:Value) (d sz:Nat) (w:World),
  leaves P n t off=some ls→szOf P t=some sz→off+sz≤vx.size→AtOff P t vx off cx→(Instr.checkKey em (d+n) t cx).run P w = .ok () w
 | 0,_,_,_,_,_,_,_,e,_,_,_=>by simp [leaves] at e
 | n+1,t,off,ls,cx,d,sz,w,e,hsz,hlx,hcx=>by
  rcases leaves_cases e with ⟨fs,sz',hu,hs',hst,hl⟩ | ⟨dd,k,hu,hs1,hk,rfl⟩
  ·rw [hsz] at hs'
   simp at hs'
   subst hs'
   simp only [AtOff,isAgg_struct hu,hsz,Option.getD_some] at hcx
   obtain ⟨ex,rfl,hex⟩:=hcx
   rw [show d+(n+1)=(d+n)+1 by omega,Instr.checkKey]
   simp only [Sem.run_bind,run_underlying hu,Result.andThen_ok]
   rw [← Array.forIn_toList]
   generalize fs.toList=fl at hl
   clear hu e
   induction fl generalizing ls with
   | nil=>simp
   | cons f r ih=>
    obtain ⟨hname,s,a1,b1,g1,g2,g3,g4,rfl⟩:=leavesF_cons hl
    have hag : ∃ ag,isAggB P f.type=some ag∧(ag=false→s=1):=by
     cases n with
     | zero=>simp [leaves] at g2
     | succ n=>
      rcases leaves_cases g2 with ⟨fs2,sz2,k1,k2,k3,k4⟩ | ⟨d2,k2,k3,k4,k5,k6⟩
      ·exact ⟨true,isAgg_struct k1,fun h=>by cases h⟩
      ·rw [g1] at k4;simp at k4;exact ⟨false,isAgg_tag k3 k5,fun _=>k4⟩
    obtain ⟨ag,q1,q2⟩:=hag
    obtain ⟨cvx,r1,r2⟩:=part_atOff (P:=P) (vx:=vx) q1 g1 q2 g4 hex (fun k hk=>by rw [Array.getElem?_eq_getElem (by omega)];rfl) w
    simp only [List.forIn_cons,Sem.run_bind,hname,ne_eq,not_false_eq_true,if_true,Result.andThen_ok,r1,checkKey_leaves em n f.type (off+f.offset) a1 cvx d s w g2 g1 (by omega) r2,Sem.run_pure]
    exact ih b1 g3
  ·rw [show d+(n+1)=(d+n)+1 by omega,Instr.checkKey]
   simp only [Sem.run_bind,run_underlying hu,Result.andThen_ok]
   rcases tagOf_some hk with ⟨rfl,_⟩ | ⟨i,rfl,_⟩ | ⟨rfl,_⟩ <;> simp
theorem leaves_isAgg {n:Nat} {t:TypeId} {ag:Bool} {ls:List (Nat × Nat)} (ha:isAggB P t=some ag) (e:leaves P n t 0=some ls) :
  (ag=true∧∃ fs,P.underlying t=some (.struct fs))∨(ag=false∧∃ d k,P.underlying t=some d∧szOf P t=some 1∧tagOf d=some k∧ls = [(0,k)]):=by
 cases n with
 | zero=>simp [leaves] at e
 | succ n=>
  rcases leaves_cases e with ⟨fs,sz',hu,_⟩ | ⟨dd,k,hu,hs1,hk,h9⟩
  ·rw [isAgg_struct hu] at ha;simp at ha;exact .inl ⟨ha,fs,hu⟩
  ·rw [isAgg_tag hu hk] at ha;simp at ha;exact .inr ⟨ha,dd,k,hu,hs1,hk,h9⟩
structure KeyT (P:Program) (kt:TypeId) (ag:Bool) (sz:Nat) (lv:List (Nat × Nat)):Prop where
 ag:isAggB P kt=some ag
 sz:szOf P kt=some sz
 lv:leaves P 10 kt 0=some lv
theorem keyR_check {kt:TypeId} {ag:Bool} {sz:Nat} {lv:List (Nat × Nat)} (hk:KeyT P kt ag sz lv) {k:AV} {ck:Value} (hr:VRel pl M k ck) (e:keyR ag sz k=true) (em:Bool) (w:World) :
  (Instr.checkKey em 10000 kt ck).run P w = .ok () w:=by
 rcases leaves_isAgg hk.ag hk.lv with ⟨rfl,fs,hu⟩ | ⟨rfl,d,t,hu,h1,h2,h3⟩
 ·cases k <;> simp [keyR,beq_iff] at e
  cases hr with
  | agg h1 h2 h3=>exact checkKey_leaves em 10 kt 0 lv _ 9990 sz w hk.lv hk.sz (by omega) (atOff_whole hu)
 ·rw [show (10000:Nat)=9999+1 from rfl,Instr.checkKey]
  simp only [Sem.run_bind,run_underlying hu,Result.andThen_ok]
  rcases tagOf_some h2 with ⟨rfl,_⟩ | ⟨i,rfl,_⟩ | ⟨rfl,_⟩ <;> simp
theorem keyEq_some {ag:Bool} {sz:Nat} {lv:List (Nat × Nat)} {x y:AV} {b:Bool} (e:keyEq ag sz lv x y=some b) :
  (∃ as bs,ag=true∧x = .agg as∧y = .agg bs∧as.length=sz∧bs.length=sz∧eqL as bs lv=some b)∨(∃ o t,ag=false∧lv = [(o,t)]∧eqS t x y=some b):=by
 unfold keyEq at e
 split at e
 ·rename_i as bs
  rw [beq_iff,beq_iff] at e
  by_cases h1:as.length=sz
  ·by_cases h2:bs.length=sz
   ·simp [h1,h2] at e;exact .inl ⟨as,bs,rfl,rfl,rfl,h1,h2,e⟩
   ·simp [h2] at e
  ·simp [h1] at e
 ·exact .inr ⟨_,_,rfl,rfl,e⟩
 ·simp at e
theorem keyEq_ok {kt:TypeId} {ag:Bool} {sz:Nat} {lv:List (Nat × Nat)} (hk:KeyT P kt ag sz lv) {x y:AV} {cx cy:Value} (hx:VRel pl M x cx) (hy:VRel pl M y cy) {b:Bool} (e:keyEq ag sz lv x y=some b) (w:World) :
  (Op.equal kt cx cy).run P w = .ok b w:=by
 rcases keyEq_some e with ⟨as,bs,rfl,rfl,rfl,h1,h2,h3⟩ | ⟨o,t,rfl,rfl,h3⟩
 ·rcases leaves_isAgg hk.ag hk.lv with ⟨_,fs,hu⟩ | ⟨h,_⟩
  ·cases hx with
   | agg a1 a2 a3=>
    cases hy with
    | agg b1 b2 b3=>exact eqL_ok (P:=P) (pl:=pl) (M:=M) ⟨a1,a3⟩ ⟨b1,b3⟩ 10 kt 0 lv _ _ b 9990 sz w hk.lv hk.sz (by omega) (by omega) (atOff_whole hu) (atOff_whole hu) h3
  ·cases h
 ·rcases leaves_isAgg hk.ag hk.lv with ⟨h,_⟩ | ⟨_,d,k,hu,g1,g2,g3⟩
  ·cases h
  ·simp at g3
   obtain ⟨_,rfl⟩:=g3
   exact eqS_ok hx hy h3 hu g2 9999 w
theorem bytes_beq (x y:List UInt8):((⟨⟨x⟩⟩:ByteArray) == ⟨⟨y⟩⟩)=(x == y):=by
 show ((⟨x⟩:Array UInt8) == ⟨y⟩)=_
 rw [Bool.eq_iff_iff];simp
theorem sameNow_ok {d:TypeDesc} {t:Nat} (hd:tagOf d=some t) {x y:AV} {cx cy:Value} (hx:VRel pl M x cx) (hy:VRel pl M y cy) {b:Bool} (e:eqS t x y=some b):Instr.sameNow d cx cy=some b:=by
 unfold eqS at e
 split at e
 ·rw [kindB_eq] at e
  split at e
  ·rename_i hj
   simp at hj e
   subst hj
   cases hx;cases hy
   rcases tagOf_some hd with ⟨_,h0⟩ | ⟨i,rfl,_⟩ | ⟨_,h0⟩
   ·cases h0
   ·simp [Instr.sameNow,← e,eqI_eq]
   ·cases h0
  ·simp at e
 ·simp at e
  cases hx;cases hy
  rcases tagOf_some hd with ⟨_,h0⟩ | ⟨i,rfl,h0⟩ | ⟨rfl,_⟩
  ·cases h0
  ·cases h0
  ·rename_i s1 s2
   simp only [Instr.sameNow,← e,eqB_eq,Option.some.injEq]
   rw [bytes_beq]
 ·simp at e
  cases hx;cases hy
  rcases tagOf_some hd with ⟨rfl,_⟩ | ⟨i,rfl,h0⟩ | ⟨_,h0⟩
  ·simp [Instr.sameNow,← e]
  ·cases h0
  ·cases h0
 ·simp at e
structure EntsRel (pl:Pl) (M:Mem) (es:List AEnt) (ents:List MapEntry):Prop where
 len:es.length=ents.length
 at_ : ∀ (i:Nat) (e:AEnt),es[i]? = some e→∃ e':MapEntry,ents[i]? = some e'∧VRel pl M e.key e'.key∧VRel pl M e.val e'.val∧e'.born=e.born
theorem EntsRel.tail {e:AEnt} {es:List AEnt} {c:MapEntry} {cs:List MapEntry} (h:EntsRel pl M (e::es) (c::cs)):EntsRel pl M es cs:=
 ⟨by have:=h.len;simpa using this,fun i e he=>h.at_ (i+1) e (by simpa using he)⟩
theorem EntsRel.head {e:AEnt} {es:List AEnt} {c:MapEntry} {cs:List MapEntry} (h:EntsRel pl M (e::es) (c::cs)):VRel pl M e.key c.key∧VRel pl M e.val c.val:=by
 obtain ⟨e',h1,h2,h3,_⟩:=h.at_ 0 e rfl
 simp at h1
 subst h1
 exact ⟨h2,h3⟩
def Found (pl:Pl) (M:Mem) (es:List AEnt) (i0:Nat):Option (Nat × AEnt)→Option (Nat × Value)→Prop
 | none,none=>True
 | some (i,e),some (j,cv)=>i=j∧i0≤i∧es[i - i0]? = some e∧VRel pl M e.val cv
 | _,_=>False
theorem Found.cons {e:AEnt} {es:List AEnt} {i:Nat} {r:Option (Nat × AEnt)} {cr:Option (Nat × Value)} (h:Found pl M es (i+1) r cr):Found pl M (e::es) i r cr:=by
 rcases r with _ | ⟨q,en⟩ <;> rcases cr with _ | ⟨j,cv⟩ <;> simp only [Found] at h ⊢
 obtain ⟨rfl,h1,h2,h3⟩:=h
 refine ⟨rfl,by omega,?_,h3⟩
 rw [show q - i=(q - (i+1))+1 by omega]
 simpa using h2
theorem findEnt_cons {ag:Bool} {sz:Nat} {lv:List (Nat × Nat)} {k:AV} {e:AEnt} {es:List AEnt} {i:Nat} {r:Option (Nat × AEnt)} (h:findEnt ag sz lv k (e::es) i=some r) :
  (keyEq ag sz lv k e.key=some true∧r=some (i,e))∨(keyEq ag sz lv k e.key=some false∧findEnt ag sz lv k es (i+1)=some r):=by
 simp only [findEnt] at h
 cases hq:keyEq ag sz lv k e.key with
 | none=>simp [hq,findThen] at h
 | some b => cases b <;> simp [hq,findThen] at h
             ·exact .inr ⟨rfl,h⟩
             ·exact .inl ⟨rfl,h.symm⟩
theorem findAsking_ok {kt:TypeId} {ag:Bool} {sz:Nat} {lv:List (Nat × Nat)} (hk:KeyT P kt ag sz lv) {k:AV} {ck:Value} (hck:VRel pl M k ck) (w:World) :
  ∀ (es:List AEnt) (ents:List MapEntry) (i:Nat) (r:Option (Nat × AEnt)),EntsRel pl M es ents→findEnt ag sz lv k es i=some r→∃ cr,(Instr.findAsking kt ck ents i).run P w = .ok cr w∧Found pl M es i r cr
 | [],ents,i,r,he,h=>by
  have:ents = []:=List.eq_nil_of_length_eq_zero (by have:=he.len;simpa using this.symm)
  subst this
  simp [findEnt] at h
  subst h
  exact ⟨none,rfl,trivial⟩
 | e::es, [],i,r,he,h=>by have:=he.len;simp at this
 | e::es,c::cs,i,r,he,h=>by
  obtain ⟨h1,h2⟩:=he.head
  rcases findEnt_cons h with ⟨k1,rfl⟩ | ⟨k1,k2⟩
  ·refine ⟨some (i,c.val),?_,rfl,Nat.le_refl _,by simp,h2⟩
   simp [Instr.findAsking,keyEq_ok hk hck h1 k1]
  ·obtain ⟨cr,g1,g2⟩:=findAsking_ok hk hck w es cs (i+1) r he.tail k2
   refine ⟨cr,?_,g2.cons⟩
   simp [Instr.findAsking,keyEq_ok hk hck h1 k1,g1]
theorem findNow_ok {ag:Bool} {sz:Nat} {d:TypeDesc} {o t:Nat} (hd:tagOf d=some t) {k:AV} {ck:Value} (hck:VRel pl M k ck) (hag:ag=false) :
  ∀ (es:List AEnt) (ents:List MapEntry) (i:Nat) (r:Option (Nat × AEnt)),EntsRel pl M es ents→findEnt ag sz [(o,t)] k es i=some r→∃ cr,Instr.findNow d ck ents i=some cr∧Found pl M es i r cr
 | [],ents,i,r,he,h=>by
  have:ents = []:=List.eq_nil_of_length_eq_zero (by have:=he.len;simpa using this.symm)
  subst this
  simp [findEnt] at h
  subst h
  exact ⟨none,rfl,trivial⟩
 | e::es, [],i,r,he,h=>by have:=he.len;simp at this
 | e::es,c::cs,i,r,he,h=>by
  obtain ⟨h1,h2⟩:=he.head
  have key : ∀ b,keyEq ag sz [(o,t)] k e.key=some b→Instr.sameNow d ck c.key=some b:=by
   intro b hb
   rcases keyEq_some hb with ⟨as,bs,h0,_⟩ | ⟨o2,t2,_,h3,h4⟩
   ·rw [hag] at h0;cases h0
   ·simp at h3
    obtain ⟨_,rfl⟩:=h3
    exact sameNow_ok hd hck h1 h4
  rcases findEnt_cons h with ⟨k1,rfl⟩ | ⟨k1,k2⟩
  ·refine ⟨some (i,c.val),?_,rfl,Nat.le_refl _,by simp,h2⟩
   simp [Instr.findNow,key _ k1]
  ·obtain ⟨cr,g1,g2⟩:=findNow_ok hd hck hag es cs (i+1) r he.tail k2
   refine ⟨cr,?_,g2.cons⟩
   simp [Instr.findNow,key _ k1,g1]
theorem findKey_ok {kt:TypeId} {ag:Bool} {sz:Nat} {lv:List (Nat × Nat)} (hk:KeyT P kt ag sz lv) {k:AV} {ck:Value} (hck:VRel pl M k ck) (w:World) {es:List AEnt} {ents:List MapEntry} {r:Option (Nat × AEnt)}
  (he:EntsRel pl M es ents) (h:findEnt ag sz lv k es 0=some r) : ∃ cr,(Instr.findKey kt ck ents).run P w = .ok cr w∧Found pl M es 0 r cr:=by
 rcases leaves_isAgg hk.ag hk.lv with ⟨rfl,fs,hu⟩ | ⟨rfl,d,t,hu,h1,h2,h3⟩
 ·cases ents with
  | nil=>
   have:es = []:=List.eq_nil_of_length_eq_zero (by have:=he.len;simpa using this)
   subst this
   simp [findEnt] at h
   subst h
   exact ⟨none,by simp [Instr.findKey,run_underlying hu,Instr.findNow],trivial⟩
  | cons c cs=>
   obtain ⟨cr,g1,g2⟩:=findAsking_ok hk hck w es (c::cs) 0 r he h
   exact ⟨cr,by simp [Instr.findKey,run_underlying hu,Instr.findNow,Instr.sameNow,g1],g2⟩
 ·subst h3
  obtain ⟨cr,g1,g2⟩:=findNow_ok h2 hck rfl es ents 0 r he h
  exact ⟨cr,by simp [Instr.findKey,run_underlying hu,g1],g2⟩
theorem withOk_ok {ok b:Bool} {z:AV} {v:AV} {cz:Value} (h:withOk ok (some z) b=some v) (hz:VRel pl M z cz):VRel pl M v (if ok then .tuple #[cz, .bool b] else cz):=by
 cases ok <;> simp [withOk] at h <;> subst h
 ·exact hz
 ·refine .tuple rfl fun j y hj=>?_
  match j,hj with
  | 0,hj=>simp at hj;subst hj;exact hz
  | 1,hj=>simp at hj;subst hj;exact .bool _
theorem ok_lookup (t:TypeId) (m k:Operand) (ok:Bool):OkOp P G (.lookup t m k ok):=by
 intro pl M A h v h' a w dst ty pos after guard hg hr hf he
 simp only [opR] at he
 split at he
 ·rename_i kt e hu
  split at he
  ·rename_i ag sz lv h1 h2 h3
   have hk:KeyT P kt ag sz lv:=⟨h1,h2,h3⟩
   obtain ⟨u,e1,e2⟩:=retV_some he
   simp at e2
   obtain ⟨rfl,rfl⟩:=e2
   cases hm:(opd G m).run A with
   | none=>simp [hm,lookupR] at e1
   | some mv=>
    cases hkk:(opd G k).run A with
    | none=>simp [hm,hkk,lookupR] at e1
    | some kv=>
     have hmv:=opd_ok hg hf hm
     have hkv:=opd_ok hg hf hkk
     rw [hm,hkk] at e1
     have zero : ∀ z,withOk ok z false=some v→∃ zv,z=some zv∧withOk ok (some zv) false=some v:=by
      intro z hz
      cases z with
      | none=>simp [withOk] at hz
      | some zv=>exact ⟨zv,rfl,hz⟩
     cases mv <;> simp only [lookupR] at e1 <;> (try (exact absurd e1 (by simp)))
     ·
      split at e1
      ·rename_i hkr
       obtain ⟨zv,hz1,hz2⟩:=zero _ e1
       obtain ⟨cz,hz3,hz4⟩:=run_zero hz1
       generalize hq:a.eval m=cm at hmv
       cases hmv
       have hc:=fun em w=>keyR_check (P:=P) hk hkv hkr em w
       have hfk : ∀ w,(Instr.findKey kt (a.eval k) []).run P w = .ok none w:=by
        intro w
        obtain ⟨cr,g1,g2⟩:=findKey_ok (P:=P) (pl:=pl) (M:=M) hk hkv w (es:= []) (ents:= []) (r:=none) ⟨rfl,fun i e h=>by simp at h⟩ rfl
        cases cr with
        | none=>exact g1
        | some _=>exact g2.elim
       have hrun:(Instr.lookup t (.map none) (a.eval k) ok).run P w = .ok (if ok then .tuple #[cz, .bool false] else cz) w:=by
        simp [Instr.lookup,run_underlying hu,hc,hfk,hz3]
       simpa [execOp,hq,hrun] using Out.pure hr (withOk_ok hz2 (ofValue_ok hz4))
      ·simp at e1
     ·
      rename_i id
      split at e1
      ·rename_i hkr
       split at e1
       ·rename_i es clock hgo
        generalize hq:a.eval m=cm at hmv
        cases hmv with
        | map hp ha=>
         rename_i r p
         have ho:=hr.obj id p _ hp hgo
         cases hb:w.heap[p.blk]? with
         | none=>rw [hb] at ho;simp [ObjRel] at ho
         | some ob=>
          rw [hb] at ho
          cases ob <;> simp only [ObjRel] at ho
          rename_i entries clock'
          obtain ⟨g1,g2,g3,g4⟩:=ho
          have hrb:=ha g1
          subst hrb
          have hgm:(getObj p.blk).run P w = .ok (.map entries clock') w:=by simp [getObj,Sem.run,hb]
          have hents:EntsRel pl M es entries.toList:=⟨by simpa using g3,fun i e hi=>by simpa using g4 i e hi⟩
          have hc:=fun em w=>keyR_check (P:=P) hk hkv hkr em w
          unfold lookupE at e1
          split at e1
          ·rename_i i en hfe
           obtain ⟨cr,q1,q2⟩:=findKey_ok (P:=P) hk hkv w hents hfe
           cases cr with
           | none=>exact q2.elim
           | some cr=>
            obtain ⟨j,cv⟩:=cr
            obtain ⟨_,_,_,q3⟩:=q2
            have hrun:(Instr.lookup t (.map (some p.blk)) (a.eval k) ok).run P w = .ok (if ok then .tuple #[cv, .bool true] else cv) w:=by
             simp [Instr.lookup,run_underlying hu,hgm,hc,q1]
            simpa [execOp,hq,hrun] using Out.pure hr (withOk_ok e1 q3)
          ·rename_i hfe
           obtain ⟨zv,hz1,hz2⟩:=zero _ e1
           obtain ⟨cz,hz3,hz4⟩:=run_zero hz1
           obtain ⟨cr,q1,q2⟩:=findKey_ok (P:=P) hk hkv w hents hfe
           cases cr with
           | some _=>exact q2.elim
           | none=>
            have hrun:(Instr.lookup t (.map (some p.blk)) (a.eval k) ok).run P w = .ok (if ok then .tuple #[cz, .bool false] else cz) w:=by
             simp [Instr.lookup,run_underlying hu,hgm,hc,q1,hz3]
            simpa [execOp,hq,hrun] using Out.pure hr (withOk_ok hz2 (ofValue_ok hz4))
          ·simp at e1
       ·simp at e1
      ·simp at e1
  ·exact (fail_run he).elim
 ·exact (fail_run he).elim
end
end Go.Ev

namespace Go.Ev
open Go
section
variable {P : Program} {G : Env} {pl : Pl} {M : Mem} {h h' : AHeap} {w w' : World} {v : AV} {A : Fr} {a : Act}
theorem plainSame_ok {x y:AV} {cx cy:Value} (hx:VRel pl M x cx) (hy:VRel pl M y cy) (e:plainSame x y=true) (n:Nat):cx=cy∧Instr.sameBits n cy cx=true:=by
 unfold plainSame at e
 split at e
 ·simp [kindB_eq,eqI_eq] at e
  obtain ⟨rfl,rfl⟩:=e
  cases hx;cases hy
  cases n <;> simp [Instr.sameBits]
 ·rw [eqB_eq] at e
  simp at e
  subst e
  cases hx;cases hy
  cases n <;> simp [Instr.sameBits,bytes_beq]
 ·simp at e
  subst e
  cases hx;cases hy
  cases n <;> simp [Instr.sameBits]
 ·simp at e
theorem plainSames_ok {n:Nat} : ∀ {xs ys:List AV} {cxs cys:List Value},VRels pl M xs cxs.toArray→VRels pl M ys cys.toArray→plainSames xs ys=true→cxs=cys∧(cys.zip cxs).all (fun (x,y)=>Instr.sameBits n x y)=true
 | [], [],cxs,cys,hx,hy,_=>by
  have h1:cxs = []:=List.eq_nil_of_length_eq_zero (by have:=hx.len;simpa using this.symm)
  have h2:cys = []:=List.eq_nil_of_length_eq_zero (by have:=hy.len;simpa using this.symm)
  subst h1;subst h2;exact ⟨rfl,rfl⟩
 | x::xs,y::ys, [],cys,hx,hy,e=>by have:=hx.len;simp at this
 | x::xs,y::ys,cx::cxs, [],hx,hy,e=>by have:=hy.len;simp at this
 | x::xs,y::ys,cx::cxs,cy::cys,hx,hy,e=>by
  simp only [plainSames,Bool.and_eq_true] at e
  have h1:=hx.at_ 0 _ rfl
  have h2:=hy.at_ 0 _ rfl
  simp [Array.getD] at h1 h2
  obtain ⟨q1,q2⟩:=plainSame_ok h1 h2 e.1 n
  have tl : ∀ {z:AV} {zs:List AV} {c:Value} {cs:List Value},VRels pl M (z::zs) (c::cs).toArray→VRels pl M zs cs.toArray:=by
   intro z zs c cs hz
   exact ⟨by have:=hz.len;simpa using this,fun j y hj=>by
    have:=hz.at_ (j+1) y (by simpa using hj)
    simpa [Array.getD_eq_getD_getElem?] using this⟩
  obtain ⟨q3,q4⟩:=plainSames_ok (n:=n) (tl hx) (tl hy) e.2
  subst q1;subst q3
  exact ⟨rfl,by simp only [List.zip_cons_cons,List.all_cons,q2,q4,Bool.and_self]⟩
theorem keySame_ok {x y:AV} {cx cy:Value} (hx:VRel pl M x cx) (hy:VRel pl M y cy) (e:keySame x y=true):cx=cy∧Instr.sameBits 10000 cy cx=true:=by
 unfold keySame at e
 split at e
 ·cases hx with
  | agg a1 a2 a3=>
   cases hy with
   | agg b1 b2 b3=>
    obtain ⟨q1,q2⟩:=plainSames_ok (pl:=pl) (M:=M) (n:=9999) ⟨a1,a3⟩ ⟨b1,b3⟩ e
    rw [Array.toList_inj] at q1
    subst q1
    refine ⟨rfl,?_⟩
    rw [show (10000:Nat)=9999+1 from rfl,Instr.sameBits]
    simp only [beq_self_eq_true,Bool.true_and]
    exact q2
 ·exact plainSame_ok hx hy e 10000
theorem entsRel_objRel {p:Place} {es:List AEnt} {clock:Nat} {entries:Array MapEntry} (hp:p.ep=0) (he:EntsRel pl M es entries.toList):ObjRel pl M p (.map es clock) (some (.map entries clock)):=by
 refine ⟨hp,rfl,by simpa using he.len,fun i e hi=>?_⟩
 obtain ⟨e',h1,h2⟩:=he.at_ i e hi
 exact ⟨e',by simpa using h1,h2⟩
theorem updateR_ok {kt t e:TypeId} {ag:Bool} {sz:Nat} {lv:List (Nat × Nat)} (hk:KeyT P kt ag sz lv) (hu:P.underlying t=some (.map kt e)) (hr:Rep pl M h w) {m k x:AV} {cm ck cx:Value} (hm:VRel pl M m cm) (hck:VRel pl M k ck) (hx:VRel pl M x cx)
  (he:updateR ag sz lv h (some m) (some k) (some x)=some h') : ∃ w',(Instr.mapUpdate t cm ck cx).run P w = .ok () w'∧Rep pl M h' w'∧Step h pl M w h' pl M w'∧h'.n=h.n:=by
 cases m <;> simp only [updateR] at he <;> (try (exact absurd he (by simp)))
 rename_i id
 split at he
 ·rename_i hkr
  split at he
  ·rename_i es clock hgo
   cases hm with
   | map hp ha=>
    rename_i r p
    have ho:=hr.obj id p _ hp hgo
    cases hb:w.heap[p.blk]? with
    | none=>rw [hb] at ho;simp [ObjRel] at ho
    | some ob=>
     rw [hb] at ho
     cases ob <;> simp only [ObjRel] at ho
     rename_i entries clock'
     obtain ⟨g1,g2,g3,g4⟩:=ho
     have hrb:=ha g1
     subst hrb
     subst g2
     have hents:EntsRel pl M es entries.toList:=⟨by simpa using g3,fun i e hi=>by simpa using g4 i e hi⟩
     have hc:=fun em w=>keyR_check (P:=P) hk hck hkr em w
     have hgm:(getObj p.blk).run P w = .ok (.map entries clock') w:=by simp [getObj,Sem.run,hb]
     have hsm : ∀ o,(setObj p.blk o).run P w = .ok () { w with heap:=w.heap.setIfInBounds p.blk o }:=by intro o;simp [setObj,Sem.run,hb]
     have hlt:=hr.blk id p hp
     have fin : ∀ (es':List AEnt) (ents':Array MapEntry) (c':Nat),EntsRel pl M es' ents'.toList→
       Rep pl M (h.put id (.map es' c')) { w with heap:=w.heap.setIfInBounds p.blk (.map ents' c') }∧Step h pl M w (h.put id (.map es' c')) pl M { w with heap:=w.heap.setIfInBounds p.blk (.map ents' c') }:=by
      intro es' ents' c' hrel
      have hpe:upd pl id p=pl:=upd_eq hp
      have:=Rep.change (w':= { w with heap:=w.heap.setIfInBounds p.blk (.map ents' c') }) (o':= .map es' c') hr hp hgo (p':=p) (.inl rfl) ⟨rfl,rfl,rfl,Nat.le_refl _⟩ (by simp) (fun b _ hne=>by simp [Ne.symm hne]) (.inl rfl) (by simpa using hlt)
       (by rw [hpe];simp only [Array.getElem?_setIfInBounds_self_of_lt hlt];exact entsRel_objRel g1 hrel)
      rw [hpe] at this
      exact this
     unfold updateE at he
     split at he
     ·rename_i i en hfe
      split at he
      ·rename_i hks
       simp at he
       subst he
       obtain ⟨cr,q1,q2⟩:=findKey_ok (P:=P) hk hck w hents hfe
       cases cr with
       | none=>exact q2.elim
       | some cr=>
        obtain ⟨j,cv⟩:=cr
        obtain ⟨rfl,_,q3,_⟩:=q2
        simp at q3
        obtain ⟨e',q4,q5,q6,q7⟩:=hents.at_ i en q3
        obtain ⟨q8,q9⟩:=keySame_ok hck q5 hks
        have q4':entries[i]? = some e':=by simpa using q4
        refine ⟨_,?_,(fin (es.set i { en with val:=x }) (entries.modify i fun e=> { e with key:=ck,val:=cx }) clock' ?_).1,(fin (es.set i { en with val:=x }) (entries.modify i fun e=> { e with key:=ck,val:=cx }) clock' ?_).2,rfl⟩
        ·simp [Instr.mapUpdate,run_underlying hu,hgm,hc,q1,Instr.keyThatStays,q4',q9,hsm]
        all_goals
         refine ⟨by simpa using hents.len,fun j e hj=>?_⟩
         rw [List.getElem?_set] at hj
         by_cases hij:i=j
         ·subst hij
          have hil:i<es.length:=by have:=(List.getElem?_eq_some_iff.1 q3).1;exact this
          simp [hil] at hj
          subst hj
          refine ⟨{ e' with key:=ck,val:=cx },by simp [Array.getElem?_modify,q4'],?_,hx,q7⟩
          show VRel pl M en.key ck
          rw [q8];exact q5
         ·simp [hij] at hj
          obtain ⟨e2,r1,r2⟩:=hents.at_ j e hj
          exact ⟨e2,by simpa [Array.getElem?_modify,hij] using r1,r2⟩
      ·simp at he
     ·rename_i hfe
      simp at he
      subst he
      obtain ⟨cr,q1,q2⟩:=findKey_ok (P:=P) hk hck w hents hfe
      cases cr with
      | some _=>exact q2.elim
      | none=>
       have hrel:EntsRel pl M (es++ [{ key:=k,val:=x,born:=clock' }]) (entries.push { key:=ck,val:=cx,born:=clock' }).toList:=by
        refine ⟨by simpa using hents.len,fun j e hj=>?_⟩
        rcases Nat.lt_or_ge j es.length with hlt2 | hge
        ·rw [List.getElem?_append_left hlt2] at hj
         obtain ⟨e2,r1,r2⟩:=hents.at_ j e hj
         refine ⟨e2,?_,r2⟩
         rw [Array.toList_push,List.getElem?_append_left (by rw [← hents.len];exact hlt2)]
         exact r1
        ·rw [List.getElem?_append_right hge] at hj
         have hz:j - es.length=0:=by
          have:=(List.getElem?_eq_some_iff.1 hj).1
          simp at this
          exact this
         rw [hz] at hj
         simp at hj
         subst hj
         refine ⟨{ key:=ck,val:=cx,born:=clock' },?_,hck,hx,rfl⟩
         have hj2:j=entries.toList.length:=by rw [← hents.len];omega
         rw [Array.toList_push,List.getElem?_append_right (by omega),hj2]
         simp
       exact ⟨_,by simp [Instr.mapUpdate,run_underlying hu,hgm,hc,q1,hsm],(fin _ _ _ hrel).1,(fin _ _ _ hrel).2,rfl⟩
     ·simp at he
  ·simp at he
 ·simp at he
theorem retU_some {o:Option AHeap} {r:ARes} (e:retU o=some r) : ∃ h,o=some h∧r = .val undefA h:=by
 cases o with
 | none=>simp [retU] at e
 | some v=>simp [retU] at e;exact ⟨v,rfl,e.symm⟩
theorem updateR_args {ag:Bool} {sz:Nat} {lv:List (Nat × Nat)} {m k x:Option AV} (e:updateR ag sz lv h m k x=some h') : ∃ a b c,m=some a∧k=some b∧x=some c:=by
 unfold updateR at e
 split at e
 ·exact ⟨_,_,_,rfl,rfl,rfl⟩
 ·simp at e
theorem ok_mapUpdate (t:TypeId) (m k x:Operand):OkOp P G (.mapUpdate t m k x)∧OkOp P G (.insert t m k x):=by
 have key : ∀ (pl:Pl) (M:Mem) (A:Fr) (h:AHeap) (v:AV) (h':AHeap) (a:Act) (w:World),GOk G pl M→Rep pl M h w→FrRel pl M A a→(opR P G (.mapUpdate t m k x)).run A h=some (.val v h')→
   Out pl M h w ((do Instr.mapUpdate t (a.eval m) (a.eval k) (a.eval x);pure .skip:Sem Next).run P w) v h':=by
  intro pl M A h v h' a w hg hr hf he
  simp only [opR] at he
  split at he
  ·rename_i kt e hu
   split at he
   ·rename_i ag sz lv h1 h2 h3
    obtain ⟨u,e1,e2⟩:=retU_some he
    simp at e2
    obtain ⟨rfl,rfl⟩:=e2
    obtain ⟨mv,kv,xv,e3,e4,e5⟩:=updateR_args e1
    rw [e3,e4,e5] at e1
    obtain ⟨w',q1,q2,q3,q4⟩:=updateR_ok (P:=P) ⟨h1,h2,h3⟩ hu hr (opd_ok hg hf e3) (opd_ok hg hf e4) (opd_ok hg hf e5) e1
    exact ⟨pl,M,undef,w', .skip,by simp [q1], .inr ⟨rfl,rfl⟩, .tuple rfl (fun j y h=>by simp at h),q2,q3,by omega⟩
   ·exact (fail_run he).elim
  ·exact (fail_run he).elim
 constructor <;> (intro pl M A h v h' a w dst ty pos after guard hg hr hf he;exact key pl M A h v h' a w hg hr hf he)
theorem ok_range (t:TypeId) (x:Operand):OkOp P G (.range t x):=by
 intro pl M A h v h' a w dst ty pos after guard hg hr hf he
 simp only [opR] at he
 split at he
 ·rename_i hu
  simp only [] at he
  split at he
  ·rename_i s hx
   simp at he
   obtain ⟨rfl,rfl⟩:=he
   have hxv:=opd_ok hg hf hx
   generalize hq:a.eval x=cx at hxv
   cases hxv
   have hal:=Rep.alloc (w':= { w with heap:=w.heap.push (.stringIter ⟨⟨s⟩⟩ 0) }) (o:= .siter s 0) (p:=⟨w.heap.size,0,1,0,0⟩) hr rfl ⟨rfl,rfl,rfl,Nat.le_refl _⟩ rfl ⟨rfl,rfl,rfl,rfl⟩
   refine ⟨_,M, .pointer (some ⟨w.heap.size,0,none⟩),_, .value _,?_, .inl rfl,?_,hal.1,hal.2,by simp [AHeap.push]⟩
   ·simp only [execOp,hq,Instr.range,Sem.run_bind,run_underlying hu,Result.andThen_ok,Sem.run_pure]
    rfl
   ·refine .ptr (upd_same _ _ _) (Nat.le_refl _) fun _=>?_
    simp
  ·simp at he
 ·rename_i hu
  simp only [] at he
  obtain ⟨p0,e1,e2⟩:=retH_some he
  simp at e2
  obtain ⟨rfl,rfl⟩:=e2
  cases hx:(opd G x).run A with
  | none=>simp [hx,rangeMapR] at e1
  | some xv=>
   have hxv:=opd_ok hg hf hx
   rw [hx] at e1
   generalize hq:a.eval x=cx at hxv
   unfold rangeMapR at e1
   split at e1
   ·rename_i q
    simp at q;subst q
    simp at e1;subst e1
    cases hxv
    have hal:=Rep.alloc (w':= { w with heap:=w.heap.push (.mapIter none 0 #[] 0) }) (o:= .miter .nilm 0 []) (p:=⟨w.heap.size,0,1,0,0⟩) hr rfl ⟨rfl,rfl,rfl,Nat.le_refl _⟩ rfl ⟨rfl,rfl, .nilm,rfl,rfl,rfl⟩
    refine ⟨_,M, .pointer (some ⟨w.heap.size,0,none⟩),_, .value _,?_, .inl rfl,?_,hal.1,hal.2,by simp [AHeap.push]⟩
    ·simp only [execOp,hq,Instr.range,Sem.run_bind,run_underlying hu,Result.andThen_ok,Sem.run_pure]
     rfl
    ·refine .ptr (upd_same _ _ _) (Nat.le_refl _) fun _=>?_
     simp
   ·rename_i id q
    simp at q;subst q
    split at e1
    ·rename_i es clock hgo
     simp at e1;subst e1
     cases hxv with
     | map hp ha=>
      rename_i r p
      have ho:=hr.obj id p _ hp hgo
      cases hb:w.heap[p.blk]? with
      | none=>rw [hb] at ho;simp [ObjRel] at ho
      | some ob=>
       rw [hb] at ho
       cases ob <;> simp only [ObjRel] at ho
       rename_i entries clock'
       obtain ⟨g1,g2,g3,g4⟩:=ho
       have hrb:=ha g1
       subst hrb
       subst g2
       have hgm:(getObj p.blk).run P w = .ok (.map entries clock') w:=by simp [getObj,Sem.run,hb]
       have hne:id≠h.n:=by have:=hr.dom id p hp;omega
       have hal:=Rep.alloc (w':= { w with heap:=w.heap.push (.mapIter (some p.blk) clock' #[] clock') }) (o:= .miter (.map id) clock' []) (p:=⟨w.heap.size,0,1,0,0⟩) hr rfl ⟨rfl,rfl,rfl,Nat.le_refl _⟩ rfl
        ⟨rfl,rfl, .map (by rw [upd_other hne];exact hp) (fun _=>rfl),rfl,rfl,rfl⟩
       refine ⟨_,M, .pointer (some ⟨w.heap.size,0,none⟩),_, .value _,?_, .inl rfl,?_,hal.1,hal.2,by simp [AHeap.push]⟩
       ·simp only [execOp,hq,Instr.range,Sem.run_bind,run_underlying hu,Result.andThen_ok,Sem.run_pure,hgm]
        rfl
       ·refine .ptr (upd_same _ _ _) (Nat.le_refl _) fun _=>?_
        simp
    ·simp at e1
   ·simp at e1
 ·exact (fail_run he).elim
theorem miter_at (hr:Rep pl M h w) {id:Nat} {m:AV} {clock:Nat} {seen:List Nat} {c:Value} (hv:VRel pl M (.ptr id 0 0 0) c) (hgo:h.get id=some (.miter m clock seen)) :
  ∃ p m' seen',pl id=some p∧p.ep=0∧p.sz=1∧c = .pointer (some ⟨p.blk,0,none⟩)∧w.heap[p.blk]? = some (.mapIter m' clock seen' clock)∧VRel pl M m (.map m')∧seen'.toList=seen:=by
 cases hv with
 | ptr hp hle ha=>
  rename_i ad p
  have ho:=hr.obj id p _ hp hgo
  cases hb:w.heap[p.blk]? with
  | none=>rw [hb] at ho;simp [ObjRel] at ho
  | some ob=>
   rw [hb] at ho
   cases ob <;> simp only [ObjRel] at ho
   rename_i m' since seen' stepped
   obtain ⟨g1,g2,g3,g4,g5,g6⟩:=ho
   subst g4;subst g5
   have had:=ha g1.symm
   simp at had
   exact ⟨p,m',seen',hp,g1,g2,by rw [had],hb,g3,g6⟩
theorem map_at (hr:Rep pl M h w) {id:Nat} {es:List AEnt} {clock:Nat} {m':Option Nat} (hv:VRel pl M (.map id) (.map m')) (hgo:h.get id=some (.map es clock)) :
  ∃ r entries,m'=some r∧w.heap[r]? = some (.map entries clock)∧EntsRel pl M es entries.toList:=by
 cases hv with
 | map hp ha=>
  rename_i r p
  have ho:=hr.obj id p _ hp hgo
  cases hb:w.heap[p.blk]? with
  | none=>rw [hb] at ho;simp [ObjRel] at ho
  | some ob=>
   rw [hb] at ho
   cases ob <;> simp only [ObjRel] at ho
   rename_i entries clock'
   obtain ⟨g1,g2,g3,g4⟩:=ho
   have hrb:=ha g1
   subst hrb
   subst g2
   exact ⟨p.blk,entries,rfl,hb,⟨by simpa using g3,fun i e hi=>by simpa using g4 i e hi⟩⟩
theorem lastN_eq : ∀ (l:List Nat),lastN l=l.getLast?
 | []=>rfl
 | [_]=>rfl
 | x::y::r=>by show lastN (y::r)=_;rw [lastN_eq (y::r)];simp
theorem findBorn_ents {b:Nat} : ∀ {es:List AEnt} {l:List MapEntry} {e:AEnt},EntsRel pl M es l→findBorn b es=some e→∃ e',l.find? (·.born == b)=some e'∧VRel pl M e.key e'.key∧VRel pl M e.val e'.val∧e'.born=e.born
 | [],_,_,_,h=>by simp [findBorn] at h
 | x::r,l,e,he,h=>by
  obtain ⟨e',h1,k1,k2,k3⟩:=he.at_ 0 x rfl
  match l,h1,he with
  | y::l',h1,he=>
   simp at h1;subst h1
   simp only [findBorn,beq_iff] at h
   by_cases q:x.born=b
   ·simp [q] at h;subst h
    refine ⟨y,by simp [k3,q],k1,k2,k3⟩
   ·simp [q] at h
    obtain ⟨e2,z1,z2⟩:=findBorn_ents (l:=l') ⟨by have:=he.len;simpa using this,fun i e hi=>he.at_ (i+1) e (by simpa using hi)⟩ h
    exact ⟨e2,by simp [k3,q,z1],z2⟩
theorem ok_entry (it:Operand):OkOp P G (.entry it):=by
 intro pl M A h v h' a w dst ty pos after guard hg hr hf he
 simp only [opR] at he
 obtain ⟨v0,e1,e2⟩:=retV_some he
 simp at e2
 obtain ⟨rfl,rfl⟩:=e2
 cases hx:(opd G it).run A with
 | none=>simp [hx,entryR] at e1
 | some xv=>
  have hxv:=opd_ok hg hf hx
  rw [hx] at e1
  generalize hq:a.eval it=cx at hxv
  unfold entryR at e1
  split at e1
  ·rename_i id q
   simp at q;subst q
   split at e1
   ·rename_i m clock seen hgo
    split at e1
    ·rename_i es clock' hgm
     rw [beq_iff] at e1
     by_cases hc:clock=clock'
     ·subst hc
      simp at e1
      obtain ⟨p,m',seen',hp,g1,g2,rfl,hb,g3,g4⟩:=miter_at hr hxv hgo
      obtain ⟨r,entries,rfl,hbm,hen⟩:=map_at hr g3 hgm
      rw [lastN_eq] at e1
      cases hl:seen.getLast? with
      | none=>rw [hl] at e1;simp [bornO,entV] at e1
      | some bn=>
       rw [hl] at e1
       simp only [bornO] at e1
       cases hfb:findBorn bn es with
       | none=>rw [hfb] at e1;simp [entV] at e1
       | some e=>
        rw [hfb] at e1
        simp [entV] at e1
        obtain ⟨e',z1,z2,z3,z4⟩:=findBorn_ents hen hfb
        have hgi:(getObj p.blk).run P w = .ok (.mapIter (some r) clock seen' clock) w:=by simp [getObj,Sem.run,hb]
        have hgm':(getObj r).run P w = .ok (.map entries clock) w:=by simp [getObj,Sem.run,hbm]
        have hback:seen'.back? = some bn:=by rw [← hl,← g4,Array.getLast?_toList]
        have hfind:entries.find? (·.born == bn)=some e':=by rw [← Array.find?_toList];exact z1
        refine ⟨pl,M, .tuple #[e'.key,e'.val],w, .value _,?_, .inl rfl,?_,hr,Step.refl _ _ _ _,Nat.le_refl _⟩
        ·simp [execOp,hq,Instr.entry,hgi,hgm',hback,hfind]
        ·subst e1
         refine .tuple rfl fun j y hj=>?_
         match j,hj with
         | 0,hj=>simp at hj;subst hj;exact z2
         | 1,hj=>simp at hj;subst hj;exact z3
     ·simp [hc] at e1
    ·simp at e1
   ·simp at e1
  ·simp at e1
theorem ok_nextNil (it:Operand):OkOp P G (.next it false):=by
 intro pl M A h v h' a w dst ty pos after guard hg hr hf he
 simp only [opR] at he
 obtain ⟨v0,e1,e2⟩:=retV_some he
 simp at e2
 obtain ⟨rfl,rfl⟩:=e2
 cases hx:(opd G it).run A with
 | none=>simp [hx,nextNilR] at e1
 | some xv=>
  have hxv:=opd_ok hg hf hx
  rw [hx] at e1
  generalize hq:a.eval it=cx at hxv
  unfold nextNilR at e1
  split at e1
  ·rename_i id q
   simp at q;subst q
   split at e1
   ·rename_i clock seen hgo
    simp at e1
    obtain ⟨p,m',seen',hp,g1,g2,rfl,hb,g3,g4⟩:=miter_at hr hxv hgo
    cases g3
    have hgi:(getObj p.blk).run P w = .ok (.mapIter none clock seen' clock) w:=by simp [getObj,Sem.run,hb]
    refine ⟨pl,M, .tuple #[.bool false],w, .value _,?_, .inl rfl,?_,hr,Step.refl _ _ _ _,Nat.le_refl _⟩
    ·simp [execOp,hq,Instr.next,hgi]
    ·subst e1
     refine .tuple rfl fun j y hj=>?_
     match j,hj with
     | 0,hj=>simp at hj;subst hj;exact .bool _
   ·simp at e1
  ·simp at e1
theorem ok_next (it:Operand):OkOp P G (.next it true):=by
 intro pl M A h v h' a w dst ty pos after guard hg hr hf he
 simp only [opR] at he
 obtain ⟨p0,e1,e2⟩:=retH_some he
 simp at e2
 obtain ⟨rfl,rfl⟩:=e2
 cases hx:(opd G it).run A with
 | none=>simp [hx,nextR] at e1
 | some xv=>
  have hxv:=opd_ok hg hf hx
  rw [hx] at e1
  unfold nextR at e1
  split at e1
  ·rename_i id q
   simp at q
   subst q
   split at e1
   ·rename_i s pos' hgo
    generalize hq:a.eval it=cx at hxv
    cases hxv with
    | ptr hp hle ha=>
     rename_i ad p
     have ho:=hr.obj id p _ hp hgo
     cases hb:w.heap[p.blk]? with
     | none=>rw [hb] at ho;simp [ObjRel] at ho
     | some ob=>
      rw [hb] at ho
      cases ob <;> simp only [ObjRel] at ho
      rename_i s' pos2
      obtain ⟨g1,g2,g3,g4⟩:=ho
      have had:=ha g1.symm
      simp at had
      subst had
      subst g3
      subst g4
      have hlt:=hr.blk id p hp
      have hgm:(getObj p.blk).run P w = .ok (.stringIter ⟨⟨s⟩⟩ pos2) w:=by simp [getObj,Sem.run,hb]
      have hsm : ∀ o,(setObj p.blk o).run P w = .ok () { w with heap:=w.heap.setIfInBounds p.blk o }:=by intro o;simp [setObj,Sem.run,hb]
      have hsize:(⟨⟨s⟩⟩:ByteArray).size=s.length:=rfl
      rw [blt_iff] at e1
      split at e1
      ·rename_i hps
       simp at hps
       simp at e1
       subst e1
       have hpe:upd pl id p=pl:=upd_eq hp
       have hch:=Rep.change (w':= { w with heap:=w.heap.setIfInBounds p.blk (.stringIter ⟨⟨s⟩⟩ (pos2+(Utf8.decode ⟨⟨s⟩⟩ pos2).2)) }) (o':= .siter s (pos2+(Utf8.decode ⟨s.toArray⟩ pos2).2)) hr hp hgo (p':=p) (.inl rfl) ⟨rfl,rfl,rfl,Nat.le_refl _⟩ (by simp) (fun b _ hne=>by simp [Ne.symm hne]) (.inl rfl) (by simpa using hlt)
        (by rw [hpe];simp only [Array.getElem?_setIfInBounds_self_of_lt hlt];exact ⟨g1,g2,rfl,rfl⟩)
       rw [hpe] at hch
       refine ⟨pl,M, .tuple #[.bool true,goInt pos2, .int .i32 (Utf8.decode ⟨⟨s⟩⟩ pos2).1],_, .value _,?_, .inl rfl,?_,hch.1,hch.2,Nat.le_refl _⟩
       ·simp [execOp,hq,Instr.next,hgm,hsize,hps,hsm]
       ·refine .tuple rfl fun j y hj=>?_
        match j,hj with
        | 0,hj=>simp at hj;subst hj;exact .bool _
        | 1,hj=>simp at hj;subst hj;exact .int _ _
        | 2,hj=>simp at hj;subst hj;exact .int _ _
      ·rename_i hps
       simp at hps
       simp at e1
       subst e1
       refine ⟨pl,M, .tuple #[.bool false],w, .value _,?_, .inl rfl,?_,hr,Step.refl _ _ _ _,Nat.le_refl _⟩
       ·simp [execOp,hq,Instr.next,hgm,hsize,show ¬ pos2<s.length by omega]
       ·refine .tuple rfl fun j y hj=>?_
        match j,hj with
        | 0,hj=>simp at hj;subst hj;exact .bool _
   ·simp at e1
  ·simp at e1
theorem noV {o:Option AV} {f:FuncId} {args:List AV} : retV h o=some (.call f args)→False:=by cases o <;> simp [retV]
theorem noH {o:Option (AV × AHeap)} {f:FuncId} {args:List AV} : retH o=some (.call f args)→False:=by rcases o with _ | ⟨a,b⟩ <;> simp [retH]
theorem noU {o:Option AHeap} {f:FuncId} {args:List AV} : retU o=some (.call f args)→False:=by cases o <;> simp [retU]
theorem noB {o:Option AV} {f:FuncId} {args:List AV} : boxR h o=some (.call f args)→False:=by
 intro e
 unfold boxR at e
 split at e
 ·split at e
  ·simp at e
  ·split at e <;> simp at e
 ·simp at e
theorem VRels.append {as bs:List AV} {vs ws:Array Value} (h1:VRels pl M as vs) (h2:VRels pl M bs ws):VRels pl M (as++bs) (vs++ws):=by
 refine ⟨by simp [h1.len,h2.len],fun j y hj=>?_⟩
 rcases Nat.lt_or_ge j as.length with hlt | hge
 ·rw [List.getElem?_append_left hlt] at hj
  have:=h1.at_ j y hj
  rw [Array.getD_eq_getD_getElem?] at this ⊢
  rw [Array.getElem?_append_left (by rw [← h1.len];exact hlt)]
  exact this
 ·rw [List.getElem?_append_right hge] at hj
  have:=h2.at_ _ y hj
  rw [Array.getD_eq_getD_getElem?] at this ⊢
  rw [Array.getElem?_append_right (by rw [← h1.len];exact hge),← h1.len]
  exact this
theorem ok_call {o:Oper} {f:FuncId} {args:List AV} {h:AHeap} (hg:GOk G pl M) (hf:FrRel pl M A a) (he:(opR P G o.op).run A h=some (.call f args)) :
  ∃ vs,VRels pl M args vs∧(execOp a.eval o).run P w=(callFunc f vs).run P w:=by
 obtain ⟨dst,op,ty,pos,after,guard⟩:=o
 simp only at he
 cases op
 case call c=>
  obtain ⟨callee,cargs,ts⟩:=c
  cases callee with
  | builtin b=>
   simp only [opR] at he
   unfold builtinOp at he
   repeat' (first | exact (noV he).elim | exact (noH he).elim | exact (noU he).elim | exact (noB he).elim | exact (fail_run he).elim | (simp at he;done) | (split at he) | (simp only [] at he))
  | invoke r n=>exact (fail_run he).elim
  | value fo=>
   simp only [opR] at he
   cases hl:(opds G cargs.toList).run A with
   | none=>simp [hl] at he
   | some l=>
    cases hfo:(opd G fo).run A with
    | none=>simp [hl,hfo,callR] at he
    | some fv=>
     rw [hl,hfo] at he
     have hfv:=opd_ok hg hf hfo
     have hlv:=opds_ok hg hf _ _ hl
     cases fv with
     | func fn first captured=>
      cases fn with
      | func g=>
       simp [callR] at he
       obtain ⟨rfl,rfl⟩:=he
       generalize hq:a.eval fo=cf at hfv
       cases hfv with
       | func k1 k2 k3 k4=>
        rename_i vs ws
        refine ⟨vs++cargs.map a.eval++ws,?_,?_⟩
        ·have hl2:VRels pl M l (cargs.map a.eval):=by
          have e:(List.map a.eval cargs.toList).toArray=cargs.map a.eval:=by apply Array.ext';simp
          rw [e] at hlv;exact hlv
         rw [← List.append_assoc]
         exact ((VRels.mk k1 k3).append hl2).append (VRels.mk k2 k4)
        ·simp [execOp,resolve,hq,Deferred.ofValue,invoke]
      | _=>simp [callR] at he
     | _=>simp [callR] at he
 case build t parts=>
  simp only [opR] at he
  repeat' (first | exact (fail_run he).elim | (unfold aggR at he;split at he;split at he;exact (noV he).elim) | exact (fail_run he).elim | (split at he) | (simp only [] at he))
 case makeMap t r=>cases r <;> (simp only [opR] at he;(try unfold convOp at he);(try unfold aggR at he);repeat' (first | exact (noV he).elim | exact (noH he).elim | exact (noU he).elim | exact (noB he).elim | exact (fail_run he).elim | (simp at he;done) | (split at he) | (simp only [] at he)))
 case next it b=>cases b <;> (simp only [opR] at he;(try unfold convOp at he);(try unfold aggR at he);repeat' (first | exact (noV he).elim | exact (noH he).elim | exact (noU he).elim | exact (noB he).elim | exact (fail_run he).elim | (simp at he;done) | (split at he) | (simp only [] at he)))
 all_goals (simp only [opR] at he;(try unfold convOp at he);(try unfold aggR at he);repeat' (first | exact (noV he).elim | exact (noH he).elim | exact (noU he).elim | exact (noB he).elim | exact (fail_run he).elim | (simp at he;done) | (split at he) | (simp only [] at he)))
theorem ok_all (op:Op):OkOp P G op:=by
 have none:opR P G op=fail→OkOp P G op:=fun e pl M A h v h' a w dst ty pos after guard hg hr hf he=>by rw [e] at he;exact (fail_run he).elim
 cases op
 case move x=>exact ok_move x
 case assign x=>exact ok_assign x
 case pick c a b=>exact ok_pick c a b
 case alloc e=>exact ok_alloc e
 case box e x=>exact ok_box e x
 case build t p=>exact ok_build t p
 case buildSlice t n p=>exact ok_buildSlice t n p
 case load t a=>exact ok_load t a
 case store t a x=>exact ok_store t a x
 case nilCheck x=>exact ok_nilCheck x
 case binOp op t x y z=>exact ok_binOp op t x y z
 case unOp op t x=>exact ok_unOp op t x
 case convert s d x=>exact ok_convert s d x
 case makeInterface t x=>exact ok_makeInterface t x
 case makeFunc f a b=>exact ok_makeFunc f a b
 case makeMap t r=>exact ok_makeMap t r
 case makeSlice t l c=>exact ok_makeSlice t l c
 case slice t x lo hi mx=>exact ok_slice t x lo hi mx
 case fieldAddr s x f=>exact ok_fieldAddr s x f
 case field s x f=>exact ok_field s x f
 case indexAddr t x i=>exact ok_indexAddr t x i
 case index t x i=>exact ok_index t x i
 case lookup t m k ok=>exact ok_lookup t m k ok
 case mapUpdate t m k x=>exact (ok_mapUpdate t m k x).1
 case insert t m k x=>exact (ok_mapUpdate t m k x).2
 case range t x=>exact ok_range t x
 case next it b=>
  cases b
  ·exact ok_nextNil it
  ·exact ok_next it
 case entry it=>exact ok_entry it
 case extract t i=>exact ok_extract t i
 case call c=>
  obtain ⟨callee,args,ts⟩:=c
  cases callee with
  | builtin b=>exact ok_builtin b args ts
  | invoke r n=>exact none rfl
  | value f=>
   intro pl M A h v h' a w dst ty pos after guard hg hr hf he
   simp only [opR] at he
   split at he
   ·unfold callR at he;split at he <;> simp at he
   ·simp at he
 all_goals exact none rfl
end
end Go.Ev

namespace Go.Ev
open Go
section
variable {P : Program} {G : Env} {pl pl' : Pl} {M M' : Mem} {h h' : AHeap} {w w' : World} {v : AV}
theorem mx_le {a b n:Nat} : Nat.mx a b≤n↔a≤n∧b≤n:=by
 unfold Nat.mx
 rw [ble_iff]
 by_cases h:a≤b <;> simp [h] <;> omega
theorem tops_le {n:Nat} : ∀ {xs:List AV},AV.tops xs≤n↔∀ x,x∈xs→x.top≤n
 | []=>by simp [AV.tops]
 | x::r=>by simp [AV.tops,mx_le,tops_le (xs:=r)]
theorem cells_top {n:Nat} {x y:AV} (h:x.top≤n) (hy:y∈x.cells):y.top≤n:=by
 cases x <;> simp only [AV.cells,List.mem_singleton] at hy
 case agg cs=>simp only [AV.top] at h;exact tops_le.1 h y hy
 all_goals (subst hy;exact h)
def cutPl (pl:Pl) (n:Nat):Pl:=fun id=>if id<n then pl id else none
theorem cutPl_some {n id:Nat} {p:Place} : cutPl pl n id=some p↔id<n∧pl id=some p:=by
 unfold cutPl
 by_cases h:id<n <;> simp [h]
theorem VRel.agree {n:Nat} {x:Value} (h:VRel pl M v x) (ht:v.top≤n) (ha : ∀ id p,id<n→pl id=some p→pl' id=some p) (hm:MExt M M'):VRel pl' M' v x:=by
 have elems : ∀ {xs:List AV} {i j:Nat} {x y:AV},AV.tops xs≤n→xs[i]? = some x→x.cells[j]? = some y→y.top≤n:=by
  intro xs i j x y h1 h2 h3
  exact cells_top (tops_le.1 h1 x (List.mem_of_getElem? h2)) (List.mem_of_getElem? h3)
 induction h with
 | bool b=>exact .bool b
 | int k n=>exact .int k n
 | str s=>exact .str s
 | nilp=>exact .nilp
 | ptr hp hle hh=>simp only [AV.top] at ht;exact .ptr (ha _ _ (by omega) hp) hle hh
 | pptr hm' hs hi hc ih=>
  simp only [AV.top] at ht
  exact .pptr ⟨hm'.1,hm _ _ hm'.2.1,hm'.2.2⟩ hs hi (fun i x j y h1 h2=>ih i x j y h1 h2 (elems ht h1 h2))
 | nils=>exact .nils
 | slice hp hle hl hk hh=>simp only [AV.top] at ht;exact .slice (ha _ _ (by omega) hp) hle hl hk hh
 | ps hl ht' hm' hs hc ih=>
  simp only [AV.top] at ht
  exact .ps hl ht' (fun h=>⟨(hm' h).1,hm _ _ (hm' h).2.1,(hm' h).2.2⟩) hs (fun i x j y h1 h2=>ih i x j y h1 h2 (elems ht h1 h2))
 | lsn=>exact .lsn
 | lsp _ ht0 ih=>exact .lsp (ih (by simp only [AV.top];omega)) ht0
 | nilm=>exact .nilm
 | map hp hh=>simp only [AV.top] at ht;exact .map (ha _ _ (by omega) hp) hh
 | func h1 h2 _ _ ih1 ih2=>
  simp only [AV.top,mx_le] at ht
  exact .func h1 h2 (fun j y hj=>ih1 j y hj (tops_le.1 ht.1 y (List.mem_of_getElem? hj))) (fun j y hj=>ih2 j y hj (tops_le.1 ht.2 y (List.mem_of_getElem? hj)))
 | nilf=>exact .nilf
 | iface _ ih=>simp only [AV.top] at ht;exact .iface (ih ht)
 | nili=>exact .nili
 | agg h1 h2 _ ih=>simp only [AV.top] at ht;exact .agg h1 h2 (fun j y hj=>ih j y hj (tops_le.1 ht y (List.mem_of_getElem? hj)))
 | tuple h1 _ ih=>simp only [AV.top] at ht;exact .tuple h1 (fun j y hj=>ih j y hj (tops_le.1 ht y (List.mem_of_getElem? hj)))
theorem entTops_le {n:Nat} : ∀ {es:List AEnt},entTops es≤n↔∀ e,e∈es→e.key.top≤n∧e.val.top≤n
 | []=>by simp [entTops]
 | e::r=>by simp [entTops,mx_le,entTops_le (es:=r)]
theorem ObjRel.agree {n:Nat} {p:Place} {o:AObj} {x:Option Obj} (h:ObjRel pl M p o x) (ht:o.top≤n) (ha : ∀ id p,id<n→pl id=some p→pl' id=some p) (hm:MExt M M'):ObjRel pl' M' p o x:=by
 match o,x with
 | .dead,_=>trivial
 | .row sz op ep xs,some (.cells c t fr)=>
  obtain ⟨h1,h2,h3,h4,h5,h6,h7,h8⟩:=h
  simp only [AObj.top] at ht
  exact ⟨h1,h2,h3,h4,h5,h6,h7,⟨h8.fit,h8.elem,fun i x j y k1 k2=>(h8.cell i x j y k1 k2).agree (cells_top (tops_le.1 ht x (List.mem_of_getElem? k1)) (List.mem_of_getElem? k2)) ha hm⟩⟩
 | .map es clock,some (.map entries clock')=>
  obtain ⟨h1,h2,h3,h4⟩:=h
  simp only [AObj.top] at ht
  refine ⟨h1,h2,h3,fun i e hi=>?_⟩
  obtain ⟨e',k1,k2,k3,k4⟩:=h4 i e hi
  have:=entTops_le.1 ht e (List.mem_of_getElem? hi)
  exact ⟨e',k1,k2.agree this.1 ha hm,k3.agree this.2 ha hm,k4⟩
 | .siter s pos,some (.stringIter s' pos')=>exact h
 | .miter m clock seen,some (.mapIter m' since seen' stepped)=>simp only [AObj.top] at ht;exact ⟨h.1,h.2.1,h.2.2.1.agree ht ha hm,h.2.2.2⟩
noncomputable def dropM (pl:Pl) (M:Mem) (w:World) (n:Nat):Mem:=fun b=>
 match M b with
 | some c=>some c
 | none=>
  open Classical in
  if ∃ id p,n≤id∧pl id=some p∧p.blk=b then
   match w.heap[b]? with
   | some (.cells c _ _)=>some c
   | _=>none
  else none
theorem dropM_ext (n:Nat):MExt M (dropM pl M w n):=fun b c hb=>by simp [dropM,hb]
theorem dropM_some {n b:Nat} {c:Array Value} (hb:dropM pl M w n b=some c):M b=some c∨((∃ id p,n≤id∧pl id=some p∧p.blk=b)∧∃ t fr,w.heap[b]? = some (.cells c t fr)):=by
 unfold dropM at hb
 cases hM:M b with
 | some c'=>rw [hM] at hb;exact .inl hb
 | none=>
  rw [hM] at hb
  simp only [] at hb
  split at hb
  ·rename_i hx
   refine .inr ⟨hx,?_⟩
   cases hw:w.heap[b]? with
   | none=>simp [hw] at hb
   | some o=>
    rw [hw] at hb
    cases o <;> simp at hb
    subst hb
    exact ⟨_,_,rfl⟩
  ·simp at hb
theorem dropM_at (hr:Rep pl M h w) {n id:Nat} {p:Place} {c:Array Value} {t:TypeId} {fr:Nat × Nat} (hid:n≤id) (hp:pl id=some p) (hw:w.heap[p.blk]? = some (.cells c t fr)):dropM pl M w n p.blk=some c:=by
 unfold dropM
 rw [hr.sep id p hp]
 simp only []
 rw [if_pos ⟨id,p,hid,hp,rfl⟩,hw]
theorem Rep.dropped (hr:Rep pl M h w) {n:Nat} (hn:n≤h.n) (hc : ∀ id o,id<n→h.get id=some o→o.top≤n):Rep (cutPl pl n) (dropM pl M w n) (h.cut n) w:=by
 have ag : ∀ id p,id<n→pl id=some p→cutPl pl n id=some p:=fun id p h1 h2=>cutPl_some.2 ⟨h1,h2⟩
 refine ⟨fun id p hp=>(cutPl_some.1 hp).1,fun id p o hp hg=>?_,fun id p hp=>hr.blk id p (cutPl_some.1 hp).2,fun id id' p p' h1 h2 h3=>hr.inj id id' p p' (cutPl_some.1 h1).2 (cutPl_some.1 h2).2 h3,fun b c hb=>?_,fun id p hp=>?_⟩
 ·obtain ⟨h1,h2⟩:=cutPl_some.1 hp
  obtain ⟨h3,h4⟩:=AHeap.get_cut hn hg
  exact (hr.obj id p o h2 h4).agree (hc id o h3 h4) ag (dropM_ext n)
 ·rcases dropM_some hb with hb | ⟨_,h2⟩
  ·exact hr.imm b c hb
  ·exact h2
 ·obtain ⟨h1,h2⟩:=cutPl_some.1 hp
  cases hd:dropM pl M w n p.blk with
  | none=>rfl
  | some c=>
   rcases dropM_some hd with hb | ⟨⟨id',p',k1,k2,k3⟩,_⟩
   ·rw [hr.sep id p h2] at hb;cases hb
   ·have:=hr.inj id id' p p' h2 k2 k3.symm;omega
theorem cleanTo_ok {n:Nat} : ∀ (k:Nat),cleanTo h n k=true→∀ id o,id<k→h.get id=some o→o.top≤n
 | 0,_,id,o,hid,_=>by omega
 | k+1,hc,id,o,hid,hg=>by
  unfold cleanTo at hc
  have key:cleanTo h n k=true∧∀ o,h.get k=some o→o.top≤n:=by
   cases hk:h.get k with
   | none=>rw [hk] at hc;exact ⟨hc,fun o h=>by cases h⟩
   | some o'=>
    rw [hk] at hc
    simp only [ble_iff] at hc
    by_cases ht:o'.top≤n
    ·simp [ht] at hc;exact ⟨hc,fun o h=>by cases h;exact ht⟩
    ·simp [ht] at hc
  rcases Nat.lt_or_ge id k with hlt | hge
  ·exact cleanTo_ok k key.1 id o hlt hg
  ·have:id=k:=by omega
   subst this
   exact key.2 o hg
theorem mapO_some {f:AV→Option AV} : ∀ {xs ys:List AV},mapO f xs=some ys→xs.length=ys.length∧∀ (i:Nat) (y:AV),ys[i]? = some y→∃ x,xs[i]? = some x∧f x=some y
 | [],ys,e=>by simp [mapO] at e;subst e;exact ⟨rfl,fun i y h=>by simp at h⟩
 | x::r,ys,e=>by
  simp only [mapO] at e
  cases hx:f x with
  | none=>simp [hx] at e
  | some y=>
   cases hr:mapO f r with
   | none=>simp [hx,hr] at e
   | some zs=>
    simp [hx,hr] at e
    subst e
    obtain ⟨h1,h2⟩:=mapO_some hr
    refine ⟨by simp [h1],fun i u hu=>?_⟩
    match i,hu with
    | 0,hu=>simp at hu;subst hu;exact ⟨x,rfl,hx⟩
    | i+1,hu=>simpa using h2 i u (by simpa using hu)
theorem keepLow_some {n:Nat} {z y:AV} (e:keepLow n z=some y):y=z∧z.top≤n:=by
 unfold keepLow at e
 rw [ble_iff] at e
 by_cases h:z.top≤n <;> simp [h] at e
 exact ⟨e.symm,h⟩
theorem frz_shape {n k:Nat} {x y:AV} (e:frz h k n x=some y):(scalB x=true→scalB y=true)∧(∀ cs,x = .agg cs→∃ ds,y = .agg ds∧mapO (frz h (k - 1) n) cs=some ds)∧(flatB x=true→flatB y=true):=by
 cases k with
 | zero=>simp [frz] at e
 | succ k=>
  have own : ∀ z:AV,keepLow n z=some y→y=z:=fun z hz=>(keepLow_some hz).1
  cases x <;> simp only [frz] at e
  case slice id ep off len cap=>
   refine ⟨fun _=>?_,fun cs h=>(by cases h),fun _=>?_⟩ <;>
   ·split at e
    ·simp at e;subst e;rfl
    ·split at e
     ·split at e
      ·split at e
       ·simp at e;subst e;rfl
       ·simp at e
      ·simp at e
     ·simp at e
  case agg cs=>
   split at e
   ·rename_i ds hd
    simp at e
    subst e
    exact ⟨fun h=>by simp [scalB] at h,fun cs' h=>by cases h;exact ⟨ds,rfl,hd⟩,fun _=>rfl⟩
   ·simp at e
  case tuple cs=>exact ⟨fun h=>by simp [scalB] at h,fun cs' h=>(by cases h),fun h=>by simp [flatB] at h⟩
  case func fn a b=>
   split at e
   ·simp at e;subst e;exact ⟨fun _=>rfl,fun cs h=>(by cases h),fun _=>rfl⟩
   ·simp at e
  case iface t v=>
   split at e
   ·simp at e;subst e;exact ⟨fun _=>rfl,fun cs h=>(by cases h),fun _=>rfl⟩
   ·simp at e
  all_goals (have:=own _ e;subst this;exact ⟨fun h=>h,fun cs h=>(by cases h),fun h=>h⟩)
theorem frz_cells {n k:Nat} {x y:AV} (e:frz h k n x=some y) (hf:flatB x=true) (hs:Sc x):y.cells.length=x.cells.length∧Sc y∧∀ (j:Nat) (u:AV),y.cells[j]? = some u→∃ z k',x.cells[j]? = some z∧frz h k' n z=some u:=by
 obtain ⟨h1,h2,h3⟩:=frz_shape e
 rcases flat_cases x hf with ⟨cs,rfl⟩ | ⟨hsx,hcx⟩
 ·obtain ⟨ds,rfl,hd⟩:=h2 cs rfl
  obtain ⟨g1,g2⟩:=mapO_some hd
  refine ⟨g1.symm,fun u hu=>?_,fun j u hu=>?_⟩
  ·obtain ⟨j,hj⟩:=List.getElem?_of_mem hu
   obtain ⟨z,k1,k2⟩:=g2 j u hj
   exact (frz_shape k2).1 (hs z (List.mem_of_getElem? k1))
  ·obtain ⟨z,k1,k2⟩:=g2 j u hu
   exact ⟨z,_,k1,k2⟩
 ·have hsy:=h1 hsx
  have hcy:y.cells = [y]:=by cases y <;> first | rfl | (simp [scalB] at hsy)
  rw [hcx,hcy]
  refine ⟨rfl,fun u hu=>?_,fun j u hu=>?_⟩
  ·rw [hcy] at hu;simp at hu;subst hu;exact hsy
  ·match j,hu with
   | 0,hu=>simp at hu;subst hu;exact ⟨x,k,rfl,e⟩
theorem cutPl_ext_low {n:Nat} : ∀ id p,id<n→pl id=some p→cutPl pl n id=some p:=fun id p h1 h2=>cutPl_some.2 ⟨h1,h2⟩
theorem frz_ok (hr:Rep pl M h w) {n:Nat} {Md:Mem} (hmd:MExt M Md)
  (hd : ∀ id p sz op ep xs c t fr,n≤id→pl id=some p→h.get id=some (.row sz op ep xs)→w.heap[p.blk]? = some (.cells c t fr)→Md p.blk=some c) :
  ∀ (k:Nat) (v v':AV) (x:Value),VRel pl M v x→frz h k n v=some v'→VRel (cutPl pl n) Md v' x
 | 0,v,v',x,_,e=>by simp [frz] at e
 | k+1,v,v',x,hv,e=>by
  have low : ∀ {z:AV},VRel pl M z x→keepLow n z=some v'→VRel (cutPl pl n) Md v' x:=by
   intro z hz hk
   obtain ⟨rfl,h2⟩:=keepLow_some hk
   exact hz.agree h2 cutPl_ext_low hmd
  cases v <;> simp only [frz] at e
  case slice id ep off len cap=>
   rw [blt_iff] at e
   by_cases hid:id<n
   ·simp [hid] at e
    subst e
    exact hv.agree (n:=n) (by simp only [AV.top];omega) cutPl_ext_low hmd
   ·simp only [hid,decide_false] at e
    split at e
    ·rename_i sz op ep' xs hgo
     rw [beq_iff] at e
     by_cases hep:ep=ep'
     ·simp only [hep,decide_true] at e
      split at e
      ·rename_i ys hys
       simp at e
       subst e
       cases hv with
       | slice hp hle hl hk ha=>
        rename_i cap' a p
        have ho:=hr.obj id p _ hp hgo
        cases hb:w.heap[p.blk]? with
        | none=>rw [hb] at ho;simp [ObjRel] at ho
        | some ob=>
         rw [hb] at ho
         cases ob <;> simp only [ObjRel] at ho
         rename_i c t fr
         obtain ⟨g1,g2,g3,g4,g5,g6,g7,g8⟩:=ho
         obtain ⟨q1,q2,q3,q4,q5⟩:=ha (by omega)
         obtain ⟨m1,m2⟩:=mapO_some hys
         have hlen:ys.length=len:=by
          rw [← m1];simp;omega
         have src : ∀ (i:Nat) (y:AV),ys[i]? = some y→∃ x,xs[off+i]? = some x∧i<len∧frz h k n x=some y:=by
          intro i y hi
          obtain ⟨x,k1,k2⟩:=m2 i y hi
          have hil:i<ys.length:=(List.getElem?_eq_some_iff.1 hi).1
          rw [List.getElem?_take_of_lt (by omega),List.getElem?_drop] at k1
          exact ⟨x,k1,by omega,k2⟩
         have cells : ∀ (i:Nat) (x y:AV),xs[off+i]? = some x→frz h k n x=some y→flatB x=true:=by
          intro i x y h1 h2
          have he:=(g8.elem x (List.mem_of_getElem? h1)).2
          cases x <;> first | rfl | skip
          exact absurd (he _ (by simp [AV.cells];rfl)) (by simp [scalB])
         have hys0:ys≠ []→a=⟨p.blk,off * p.sz,none⟩:=by
          intro hne
          rcases q1 with hc0 | hc1
          ·have:ys.length≠0:=fun h0=>hne (List.eq_nil_of_length_eq_zero h0)
           omega
          ·exact hc1
         have hfit:off * p.sz+ys.length * p.sz≤c.size:=by
          rw [← g4]
          calc off * p.sz+ys.length * p.sz=(off+ys.length) * p.sz:=by rw [Nat.add_mul]
           _≤(off+cap') * p.sz:=Nat.mul_le_mul_right _ (by omega)
           _≤p.tot:=q2
         rw [← hlen]
         refine VRel.ps (sz:=p.sz) (c:=c) (by omega) (fun ht=>?_) (fun hne=>?_) (fun y hy=>?_) (fun i y j u hi hu=>?_)
         ·cases cap with
          | none=>simp [optB] at ht
          | some cc=>simp [optB,beq_iff] at ht;rw [hk cc rfl];omega
         ·rw [hys0 hne]
          exact ⟨rfl,hd _ _ _ _ _ _ _ _ _ (by omega) hp hgo hb,hfit,by omega⟩
         ·obtain ⟨i,hi⟩:=List.getElem?_of_mem hy
          obtain ⟨x,k1,k2,k3⟩:=src i y hi
          have he:=g8.elem x (List.mem_of_getElem? k1)
          obtain ⟨f1,f2,f3⟩:=frz_cells k3 (cells i x y k1 k3) he.2
          exact ⟨by rw [f1,he.1];exact g2.symm,f2⟩
         ·have hne:ys≠ []:=fun h0=>by rw [h0] at hi;simp at hi
          rw [hys0 hne]
          obtain ⟨x,k1,k2,k3⟩:=src i y hi
          have he:=g8.elem x (List.mem_of_getElem? k1)
          have hfl:=cells i x y k1 k3
          rcases flat_cases x hfl with ⟨cs,rfl⟩ | ⟨hsx,hcx⟩
          ·obtain ⟨ds,rfl,hds⟩:=(frz_shape k3).2.1 cs rfl
           obtain ⟨z1,z2⟩:=mapO_some hds
           obtain ⟨z,y1,y2⟩:=z2 j u hu
           have hz:=g8.cell _ _ j z k1 y1
           have:=frz_ok hr hmd hd (k - 1) z u _ hz y2
           simp only [Nat.zero_add] at this
           rw [g2]
           simpa [Nat.add_mul,Nat.add_assoc] using this
          ·have hsy:=(frz_shape k3).1 hsx
           have hcy:y.cells = [y]:=by cases y <;> first | rfl | (simp [scalB] at hsy)
           rw [hcy] at hu
           match j,hu with
           | 0,hu=>
            simp at hu
            subst hu
            have hz:=g8.cell _ _ 0 x k1 (by rw [hcx];rfl)
            have:=frz_ok hr hmd hd k x y _ hz k3
            rw [g2]
            simpa [Nat.add_mul,Nat.add_assoc] using this
      ·simp at e
     ·simp [hep] at e
    ·simp at e
  case agg cs=>
   split at e
   ·rename_i ds hds
    simp at e
    subst e
    cases hv with
    | agg h1 h2 h3=>
     obtain ⟨m1,m2⟩:=mapO_some hds
     refine .agg (by rw [← m1];exact h1) (fun y hy=>?_) (fun j y hj=>?_)
     ·obtain ⟨i,hi⟩:=List.getElem?_of_mem hy
      obtain ⟨x,k1,k2⟩:=m2 i y hi
      exact (frz_shape k2).1 (h2 x (List.mem_of_getElem? k1))
     ·obtain ⟨x,k1,k2⟩:=m2 j y hj
      exact frz_ok hr hmd hd k x y _ (h3 j x k1) k2
   ·simp at e
  case tuple cs=>
   split at e
   ·rename_i ds hds
    simp at e
    subst e
    cases hv with
    | tuple h1 h3=>
     obtain ⟨m1,m2⟩:=mapO_some hds
     refine .tuple (by rw [← m1];exact h1) (fun j y hj=>?_)
     obtain ⟨x,k1,k2⟩:=m2 j y hj
     exact frz_ok hr hmd hd k x y _ (h3 j x k1) k2
   ·simp at e
  case func fn a b=>
   split at e
   ·rename_i a' b' ha hb
    simp at e
    subst e
    cases hv with
    | func h1 h2 h3 h4=>
     obtain ⟨m1,m2⟩:=mapO_some ha
     obtain ⟨n1,n2⟩:=mapO_some hb
     refine .func (by rw [← m1];exact h1) (by rw [← n1];exact h2) (fun j y hj=>?_) (fun j y hj=>?_)
     ·obtain ⟨x,k1,k2⟩:=m2 j y hj
      exact frz_ok hr hmd hd k x y _ (h3 j x k1) k2
     ·obtain ⟨x,k1,k2⟩:=n2 j y hj
      exact frz_ok hr hmd hd k x y _ (h4 j x k1) k2
   ·simp at e
  case iface t u=>
   split at e
   ·rename_i u' hu
    simp at e
    subst e
    cases hv with
    | iface h1=>exact .iface (frz_ok hr hmd hd k u u' _ h1 hu)
   ·simp at e
  all_goals exact low hv e
end
end Go.Ev

namespace Go.Ev
open Go
section
variable {P : Program} {G : Env} {pl pl' : Pl} {M M' : Mem} {h h' : AHeap} {w w' : World} {v : AV}
theorem Step.cut (hr0:Rep pl M h w) (hs:Step h pl M w h' pl' M' w') {Md:Mem} (hmd:MExt M' Md) (hmn : ∀ b c,Md b=some c→M' b=some c∨∃ id p,h.n≤id∧pl' id=some p∧p.blk=b) (hn:h.n≤h'.n):Step h pl M w (h'.cut h.n) (cutPl pl' h.n) Md w':=by
 refine ⟨fun id p hp=>?_,fun id hid hp=>?_,fun b c hb=>hmd b c (hs.mem b c hb),hs.size,hs.kept,fun id p' hp'=>?_,fun id p hp hg=>?_,fun id p hp hg=>?_,fun b c hb=>?_,hs.os,hs.tape,hs.out,hs.drawn⟩
 ·obtain ⟨p',h1,h2⟩:=hs.ext id p hp
  exact ⟨p',cutPl_some.2 ⟨hr0.dom id p hp,h1⟩,h2⟩
 ·have:=hs.new id hid hp
  cases hc:cutPl pl' h.n id with
  | none=>rfl
  | some q=>rw [(cutPl_some.1 hc).2] at this;cases this
 ·exact hs.blks id p' (cutPl_some.1 hp').2
 ·have:=hs.live id p hp hg
  cases hc:(h'.cut h.n).get id with
  | none=>rfl
  | some o=>rw [(AHeap.get_cut hn hc).2] at this;cases this
 ·exact cutPl_some.2 ⟨hr0.dom id p hp,hs.stay id p hp hg⟩
 ·rcases hmn b c hb with k | ⟨id,p,k1,k2,k3⟩
  ·exact hs.memNew b c k
  ·rcases hs.blks id p k2 with ⟨p0,k4,_⟩ | k4
   ·have:=hr0.dom id p0 k4;omega
   ·exact .inr (by omega)
theorem Rep.killed (hr:Rep pl M h w) {id:Nat} {o:AObj} (hg:h.get id=some o):Rep pl M (h.put id .dead) w:=by
 have hid:id<1000000:=(AHeap.get_some.1 hg).2.1
 refine ⟨hr.dom,fun k p o' hp hk=>?_,hr.blk,hr.inj,hr.imm,hr.sep⟩
 rcases AHeap.get_put hid hk with ⟨_,rfl⟩ | ⟨_,h2⟩
 ·exact trivial
 ·exact hr.obj k p o' hp h2
theorem leave_ok (pol:Nat) {v2:AV} {h2:AHeap} {x:Value} (hr0:Rep pl M h w) (hr:Rep pl' M' h' w') (hv:VRel pl' M' v x) (hs:Step h pl M w h' pl' M' w') (hn:h.n≤h'.n) (e:leave pol h.n v h'=(v2,h2)) :
  ∃ pl2 M2,VRel pl2 M2 v2 x∧Rep pl2 M2 h2 w'∧Step h pl M w h2 pl2 M2 w'∧h.n≤h2.n:=by
 have same:(v,h')=(v2,h2)→∃ pl2 M2,VRel pl2 M2 v2 x∧Rep pl2 M2 h2 w'∧Step h pl M w h2 pl2 M2 w'∧h.n≤h2.n:=by
  intro e;simp at e;obtain ⟨rfl,rfl⟩:=e;exact ⟨pl',M',hv,hr,hs,hn⟩
 have kept:cleanTo h' h.n h.n=true→keepAs v h' h.n (frz h' freezeDepth h.n v)=(v2,h2)→∃ pl2 M2,VRel pl2 M2 v2 x∧Rep pl2 M2 h2 w'∧Step h pl M w h2 pl2 M2 w'∧h.n≤h2.n:=by
  intro hc e
  unfold keepAs at e
  split at e
  ·rename_i v' hf
   simp at e
   obtain ⟨rfl,rfl⟩:=e
   refine ⟨cutPl pl' h.n,dropM pl' M' w' h.n,frz_ok hr (dropM_ext _) (fun id p sz op ep xs c t fr k1 k2 k3 k4=>dropM_at hr k1 k2 k4) _ _ _ _ hv hf,hr.dropped hn (fun id o k1 k2=>cleanTo_ok h.n hc id o k1 k2),hs.cut hr0 (dropM_ext _) (fun b c hb=>(dropM_some hb).imp id (fun k=>k.1)) hn,Nat.le_refl _⟩
  ·exact same e
 unfold leave at e
 split at e
 ·exact same e
 ·split at e
  ·split at e
   ·rename_i hc;exact kept hc e
   ·exact same e
  ·split at e
   ·rename_i hc
    unfold leaveOwn at e
    split at e
    ·rename_i id ep len cap
     split at e
     ·rename_i sz op ep' xs hgo
      split at e
      ·rename_i hck
       simp only [ble_iff,beq_iff,Bool.and_eq_true,decide_eq_true_eq] at hck
       obtain ⟨⟨c1,c2⟩,c3⟩:=hck
       unfold keepOwn at e
       split at e
       ·rename_i ys hys
        simp at e
        obtain ⟨rfl,rfl⟩:=e
        cases hv with
        | slice hp hle hl hk ha=>
         rename_i cap' a p
         have ho:=hr.obj id p _ hp hgo
         cases hb:w'.heap[p.blk]? with
         | none=>rw [hb] at ho;simp [ObjRel] at ho
         | some ob=>
          rw [hb] at ho
          cases ob <;> simp only [ObjRel] at ho
          rename_i c t fr
          obtain ⟨g1,g2,g3,g4,g5,g6,g7,g8⟩:=ho
          have hq:=ha (by omega)
          obtain ⟨m1,m2⟩:=mapO_some hys
          have hpm:=hr.sep id p hp
          let Md:Mem:=fun b=>if b=p.blk then none else dropM pl' M' w' h.n b
          have hmd:MExt M' Md:=by
           intro b c' hb'
           have:b≠p.blk:=fun e=>by rw [e,hpm] at hb';cases hb'
           simp [Md,this,dropM_ext h.n b c' hb']
          have hid:id<1000000:=(AHeap.get_some.1 hgo).2.1
          have hk0:=hr.killed hgo
          have hd : ∀ id' p' sz' op' ep' xs' c' t' fr',h.n≤id'→pl' id'=some p'→(h'.put id .dead).get id'=some (.row sz' op' ep' xs')→w'.heap[p'.blk]? = some (.cells c' t' fr')→Md p'.blk=some c':=by
           intro id' p' sz' op' ep' xs' c' t' fr' k1 k2 k3 k4
           rcases AHeap.get_put hid k3 with ⟨_,k5⟩ | ⟨k5,_⟩
           ·cases k5
           ·have:p'.blk≠p.blk:=fun e=>k5 (hr.inj id' id p' p k2 hp e)
            simp only [Md,this,if_false]
            exact dropM_at hr k1 k2 k4
          let p2:Place:=⟨p.blk,0,p.sz,p.n,p.tot⟩
          have hext:Ext (cutPl pl' h.n) (upd (cutPl pl' h.n) h.n p2):=fun id q hq=>⟨q,by rw [upd_other (by have:=(cutPl_some.1 hq).1;omega)];exact hq,Nat.le_refl _,fun _=>rfl⟩
          have hcase : ∀ k q,upd (cutPl pl' h.n) h.n p2 k=some q→(k=h.n∧q=p2)∨(k<h.n∧pl' k=some q):=by
           intro k q hq
           by_cases e:k=h.n
           ·subst e;rw [upd_same] at hq;exact .inl ⟨rfl,by simpa using hq.symm⟩
           ·rw [upd_other e] at hq;exact .inr (cutPl_some.1 hq)
          have hmem:InMem (upd (cutPl pl' h.n) h.n p2) Md c 0 sz ys:=by
           refine ⟨by rw [← m1];exact g8.fit,fun y hy=>?_,fun i y j u hi hu=>?_⟩
           ·obtain ⟨i,hi⟩:=List.getElem?_of_mem hy
            obtain ⟨x,k1,k2⟩:=m2 i y hi
            have he:=g8.elem x (List.mem_of_getElem? k1)
            have hfl:flatB x=true:=by
             cases x <;> first | rfl | skip
             exact absurd (he.2 _ (by simp [AV.cells];rfl)) (by simp [scalB])
            obtain ⟨f1,f2,_⟩:=frz_cells k2 hfl he.2
            exact ⟨by rw [f1,he.1],f2⟩
           ·obtain ⟨x,k1,k2⟩:=m2 i y hi
            have he:=g8.elem x (List.mem_of_getElem? k1)
            have hfl:flatB x=true:=by
             cases x <;> first | rfl | skip
             exact absurd (he.2 _ (by simp [AV.cells];rfl)) (by simp [scalB])
            obtain ⟨_,_,f3⟩:=frz_cells k2 hfl he.2
            obtain ⟨z,k',q1,q2⟩:=f3 j u hu
            exact (frz_ok hk0 hmd hd k' z u _ (g8.cell i x j z k1 q1) q2).mono hext (fun _ _ h=>h)
          refine ⟨upd (cutPl pl' h.n) h.n p2,Md,?_,⟨?_,?_,?_,?_,?_,?_⟩,?_,by simp [AHeap.push,AHeap.cut]⟩
          ·refine .slice (upd_same _ _ _) (Nat.zero_le _) hl hk (fun _=>?_)
           obtain ⟨q1,q2,q3,q4,q5⟩:=hq
           exact ⟨q1,q2,q3,q4,q5⟩
          ·intro k q hq
           show k<h.n+1
           rcases hcase k q hq with ⟨e,_⟩ | ⟨e,_⟩ <;> omega
          ·intro k q o hq hg
           rcases hcase k q hq with ⟨e,e2⟩ | ⟨e,e2⟩
           ·subst e;subst e2
            rcases AHeap.get_push hg with ⟨_,k⟩ | ⟨k,_⟩
            ·subst k
             show ObjRel _ _ _ _ w'.heap[p.blk]?
             rw [hb]
             exact ⟨rfl,g2,by rw [← m1];exact g3,g4,g5,g6,fun ho=>by rw [← m1];exact g7 ho,hmem⟩
            ·exact absurd k (Nat.lt_irrefl _)
           ·rcases AHeap.get_push hg with ⟨k,_⟩ | ⟨_,k⟩
            ·exact absurd k (by show ¬ _=h.n;omega)
            ·obtain ⟨h3,h4⟩:=AHeap.get_cut hn k
             exact ((hr.obj _ q o e2 h4).agree (cleanTo_ok h.n hc _ o h3 h4) cutPl_ext_low hmd).mono hext (fun _ _ h=>h)
          ·intro k q hq
           rcases hcase k q hq with ⟨_,e2⟩ | ⟨_,e2⟩
           ·subst e2;exact hr.blk id p hp
           ·exact hr.blk k q e2
          ·intro k k' q q' hq hq' e
           rcases hcase k q hq with ⟨a,b⟩ | ⟨a,b⟩ <;> rcases hcase k' q' hq' with ⟨a',b'⟩ | ⟨a',b'⟩
           ·omega
           ·subst b;have:=hr.inj id k' p q' hp b' e;omega
           ·subst b';have:=hr.inj k id q p b hp e;omega
           ·exact hr.inj k k' q q' b b' e
          ·intro b c' hb'
           by_cases e:b=p.blk
           ·simp [Md,e] at hb'
           ·simp only [Md,e,if_false] at hb'
            rcases dropM_some hb' with hb' | ⟨_,k⟩
            ·exact hr.imm b c' hb'
            ·exact k
          ·intro k q hq
           rcases hcase k q hq with ⟨_,e2⟩ | ⟨e1,e2⟩
           ·subst e2;simp [Md,p2]
           ·by_cases e:q.blk=p.blk
            ·simp [Md,e]
            ·simp only [Md,e,if_false]
             cases hd2:dropM pl' M' w' h.n q.blk with
             | none=>rfl
             | some c'=>
              rcases dropM_some hd2 with k1 | ⟨⟨id2,p3,k1,k2,k3⟩,_⟩
              ·rw [hr.sep k q e2] at k1;cases k1
              ·have:=hr.inj k id2 q p3 e2 k2 k3.symm;omega
          ·have hs1:=hs.cut hr0 hmd (fun b c' hb'=>by
            by_cases e:b=p.blk
            ·simp [Md,e] at hb'
            ·simp only [Md,e,if_false] at hb'
             exact (dropM_some hb').imp (fun k=>k) (fun k=>k.1)) hn
           refine ⟨hs1.ext.trans hext,fun k hk hp'=>?_,hs1.mem,hs1.size,hs1.kept,fun k q hq=>?_,fun k q hq hg=>?_,fun k q hq hg=>?_,hs1.memNew,hs1.os,hs1.tape,hs1.out,hs1.drawn⟩
           ·rw [upd_other (by omega)];exact hs1.new k hk hp'
           ·rcases hcase k q hq with ⟨e1,e2⟩ | ⟨e1,e2⟩
            ·subst e2
             rcases hs.blks id p hp with ⟨p0,k1,_⟩ | k1
             ·have:=hr0.dom id p0 k1;omega
             ·exact .inr k1
            ·exact hs.blks k q e2
           ·cases hg2:((h'.cut h.n).push (.row sz op 0 ys)).get k with
            | none=>rfl
            | some o=>
             rcases AHeap.get_push hg2 with ⟨k1,_⟩ | ⟨_,k1⟩
             ·have:=hr0.dom k q hq;rw [k1] at this;exact absurd this (Nat.lt_irrefl _)
             ·have:=hs1.live k q hq hg;rw [k1] at this;cases this
           ·rw [upd_other (by have:=hr0.dom k q hq;omega)];exact hs1.stay k q hq hg
       ·exact same e
      ·exact same e
     ·exact same e
    ·exact kept hc e
   ·exact same e
  ·exact same e
end
end Go.Ev

namespace Go.Ev
open Go
def After (pl:Pl) (M:Mem) (h:AHeap) (w:World) (v:AV) (h':AHeap) (cv:Value) (w':World):Prop:=
 ∃ pl' M',VRel pl' M' v cv∧Rep pl' M' h' w'∧Step h pl M w h' pl' M' w'∧h.n≤h'.n
def CallRes (P:Program) (pl:Pl) (M:Mem) (h:AHeap) (w:World) (f:FuncId) (vs:Array Value) (v:AV) (h':AHeap):Prop:=
 ((callFunc f vs).run P w = .ok (.enter f vs) w∧Calls P f vs w fun e w'=>∃ cv,e = .returned cv∧After pl M h w v h' cv w')∨
 (∃ cv w',(callFunc f vs).run P w = .ok (.value cv) w'∧After pl M h w v h' cv w')
def CallerOK (P:Program) (G:Env) (call:Caller):Prop:=
 ∀ (f:FuncId) (args:List AV) (h:AHeap) (v:AV) (h':AHeap),call f args h=some (v,h')→
  ∀ (pl:Pl) (M:Mem) (w:World) (vs:Array Value),GOk G pl M→Rep pl M h w→VRels pl M args vs→CallRes P pl M h w f vs v h'
structure SNow (G:Env) (N:Nat) (h0:AHeap) (pl0:Pl) (M0:Mem) (w0:World) (s:St) (a:Act) (w:World):Prop where
 ex : ∃ pl M,GOk G pl M∧Rep pl M s.heap w∧FrRel pl M s.tmps a∧Step h0 pl0 M0 w0 s.heap pl M w∧h0.n≤s.heap.n
 n:s.tmps.n=N
 small:N≤60000
section
variable {P : Program} {G : Env} {N : Nat} {h0 : AHeap} {pl0 : Pl} {M0 : Mem} {w0 : World} {pl : Pl} {M : Mem} {h h' : AHeap} {w w' : World} {v : AV} {A A' : Fr} {a a' : Act} {s s' : St} {call : Caller}
theorem putA_ok {dst:Option Tmp} {x:Value} (hf:FrRel pl M A a) (hv:VRel pl M v x) (hn:A.n≤60000) (e:putA A dst v=some A'):FrRel pl M A' (a.put dst x)∧A'.n=A.n:=by
 cases dst with
 | none=>simp [putA] at e;subst e;exact ⟨hf,rfl⟩
 | some d=>
  simp only [putA] at e
  have hn':A'.n=A.n:=by
   unfold Fr.put at e
   split at e
   ·simp at e;subst e;rfl
   ·simp at e
  refine ⟨⟨by simp [Act.put,hn',hf.size],by simpa [Act.put] using hf.defers,fun t u ht=>?_⟩,hn'⟩
  obtain ⟨_,h2,h3⟩:=Fr.get_put hn e ht
  rcases h3 with ⟨rfl,rfl⟩ | ⟨h4,h5⟩
  ·refine ⟨by rw [hn'];exact h2,?_⟩
   have:(a.put (some t) x).tmps.getD t undef=x:=by
    simp [Act.put,Array.getD_eq_getD_getElem?,hf.size,h2]
   rw [this];exact hv
  ·obtain ⟨k1,k2⟩:=hf.at_ t u h5
   refine ⟨by rw [hn'];exact k1,?_⟩
   have:(a.put (some d) x).tmps.getD t undef=a.tmps.getD t undef:=by
    simp [Act.put,Array.getD_eq_getD_getElem?,Array.getElem?_setIfInBounds,Ne.symm h4]
   rw [this];exact k2
theorem undef_rel:VRel pl M undefA undef:= .tuple rfl fun j y h=>by simp at h
theorem SNow.after {x:Value} {dst:Option Tmp} (hs:SNow G N h0 pl0 M0 w0 s a w) {pl':Pl} {M':Mem}
  (hb : ∀ pl M,GOk G pl M→Rep pl M s.heap w→FrRel pl M s.tmps a→After pl M s.heap w v h' x w') (e:putA s.tmps dst v=some A'):SNow G N h0 pl0 M0 w0 ⟨A',h'⟩ (a.put dst x) w':=by
 obtain ⟨⟨pl,M,g1,g2,g3,g4,g5⟩,hn,hsm⟩:=hs
 obtain ⟨pl',M',k1,k2,k3,k4⟩:=hb pl M g1 g2 g3
 obtain ⟨q1,q2⟩:=putA_ok (g3.mono k3.ext k3.mem) k1 (by omega) e
 exact ⟨⟨pl',M',g1.mono k3.ext k3.mem,k2,q1,g4.trans k3 g5,by simpa using Nat.le_trans g5 k4⟩,by simpa [q2] using hn,hsm⟩
theorem guardR_ok {ops:Array Oper} {o:Oper} {b:Bool} (hf:FrRel pl M A a) (e:guardR A (guardDst ops o)=some b):Region.wanted o (yielded ops a.tmps)=b:=by
 unfold guardDst at e
 unfold Region.wanted
 cases hg:o.guard with
 | none=>rw [hg] at e;simp [guardR] at e;simp [e]
 | some jw=>
  obtain ⟨j,want⟩:=jw
  rw [hg] at e
  simp only [] at e
  unfold yielded
  cases hd:(ops[j]?).bind (·.dst) with
  | none=>rw [hd] at e;simp [guardR] at e;subst e;simp [hd]
  | some d=>
   rw [hd] at e
   simp only [guardR] at e
   cases hA:A.get d with
   | none=>simp [hA] at e
   | some u=>
    rw [hA] at e
    obtain ⟨k1,k2⟩:=hf.at_ d u hA
    have hget:a.tmps[d]? = some (a.tmps.getD d undef):=getD_of (by rw [hf.size];exact k1)
    simp only [hd,Option.bind_some,hget]
    generalize a.tmps.getD d undef=x at k2
    cases k2 <;> first | (simp at e;done) | skip
    case bool b'=>cases b' <;> cases want <;> simp at e <;> subst e <;> rfl
    case tuple as vs h1 h3=>
     cases as with
     | cons y r=>simp at e
     | nil=>simp at e;subst e;simp
theorem oper_ok (hc:CallerOK P G call) {ops:Array Oper} {o:Oper} {k:St→Option St} {K:Act→World→Prop} {Q:Exit→Act→World→Prop}
  (hs:SNow G N h0 pl0 M0 w0 s a w) (e:stepR call (oneOper P G ops o) s k=some s')
  (hK : ∀ s1 a1 w1,SNow G N h0 pl0 M0 w0 s1 a1 w1→k s1=some s'→K a1 w1) :
  if Region.wanted o (yielded ops a.tmps) then o.wp P a w K Q∨(o.asks P a w∧LetsOut Q) else K (a.put o.dst undef) w:=by
 have finS : ∀ r:Option (AV × AHeap),fin s.tmps o.dst k r=some s'→∃ v h' A',r=some (v,h')∧putA s.tmps o.dst v=some A'∧k ⟨A',h'⟩=some s':=by
  intro r e
  unfold fin at e
  split at e
  ·split at e
   ·rename_i A' hA;exact ⟨_,_,A',rfl,hA,e⟩
   ·simp at e
  ·simp at e
 obtain ⟨pl,M,g1,g2,g3,g4,g5⟩:=hs.ex
 unfold stepR oneOper at e
 simp only [] at e
 split at e
 ·rename_i hg
  rw [guardR_ok g3 hg]
  simp only [if_true]
  left
  obtain ⟨v,h',A',e1,e2,e3⟩:=finS _ e
  cases hr:(opR P G o.op).run s.tmps s.heap with
  | none=>simp [hr,behind] at e1
  | some r=>
   rw [hr] at e1
   cases r with
   | val v1 h1=>
    simp [behind] at e1
    obtain ⟨rfl,rfl⟩:=e1
    obtain ⟨dst,op,ty,pos,after,guard⟩:=o
    obtain ⟨pl',M',cv,w',nx,q1,q2,q3,q4,q5,q6⟩:=ok_all (P:=P) (G:=G) op pl M s.tmps s.heap v1 h1 a w dst ty pos after guard g1 g2 g3 hr
    have key:SNow G N h0 pl0 M0 w0 ⟨A',h1⟩ (a.put dst cv) w':=by
     obtain ⟨p1,p2⟩:=putA_ok (g3.mono q5.ext q5.mem) q3 (by rw [hs.n];exact hs.small) e2
     exact ⟨⟨pl',M',g1.mono q5.ext q5.mem,q4,p1,g4.trans q5 g5,Nat.le_trans g5 q6⟩,by rw [← hs.n];exact p2,hs.small⟩
    unfold Oper.wp
    rw [q1]
    rcases q2 with rfl | ⟨rfl,rfl⟩
    ·exact hK _ _ _ key e3
    ·exact hK _ _ _ key e3
   | call f args=>
    simp only [behind] at e1
    obtain ⟨vs,q1,q2⟩:=ok_call (P:=P) (w:=w) g1 g3 hr
    have key : ∀ cv w',After pl M s.heap w v h' cv w'→SNow G N h0 pl0 M0 w0 ⟨A',h'⟩ (a.put o.dst cv) w':=by
     intro cv w' ⟨pl',M',k1,k2,k3,k4⟩
     obtain ⟨p1,p2⟩:=putA_ok (g3.mono k3.ext k3.mem) k1 (by rw [hs.n];exact hs.small) e2
     exact ⟨⟨pl',M',g1.mono k3.ext k3.mem,k2,p1,g4.trans k3 g5,Nat.le_trans g5 k4⟩,by rw [← hs.n];exact p2,hs.small⟩
    unfold Oper.wp
    rw [q2]
    rcases hc f args s.heap v h' e1 pl M w vs g1 g2 q1 with ⟨k1,k2⟩ | ⟨cv,w',k1,k2⟩
    ·rw [k1]
     refine Calls.mono k2 fun en w'' hh=>?_
     obtain ⟨cv,rfl,hh⟩:=hh
     exact hK _ _ _ (key cv w'' hh) e3
    ·rw [k1]
     exact hK _ _ _ (key cv w' k2) e3
 ·rename_i hg
  rw [guardR_ok g3 hg]
  simp only [Bool.false_eq_true,if_false]
  obtain ⟨v,h',A',e1,e2,e3⟩:=finS _ e
  simp at e1
  obtain ⟨rfl,rfl⟩:=e1
  obtain ⟨p1,p2⟩:=putA_ok g3 undef_rel (by rw [hs.n];exact hs.small) e2
  have hn2:A'.n=N:=by rw [p2];exact hs.n
  exact hK ⟨A',s.heap⟩ _ _ (⟨⟨pl,M,g1,g2,p1,g4,g5⟩,hn2,hs.small⟩:SNow G N h0 pl0 M0 w0 ⟨A',s.heap⟩ _ _) e3
 ·simp at e
theorem ops_ok (hc:CallerOK P G call) {ops:Array Oper} {Q:Exit→Act→World→Prop} (hQ : ∀ a1 w1,SNow G N h0 pl0 M0 w0 s' a1 w1→Q .normal a1 w1) :
  ∀ (l:List Oper) (i:Nat) (s:St) (a:Act) (w:World),(∀ j,ops[i+j]? = l[j]?)→(runOps P G ops l).run call s=some s'→SNow G N h0 pl0 M0 w0 s a w→wpOps P ops Q (List.range' i l.length) a w
 | [],i,s,a,w,hl,e,hs=>by
  simp [runOps] at e
  subst e
  exact hQ a w hs
 | o::r,i,s,a,w,hl,e,hs=>by
  simp only [runOps] at e
  have ho:ops[i]? = some o:=by simpa using hl 0
  simp only [List.length_cons,List.range'_succ,wpOps,ho]
  refine oper_ok (K:=wpOps P ops Q (List.range' (i+1) r.length)) hc hs e fun s1 a1 w1 h1 h2=>?_
  exact ops_ok hc hQ r (i+1) s1 a1 w1 (fun j=>by have:=hl (j+1);simpa [Nat.add_assoc,Nat.add_comm 1 j] using this) h2 h1
def toExit:AExit→Exit
 | .normal=> .normal
 | .exit id=> .exit id
 | .ret=> .ret
def DrawOK (P:Program) (G:Env) (call:Caller):Prop:=
 ∀ (N:Nat) (h0:AHeap) (pl0:Pl) (M0:Mem) (w0:World) (ops:Array Oper) (id:Nat) (s s':St) (a:Act) (w:World) (Q:Exit→Act→World→Prop),
  (drawOps P G ops).run call s=some s'→SNow G N h0 pl0 M0 w0 s a w→(∀ a1 w1,SNow G N h0 pl0 M0 w0 s' a1 w1→Q .normal a1 w1)→(Code.region id ops true).wp P Q a w
theorem norm_some {o:Option St} {e:AExit} (h:norm o=some (e,s')):o=some s'∧e = .normal:=by
 cases o with
 | none=>simp [norm] at h
 | some s=>simp [norm] at h;exact ⟨by rw [h.2],h.1.symm⟩
theorem code_ok (hc:CallerOK P G call) (hd:DrawOK P G call) (n:Nat) : ∀ (c:Code) (s:St) (e:AExit) (s':St) (a:Act) (w:World) (Q:Exit→Act→World→Prop),
  (evCode P G n c).run call s=some (e,s')→SNow G N h0 pl0 M0 w0 s a w→(∀ a1 w1,SNow G N h0 pl0 M0 w0 s' a1 w1→Q (toExit e) a1 w1)→c.wp P Q a w:=by
 intro c
 induction c with
 | skip=>
  intro s e s' a w Q he hs hQ
  simp [evCode] at he
  obtain ⟨rfl,rfl⟩:=he
  exact wp_skip (hQ a w hs)
 | label l=>
  intro s e s' a w Q he hs hQ
  simp [evCode] at he
  obtain ⟨rfl,rfl⟩:=he
  exact wp_label (hQ a w hs)
 | region id ops draw=>
  intro s e s' a w Q he hs hQ
  cases draw with
  | false=>
   simp only [evCode] at he
   obtain ⟨h1,rfl⟩:=norm_some he
   refine wp_region ?_
   rw [List.range_eq_range']
   have hlen:ops.size=ops.toList.length:=by simp
   rw [hlen]
   exact ops_ok hc hQ ops.toList 0 s a w (fun j=>by simp) h1 hs
  | true=>
   simp only [evCode] at he
   obtain ⟨h1,rfl⟩:=norm_some he
   exact hd N h0 pl0 M0 w0 ops id s s' a w Q h1 hs hQ
 | seq x y ihx ihy=>
  intro s e s' a w Q he hs hQ
  simp only [evCode] at he
  cases hx:(evCode P G n x).run call s with
  | none=>simp [hx,thenR] at he
  | some r=>
   obtain ⟨e1,s1⟩:=r
   rw [hx] at he
   refine wp_seq (ihx s e1 s1 a w _ hx hs fun a1 w1 h1=>?_)
   cases e1 with
   | normal=>exact ihy s1 e s' a1 w1 Q he h1 hQ
   | exit id=>simp [thenR] at he;obtain ⟨rfl,rfl⟩:=he;exact hQ a1 w1 h1
   | ret=>simp [thenR] at he;obtain ⟨rfl,rfl⟩:=he;exact hQ a1 w1 h1
 | cond c x y ihx ihy=>
  intro s e s' a w Q he hs hQ
  simp only [evCode] at he
  obtain ⟨pl,M,g1,g2,g3,g4,g5⟩:=hs.ex
  cases hcv:(opd G c).run s.tmps with
  | none=>simp [hcv,condR] at he
  | some cv=>
   have hv:=opd_ok g1 g3 hcv
   rw [hcv] at he
   cases cv <;> simp [condR] at he
   rename_i b
   generalize hq:a.eval c=x at hv
   cases hv
   cases b
   ·exact wp_cond_false hq (ihy s e s' a w Q (by simpa using he) hs hQ)
   ·exact wp_cond_true hq (ihx s e s' a w Q (by simpa using he) hs hQ)
 | block id b ih=>
  intro s e s' a w Q he hs hQ
  simp only [evCode] at he
  cases hx:(evCode P G n b).run call s with
  | none=>simp [hx,inBlock] at he
  | some r=>
   obtain ⟨e1,s1⟩:=r
   rw [hx] at he
   refine wp_block (ih s e1 s1 a w _ hx hs fun a1 w1 h1=>?_)
   cases e1 with
   | normal=>simp [inBlock] at he;obtain ⟨rfl,rfl⟩:=he;exact hQ a1 w1 h1
   | ret=>simp [inBlock] at he;obtain ⟨rfl,rfl⟩:=he;exact hQ a1 w1 h1
   | exit id'=>
    simp only [inBlock,beq_iff] at he
    by_cases hid:id'=id
    ·simp [hid] at he
     obtain ⟨rfl,rfl⟩:=he
     simp only [toExit,Exit.inBlock,hid,if_true]
     exact hQ a1 w1 h1
    ·simp [hid] at he
     obtain ⟨rfl,rfl⟩:=he
     simp only [toExit,Exit.inBlock,hid,if_false]
     exact hQ a1 w1 h1
 | loop b ih=>
  intro s e s' a w Q he hs hQ
  simp only [evCode] at he
  have key : ∀ (m:Nat) (s:St) (a:Act) (w:World),rounds ((evCode P G n b).run call) m s=some (e,s')→SNow G N h0 pl0 M0 w0 s a w→Code.rounds P b Q m a w:=by
   intro m
   induction m with
   | zero=>intro s a w h;simp [rounds] at h
   | succ m ihm=>
    intro s a w h hs
    have h:nextRound (rounds ((evCode P G n b).run call) m) ((evCode P G n b).run call s)=some (e,s'):=h
    rw [rounds_succ]
    cases hx:(evCode P G n b).run call s with
    | none=>simp [hx,nextRound] at h
    | some r=>
     obtain ⟨e1,s1⟩:=r
     rw [hx] at h
     refine ih s e1 s1 a w _ hx hs fun a1 w1 h1=>?_
     cases e1 with
     | normal=>exact ihm s1 a1 w1 h h1
     | exit id=>simp [nextRound] at h;obtain ⟨rfl,rfl⟩:=h;exact hQ a1 w1 h1
     | ret=>simp [nextRound] at h;obtain ⟨rfl,rfl⟩:=h;exact hQ a1 w1 h1
  exact wp_loop_rounds n (key n s a w he hs)
 | exit id=>
  intro s e s' a w Q he hs hQ
  simp [evCode] at he
  obtain ⟨rfl,rfl⟩:=he
  exact wp_exit (hQ a w hs)
 | scope b ih=>
  intro s e s' a w Q he hs hQ
  simp only [evCode] at he
  refine wp_scope_straight (ih s e s' a w _ he hs fun a1 w1 h1=>?_)
  cases e <;> exact hQ a1 w1 h1
 | ret=>
  intro s e s' a w Q he hs hQ
  simp [evCode] at he
  obtain ⟨rfl,rfl⟩:=he
  exact wp_ret (hQ a w hs)
 | _=>intro s e s' a w Q he hs hQ;simp [evCode] at he
end
end Go.Ev

namespace Go.Ev
open Go
section
variable {P : Program} {G : Env} {pl : Pl} {M : Mem} {h h' : AHeap} {w w' : World} {v : AV} {A : Fr} {a : Act}
def resM (tmps:Array Value):ResultVar→Sem Value
 | .tmp t=>pure (tmps.getD t undef)
 | .cell ad t=>do loadVar t (← asAddr (tmps.getD ad undef))
theorem results_eq (fn:Func) (tmps:Array Value):results fn tmps=(do let vs ← fn.results.mapM (resM tmps);pure (if h:vs.size=1 then vs[0] else .tuple vs)):=rfl
theorem resR_ok (hr:Rep pl M h w) (hf:FrRel pl M A a) {x:ResultVar} (e:(resR P x).run A h=some v) :
  ∃ cv,(resM a.tmps x).run P w = .ok cv w∧VRel pl M v cv:=by
 cases x with
 | tmp t=>exact ⟨_,rfl,(hf.at_ t v e).2⟩
 | cell ad t=>
  simp only [resR] at e
  split at e
  ·rename_i ag n h1 h2
   simp only [] at e
   cases hx:A.get ad with
   | none=>simp [hx,loadR] at e
   | some xv=>
    rw [hx] at e
    obtain ⟨ad',cv,k1,k2,k3⟩:=loadR_ok (P:=P) hr (hf.at_ ad xv hx).2 h1 h2 e
    exact ⟨cv,by simp [resM,k1,asAddr,k2],k3⟩
  ·simp at e
theorem resultsR_ok (hr:Rep pl M h w) (hf:FrRel pl M A a) : ∀ (l:List ResultVar) (vs:List AV),resultsR P l A h=some vs→
  ∃ cs:List Value,(l.mapM (resM a.tmps)).run P w = .ok cs w∧VRels pl M vs cs.toArray
 | [],vs,e=>by
  simp [resultsR] at e
  subst e
  exact ⟨[],rfl,⟨rfl,fun j y h=>by simp at h⟩⟩
 | x::r,vs,e=>by
  simp only [resultsR] at e
  cases hx:(resR P x).run A h with
  | none=>simp [hx] at e
  | some v=>
   cases hrr:resultsR P r A h with
   | none=>simp [hx,hrr] at e
   | some vr=>
    simp [hx,hrr] at e
    subst e
    obtain ⟨cv,k1,k2⟩:=resR_ok hr hf hx
    obtain ⟨cs,q1,q2⟩:=resultsR_ok hr hf r vr hrr
    refine ⟨cv::cs,?_,⟨by simp [q2.len],fun j y hj=>?_⟩⟩
    ·rw [List.mapM_cons]
     simp only [Sem.run_bind,k1,Result.andThen_ok,q1,Sem.run_pure]
    ·match j,hj with
     | 0,hj=>simp at hj;subst hj;simpa [Array.getD] using k2
     | j+1,hj=>
      have:=q2.at_ j y (by simpa using hj)
      simpa [Array.getD_eq_getD_getElem?] using this
theorem results_ok (hr:Rep pl M h w) (hf:FrRel pl M A a) {fn:Func} (e:oneOrTuple (resultsR P fn.results.toList A h)=some v) :
  ∃ cv,(results fn a.tmps).run P w = .ok cv w∧VRel pl M v cv:=by
 cases hl:resultsR P fn.results.toList A h with
 | none=>simp [hl,oneOrTuple] at e
 | some vs=>
  rw [hl] at e
  obtain ⟨cs,q1,q2⟩:=resultsR_ok hr hf _ _ hl
  have hrun:(results fn a.tmps).run P w = .ok (if h:cs.toArray.size=1 then cs.toArray[0] else .tuple cs.toArray) w:=by
   rw [results_eq,Sem.run_bind,Array.mapM_eq_mapM_toList,Sem.run_map,q1]
   rfl
  refine ⟨_,hrun,?_⟩
  have hlen:=q2.len
  unfold oneOrTuple at e
  split at e
  ·rename_i v1 q
   simp at q e
   subst q;subst e
   have hone:cs.toArray.size=1:=by rw [← hlen];rfl
   rw [dif_pos hone]
   have:=q2.at_ 0 _ rfl
   simpa [Array.getD,hone] using this
  ·rename_i vs' hne q
   simp at q e
   subst q;subst e
   have hne1 : ¬ cs.toArray.size=1:=by
    rw [← hlen]
    intro h1
    match vs,h1,hne with
    | [x],_,hne=>exact hne x rfl
   rw [dif_neg hne1]
   exact .tuple q2.len q2.at_
  ·simp at e
theorem argsFr_get {n:Nat} : ∀ (l:List AV) (i:Nat) (t:Tr AV) (j:Nat) (u:AV),i+l.length≤60000→(argsFr n l i t).get j=some u→(i≤j∧l[j - i]? = some u)∨t.get j=some u
 | [],i,t,j,u,_,h=> .inr h
 | x::r,i,t,j,u,hl,h=>by
  simp only [argsFr] at h
  simp only [List.length_cons] at hl
  rcases argsFr_get r (i+1) _ j u (by omega) h with ⟨h1,h2⟩ | h1
  ·refine .inl ⟨by omega,?_⟩
   rw [show j - i=(j - (i+1))+1 by omega]
   simpa using h2
  ·rcases Tr.get_set 16 t i x j u (by omega) h1 with ⟨rfl,rfl⟩ | ⟨_,h2⟩
   ·exact .inl ⟨Nat.le_refl _,by simp⟩
   ·exact .inr h2
theorem start_fr {args:List AV} {vs:Array Value} {n:Nat} (hv:VRels pl M args vs) (hn:args.length≤n) (hs:n≤60000) :
  FrRel pl M ⟨n,argsFr n args 0 .nil⟩ { tmps:=vs++Array.replicate (n - vs.size) undef,defers:= [] }:=by
 have hl:=hv.len
 refine ⟨by simp;omega,rfl,fun t u ht=>?_⟩
 rcases argsFr_get args 0 .nil t u (by omega) ht with ⟨_,h2⟩ | h2
 ·have h2:args[t]? = some u:=by simpa using h2
  have hlt:t<args.length:=(List.getElem?_eq_some_iff.1 h2).1
  refine ⟨by show t<n;omega,?_⟩
  have:=hv.at_ t u h2
  have e:(vs++Array.replicate (n - vs.size) undef).getD t undef=vs.getD t undef:=by
   simp only [Array.getD_eq_getD_getElem?]
   rw [Array.getElem?_append_left (by omega)]
  show VRel pl M u ((vs++Array.replicate (n - vs.size) undef).getD t undef)
  rw [e];exact this
 ·rw [Tr.get_nil] at h2;cases h2
def NoNG (P : Program) : Prop := ∀ (f : FuncId) (fn : Func), P.funcs[f]? = some fn → (fn.name == "runtime.NumGoroutine") = false
def HookOK (C:Cfg):Prop:=
 ∀ (f:FuncId) (args:List AV) (h:AHeap) (v:AV) (h':AHeap),C.hook f args h=some (v,h')→
  ∀ (pl:Pl) (M:Mem) (w:World) (vs:Array Value),GOk C.G pl M→Rep pl M h w→VRels pl M args vs→CallRes C.P pl M h w f vs v h'
theorem enterR_ok {C:Cfg} {call:Caller} (hN:NoNG C.P) (hc:CallerOK C.P C.G call) (hd:DrawOK C.P C.G call) {f:FuncId} {args:List AV} (e:enterR C call f args h (funcR C f)=some (v,h'))
  {vs:Array Value} (hg:GOk C.G pl M) (hr:Rep pl M h w) (hv:VRels pl M args vs):CallRes C.P pl M h w f vs v h':=by
 unfold funcR at e
 cases hf:C.P.funcs[f]? with
 | none=>simp [hf,enterR] at e
 | some fn=>
  cases hb:fn.body with
  | none=>simp [hf,hb,enterR] at e
  | some c=>
   simp only [hf,hb,enterR] at e
   split at e
   ·rename_i hck
    simp only [ble_iff,Bool.and_eq_true,decide_eq_true_eq] at hck
    left
    refine ⟨?_,?_⟩
    ·have hne:=hN f fn hf
     simp only [beq_eq_false_iff_ne,ne_eq] at hne
     simp [callFunc,hf,hne,hb]
    ·refine calls_of_wp hf hb ?_
     cases hx:(evCode C.P C.G C.rounds c).run call ⟨⟨fn.ntmps,argsFr fn.ntmps args 0 .nil⟩,h⟩ with
     | none=>simp [hx,endR] at e
     | some r=>
      obtain ⟨ex,s1⟩:=r
      rw [hx] at e
      have hs0:SNow C.G fn.ntmps h pl M w ⟨⟨fn.ntmps,argsFr fn.ntmps args 0 .nil⟩,h⟩ { tmps:=vs++Array.replicate (fn.ntmps - vs.size) undef,defers:= [] } w:=
       ⟨⟨pl,M,hg,hr,start_fr hv hck.1 hck.2,Step.refl _ _ _ _,Nat.le_refl _⟩,rfl,hck.2⟩
      refine code_ok hc hd C.rounds c _ ex s1 _ w _ hx hs0 fun a1 w1 h1=>?_
      have fin : ∀ r,leaveR (C.pol f) h.n s1.heap (oneOrTuple (resultsR C.P fn.results.toList s1.tmps s1.heap))=some r→r=(v,h')→
        a1.defers = []∧∃ u,(results fn a1.tmps).run C.P w1 = .ok u w1∧∃ cv,Ending.returned u = .returned cv∧After pl M h w v h' cv w1:=by
       intro r er hrr
       obtain ⟨pl1,M1,g1,g2,g3,g4,g5⟩:=h1.ex
       cases hres:oneOrTuple (resultsR C.P fn.results.toList s1.tmps s1.heap) with
       | none=>rw [hres] at er;simp [leaveR] at er
       | some v1=>
        rw [hres] at er
        simp only [leaveR,Option.some.injEq] at er
        obtain ⟨cv,k1,k2⟩:=results_ok g2 g3 hres
        obtain ⟨pl2,M2,q1,q2,q3,q4⟩:=leave_ok (C.pol f) hr g2 k2 g4 g5 (er.trans hrr)
        exact ⟨g3.defers,cv,k1,cv,rfl,pl2,M2,q1,q2,q3,q4⟩
      cases ex with
      | exit id=>simp [endR] at e
      | normal=>exact fin _ e rfl
      | ret=>exact fin _ e rfl
   ·simp at e
theorem evFunc_ok {C:Cfg} (hN:NoNG C.P) (hH:HookOK C) (hd : ∀ call,CallerOK C.P C.G call→DrawOK C.P C.G call) : ∀ (k:Nat),CallerOK C.P C.G (evFunc C k)
 | 0=>by intro f args h v h' e;simp [evFunc] at e
 | k+1=>by
  intro f args h v h' e pl M w vs hg hr hv
  have e:orEnter C (evFunc C k) f args h (C.hook f args h)=some (v,h'):=e
  have ih:=evFunc_ok hN hH hd k
  cases hh:C.hook f args h with
  | some r=>
   rw [hh] at e
   simp [orEnter] at e
   subst e
   exact hH f args h v h' hh pl M w vs hg hr hv
  | none=>
   rw [hh] at e
   exact enterR_ok hN ih (hd _ ih) e hg hr hv
end
end Go.Ev

namespace Go.Ev
open Go
def mergePl (pl pl':Pl) (n:Nat):Pl:=fun id=>if id<n then pl' id else pl id
open Classical in
noncomputable def mergeG (W:Nat→Prop) (g g':Nat→Option AObj):Nat→Option AObj:=fun id=>if W id then g' id else g id
section
variable {P : Program} {G : Env} {pl pl' : Pl} {M M' : Mem} {w w' : World}
theorem mergeG_in {W:Nat→Prop} {g g':Nat→Option AObj} {id:Nat} (h:W id):mergeG W g g' id=g' id:=by simp [mergeG,h]
theorem mergeG_out {W:Nat→Prop} {g g':Nat→Option AObj} {id:Nat} (h : ¬ W id):mergeG W g g' id=g id:=by simp [mergeG,h]
theorem merge {nk n0:Nat} {g:Nat→Option AObj} {hv h':AHeap} {W:Nat→Prop} (hr:RepF pl M nk g w) (hn0:n0≤hv.n) (hvg : ∀ id o,hv.get id=some o→g id=some o)
  (hr':Rep pl' M' h' w') (hs:Step hv (cutPl pl hv.n) M w h' pl' M' w') (hle:hv.n≤h'.n) (hnk:h'.n=hv.n∨h'.n≤nk)
  (hU : ∀ id,hv.n≤id→id<h'.n→pl id=none)
  (W1 : ∀ id,id<hv.n→¬ W id→hv.get id≠none→h'.get id=hv.get id)
  (W2 : ∀ id,W id→id<hv.n→hv.get id≠none) (W3 : ∀ id,W id→id<h'.n) (W4 : ∀ id,hv.n≤id→id<h'.n→W id) :
  RepF (mergePl pl pl' h'.n) M' nk (mergeG W g h'.get) w'∧StepF n0 g pl M w (mergeG W g h'.get) (mergePl pl pl' h'.n) M' w'∧Ext pl' (mergePl pl pl' h'.n)∧Ext pl (mergePl pl pl' h'.n):=by
 have ext':Ext pl' (mergePl pl pl' h'.n):=fun id p hp=>⟨p,by simp [mergePl,hr'.dom id p hp,hp],Nat.le_refl _,fun _=>rfl⟩
 have hcase : ∀ id q,mergePl pl pl' h'.n id=some q→(id<h'.n∧pl' id=some q)∨(h'.n≤id∧pl id=some q):=by
  intro id q hq
  unfold mergePl at hq
  by_cases e:id<h'.n
  ·simp [e] at hq;exact .inl ⟨e,hq⟩
  ·simp [e] at hq;exact .inr ⟨by omega,hq⟩
 have hgone : ∀ id,g id=none→hv.get id=none:=by
  intro id hg
  cases hv2:hv.get id with
  | none=>rfl
  | some o=>rw [hvg id o hv2] at hg;cases hg
 have low : ∀ id p,pl id=some p→id<h'.n→id<hv.n:=by
  intro id p hp hid
  rcases Nat.lt_or_ge id hv.n with h1 | h1
  ·exact h1
  ·rw [hU id h1 hid] at hp;cases hp
 have back : ∀ id q,pl' id=some q→id<hv.n→∃ p,pl id=some p:=by
  intro id q hq hid
  cases hp:pl id with
  | some p=>exact ⟨p,rfl⟩
  | none=>
   have:=hs.new id hid (by simp [cutPl,hp])
   rw [this] at hq;cases hq
 have ext:Ext pl (mergePl pl pl' h'.n):=by
  intro id p hp
  by_cases e:id<h'.n
  ·obtain ⟨p',h1,h2⟩:=hs.ext id p (cutPl_some.2 ⟨low id p hp e,hp⟩)
   exact ⟨p',by simp [mergePl,e,h1],h2⟩
  ·exact ⟨p,by simp [mergePl,e,hp],Nat.le_refl _,fun _=>rfl⟩
 have unseen : ∀ id p,pl id=some p→hv.get id=none→w'.heap[p.blk]? = w.heap[p.blk]?:=by
  intro id p hp hg
  refine hs.kept p.blk (hr.blk id p hp) fun id2 p2 h2 h3 e=>?_
  have:=hr.inj id2 id p2 p (cutPl_some.1 h2).2 hp e
  subst this
  exact h3 hg
 have blks : ∀ id q,mergePl pl pl' h'.n id=some q→(∃ p,pl id=some p∧p.blk=q.blk)∨w.heap.size≤q.blk:=by
  intro id q hq
  rcases hcase id q hq with ⟨h1,h2⟩ | ⟨h1,h2⟩
  ·rcases hs.blks id q h2 with ⟨p,k1,k2⟩ | k
   ·exact .inl ⟨p,(cutPl_some.1 k1).2,k2⟩
   ·exact .inr k
  ·exact .inl ⟨q,h2,rfl⟩
 have hge : ∀ id,h'.n≤id→hv.get id=none:=by
  intro id hid
  cases h2:hv.get id with
  | none=>rfl
  | some o=>have:=(AHeap.get_some.1 h2).1;omega
 refine ⟨⟨?_,?_,?_,?_,hr'.imm,?_⟩,⟨ext,?_,hs.mem,hs.size,?_,blks,?_,?_,hs.memNew,hs.os,hs.tape,hs.out,hs.drawn⟩,ext',ext⟩
 ·intro id q hq
  rcases hcase id q hq with ⟨h1,h2⟩ | ⟨h1,h2⟩
  ·rcases Nat.lt_or_ge id hv.n with k | k
   ·obtain ⟨p,hp⟩:=back id q h2 k
    exact hr.dom id p hp
   ·rcases hnk with k2 | k2 <;> omega
  ·exact hr.dom id q h2
 ·intro id q o hq hg
  rcases hcase id q hq with ⟨h1,h2⟩ | ⟨h1,h2⟩
  ·by_cases hW:W id
   ·rw [mergeG_in hW] at hg
    exact (hr'.obj id q o h2 hg).mono ext' (fun _ _ h=>h)
   ·rw [mergeG_out hW] at hg
    have hlow:id<hv.n:=by
     rcases Nat.lt_or_ge id hv.n with k | k
     ·exact k
     ·exact absurd (W4 id k h1) hW
    cases hvv:hv.get id with
    | some o1=>
     have h3:=hvg id o1 hvv
     rw [hg] at h3
     have h4:=W1 id hlow hW (by rw [hvv];simp)
     rw [hvv,← h3] at h4
     exact (hr'.obj id q o h2 h4).mono ext' (fun _ _ h=>h)
    | none=>
     obtain ⟨p,hp⟩:=back id q h2 hlow
     have h3:=hs.stay id p (cutPl_some.2 ⟨hlow,hp⟩) hvv
     rw [h2] at h3
     have h3:=Option.some.inj h3
     subst h3
     rw [unseen id q hp hvv]
     exact (hr.obj id q o hp hg).mono ext hs.mem
  ·have hW : ¬ W id:=fun hW=>by have:=W3 id hW;omega
   rw [mergeG_out hW] at hg
   rw [unseen id q h2 (hge id h1)]
   exact (hr.obj id q o h2 hg).mono ext hs.mem
 ·intro id q hq
  rcases hcase id q hq with ⟨h1,h2⟩ | ⟨h1,h2⟩
  ·exact hr'.blk id q h2
  ·have:=hr.blk id q h2;have:=hs.size;omega
 ·intro id id2 q q2 hq hq2 e
  rcases hcase id q hq with ⟨h1,h2⟩ | ⟨h1,h2⟩ <;> rcases hcase id2 q2 hq2 with ⟨k1,k2⟩ | ⟨k1,k2⟩
  ·exact hr'.inj id id2 q q2 h2 k2 e
  ·rcases hs.blks id q h2 with ⟨p,r1,r2⟩ | r
   ·exact hr.inj id id2 p q2 (cutPl_some.1 r1).2 k2 (r2.trans e)
   ·have:=hr.blk id2 q2 k2;omega
  ·rcases hs.blks id2 q2 k2 with ⟨p,r1,r2⟩ | r
   ·exact hr.inj id id2 q p h2 (cutPl_some.1 r1).2 (e.trans r2.symm)
   ·have:=hr.blk id q h2;omega
  ·exact hr.inj id id2 q q2 h2 k2 e
 ·intro id q hq
  rcases hcase id q hq with ⟨h1,h2⟩ | ⟨h1,h2⟩
  ·exact hr'.sep id q h2
  ·cases hm:M' q.blk with
   | none=>rfl
   | some c=>
    rcases hs.memNew _ c hm with k | k
    ·rw [hr.sep id q h2] at k;cases k
    ·have:=hr.blk id q h2;omega
 ·intro id hid hp
  have h1:id<h'.n:=by omega
  simp only [mergePl,h1,if_true]
  exact hs.new id (by omega) (by simp [cutPl,hp])
 ·intro b hb hn
  refine hs.kept b hb fun id p h1 h2=>?_
  refine hn id p (cutPl_some.1 h1).2 fun hg=>h2 (hgone id hg)
 ·intro id p hp hg
  by_cases hW:W id
  ·exfalso
   have h1:=low id p hp (W3 id hW)
   exact W2 id hW h1 (hgone id hg)
  ·rw [mergeG_out hW];exact hg
 ·intro id p hp hg
  by_cases e:id<h'.n
  ·have h1:=low id p hp e
   simp only [mergePl,e,if_true]
   exact hs.stay id p (cutPl_some.2 ⟨h1,hp⟩) (hgone id hg)
  ·simp [mergePl,e,hp]
end
end Go.Ev

namespace Go.Ev
open Go
section
variable {P : Program} {G : Env} {pl pl' : Pl} {M M' : Mem} {h h' : AHeap} {w w' : World} {v : AV} {A F : Fr} {a : Act}
theorem rdV {o:Option AV} {v:AV} {h':AHeap} (e:retV h o=some (.val v h')):h'=h:=by
 cases o <;> simp [retV] at e
 exact e.2.symm
theorem reader_heap (op:Op) (hk:kindOf op=0) (e:(opR P G op).run A h=some (.val v h')):h'=h:=by
 cases op
 case makeFunc f x y=>
  simp only [opR] at e
  split at e
  ·simp at e;exact e.2.symm
  ·simp at e
 case build t parts=>
  simp only [opR] at e
  repeat' (first | exact (fail_run e).elim | (unfold aggR at e;split at e;split at e;exact rdV e) | exact (fail_run e).elim | (split at e) | (simp only [] at e))
 case call c=>
  obtain ⟨callee,args,ts⟩:=c
  cases callee with
  | builtin b=>
   simp only [opR] at e
   unfold builtinOp at e
   repeat' (first | (simp [kindOf] at hk;done) | exact rdV e | exact (fail_run e).elim | (simp at e;done) | (split at e) | (simp only [] at e))
  | invoke r n=>simp [kindOf] at hk
  | value f=>simp [kindOf] at hk
 all_goals first | (simp [kindOf] at hk;done) | skip
 all_goals (simp only [opR] at e;(try unfold convOp at e);(try unfold aggR at e);(try unfold builtinOp at e);repeat' (first | exact rdV e | exact (fail_run e).elim | (simp at e;done) | (split at e) | (simp only [] at e)))
theorem lookFr_get {l:List Tmp} : ∀ {t0:Tr AV} {x:Tmp} {u:AV},(lookFr F l t0).get x=some u→(x∈l∧F.get x=some u)∨t0.get x=some u:=by
 induction l with
 | nil=>intro t0 x u h;exact .inr h
 | cons y r ih=>
  intro t0 x u h
  simp only [lookFr] at h
  rcases ih h with ⟨h1,h2⟩ | h1
  ·exact .inl ⟨List.mem_cons_of_mem _ h1,h2⟩
  ·cases hy:F.get y with
   | none=>rw [hy] at h1;exact .inr h1
   | some z=>
    rw [hy,blt_iff] at h1
    by_cases hlt:y<60000
    ·simp only [hlt,decide_true] at h1
     rcases Tr.get_set 16 t0 y z x u (Nat.lt_trans (Nat.succ_lt_succ hlt) (by decide)) h1 with ⟨rfl,rfl⟩ | ⟨_,h2⟩
     ·exact .inl ⟨by simp,hy⟩
     ·exact .inr h2
    ·simp only [hlt,decide_false] at h1
     exact .inr h1
theorem onlyT_get {ids:List Nat} : ∀ {t0:Tr AObj} {id:Nat} {o:AObj},(onlyT h ids t0).get id=some o→(id∈ids∧h.get id=some o)∨t0.get id=some o:=by
 induction ids with
 | nil=>intro t0 x u h;exact .inr h
 | cons y r ih=>
  intro t0 x u hx
  simp only [onlyT] at hx
  rcases ih hx with ⟨h1,h2⟩ | h1
  ·exact .inl ⟨List.mem_cons_of_mem _ h1,h2⟩
  ·cases hy:h.get y with
   | none=>rw [hy] at h1;exact .inr h1
   | some z=>
    rw [hy] at h1
    have hlt:=(AHeap.get_some.1 hy).2.1
    rcases Tr.get_set 20 t0 y z x u (by omega) h1 with ⟨rfl,rfl⟩ | ⟨_,h2⟩
    ·exact .inl ⟨by simp,hy⟩
    ·exact .inr h2
theorem only_get {ids:List Nat} {n id:Nat} {o:AObj} (e:(⟨n,onlyT h ids .nil⟩:AHeap).get id=some o):id∈ids∧h.get id=some o:=by
 obtain ⟨_,_,h3⟩:=AHeap.get_some.1 e
 rcases onlyT_get h3 with h | h
 ·exact h
 ·rw [Tr.get_nil] at h;cases h
theorem topsAt_ok {n:Nat} {l:List Tmp} (e:topsAt F n l=true) : ∀ t u,t∈l→F.get t=some u→u.top≤n:=by
 induction l with
 | nil=>intro t u h;simp at h
 | cons x r ih=>
  simp only [topsAt,Bool.and_eq_true] at e
  intro t u ht hu
  rcases List.mem_cons.1 ht with rfl | ht
  ·have:=e.1;rw [hu] at this;simpa [ble_iff] using this
  ·exact ih e.2 t u ht hu
theorem objsAt_ok {n:Nat} {l:List Nat} (e:objsAt h n l=true) : ∀ id o,id∈l→h.get id=some o→o.top≤n:=by
 induction l with
 | nil=>intro t u h;simp at h
 | cons x r ih=>
  simp only [objsAt,Bool.and_eq_true] at e
  intro t u ht hu
  rcases List.mem_cons.1 ht with rfl | ht
  ·have:=e.1;rw [hu] at this;simpa [ble_iff] using this
  ·exact ih e.2 t u ht hu
theorem hasId_iff {id:Nat} : ∀ {l:List Nat},hasId id l=true↔id∈l
 | []=>by simp [hasId]
 | x::r=>by
  simp only [hasId,Bool.or_eq_true,beq_iff,decide_eq_true_eq,List.mem_cons,hasId_iff (l:=r)]
  exact or_congr_left ⟨Eq.symm,Eq.symm⟩
def Ids.Holds (X:Ids) (id:Nat):Prop:=(X.all=true∧id<X.lo)∨id∈X.l∨(X.lo≤id∧id<X.hi)
theorem Ids.has_iff {X:Ids} {id:Nat} : X.has id=true↔X.Holds id:=by
 unfold Ids.has Ids.Holds
 simp only [Bool.or_eq_true,Bool.and_eq_true,blt_iff,ble_iff,decide_eq_true_eq,hasId_iff,or_assoc]
theorem anyIn_of {X:Ids} : ∀ {l:List Nat} {id:Nat},id∈l→X.Holds id→anyIn X l=true
 | x::r,id,h,hm=>by
  simp only [anyIn,Bool.or_eq_true]
  rcases List.mem_cons.1 h with rfl | h
  ·exact .inl (Ids.has_iff.2 hm)
  ·exact .inr (anyIn_of h hm)
theorem Ids.meets_of {X Y:Ids} {id:Nat} (hx:X.Holds id) (hy:Y.Holds id):X.meets Y=true:=by
 unfold Ids.meets
 simp only [Bool.or_eq_true,Bool.and_eq_true,blt_iff,decide_eq_true_eq]
 have hx0:=hx
 have hy0:=hy
 rcases hy with ⟨h1,h2⟩ | h1 | ⟨h1,h2⟩
 ·rcases hx with ⟨k1,k2⟩ | k1 | ⟨k1,k2⟩
  ·exact .inl (.inl (.inl (.inr ⟨⟨⟨k1,h1⟩,by omega⟩,by omega⟩)))
  ·exact .inl (.inl (.inl (.inl (.inr (anyIn_of k1 hy0)))))
  ·exact .inl (.inr ⟨⟨h1,by omega⟩,by omega⟩)
 ·exact .inl (.inl (.inl (.inl (.inl (anyIn_of h1 hx0)))))
 ·rcases hx with ⟨k1,k2⟩ | k1 | ⟨k1,k2⟩
  ·exact .inl (.inl (.inr ⟨⟨k1,by omega⟩,by omega⟩))
  ·exact .inl (.inl (.inl (.inl (.inr (anyIn_of k1 hy0)))))
  ·exact .inr ⟨⟨⟨by omega,by omega⟩,by omega⟩,by omega⟩
end
end Go.Ev

namespace Go.Ev
open Go
section
variable {P : Program} {G : Env} {pl pl' : Pl} {M M' : Mem} {h h' hv : AHeap} {w w' : World} {v : AV} {A F : Fr} {a : Act} {call : Caller}
theorem shown_rep {nk:Nat} {g:Nat→Option AObj} (hr:RepF pl M nk g w) (hvg : ∀ id o,hv.get id=some o→g id=some o) (ho : ∀ id o,hv.get id=some o→o.top≤hv.n) :
  Rep (cutPl pl hv.n) M hv w:=by
 refine ⟨fun id p hp=>(cutPl_some.1 hp).1,fun id p o hp hg=>?_,fun id p hp=>hr.blk id p (cutPl_some.1 hp).2,fun id id' p p' h1 h2=>hr.inj id id' p p' (cutPl_some.1 h1).2 (cutPl_some.1 h2).2,hr.imm,fun id p hp=>hr.sep id p (cutPl_some.1 hp).2⟩
 obtain ⟨h1,h2⟩:=cutPl_some.1 hp
 exact (hr.obj id p o h2 (hvg id o hg)).agree (ho id o hg) cutPl_ext_low (fun _ _ h=>h)
theorem shown_val {nk n0:Nat} {g:Nat→Option AObj} {W:Nat→Prop} {o:Oper} (hr:RepF pl M nk g w) (hn0:n0≤hv.n) (hvg : ∀ id o,hv.get id=some o→g id=some o) (ho : ∀ id o,hv.get id=some o→o.top≤hv.n)
  (hf:FrRel (cutPl pl hv.n) M A a) (hg:GOk G (cutPl pl hv.n) M) (e:(opR P G o.op).run A hv=some (.val v h')) (hnk:h'.n=hv.n∨h'.n≤nk)
  (hU : ∀ id,hv.n≤id→id<h'.n→pl id=none) (W1 : ∀ id,id<hv.n→¬ W id→hv.get id≠none→h'.get id=hv.get id)
  (W2 : ∀ id,W id→id<hv.n→hv.get id≠none) (W3 : ∀ id,W id→id<h'.n) (W4 : ∀ id,hv.n≤id→id<h'.n→W id)
  {K:Act→World→Prop} {Q:Exit→Act→World→Prop}
  (hK : ∀ cv w' pl' M',RepF pl' M' nk (mergeG W g h'.get) w'→StepF n0 g pl M w (mergeG W g h'.get) pl' M' w'→VRel pl' M' v cv→Ext pl pl'→(∀ id,h'.n≤id→pl' id=pl id)→K (a.put o.dst cv) w') :
  o.wp P a w K Q:=by
 obtain ⟨dst,op,ty,pos,after,guard⟩:=o
 obtain ⟨pl1,M1,cv,w1,nx,q1,q2,q3,q4,q5,q6⟩:=ok_all (P:=P) (G:=G) op (cutPl pl hv.n) M A hv v h' a w dst ty pos after guard hg (shown_rep hr hvg ho) hf e
 obtain ⟨r1,r2,r3,r4⟩:=merge hr hn0 hvg q4 q5 q6 hnk hU W1 W2 W3 W4
 have key:=hK cv w1 _ M1 r1 r2 (q3.mono r3 (fun _ _ h=>h)) r4 (fun id hid=>by simp [mergePl,Nat.not_lt.2 hid])
 unfold Oper.wp
 rw [q1]
 rcases q2 with rfl | ⟨rfl,rfl⟩
 ·exact key
 ·exact key
theorem shown_call {nk n0:Nat} {g:Nat→Option AObj} {W:Nat→Prop} {o:Oper} (hc:CallerOK P G call) (hr:RepF pl M nk g w) (hn0:n0≤hv.n) (hvg : ∀ id o,hv.get id=some o→g id=some o) (ho : ∀ id o,hv.get id=some o→o.top≤hv.n)
  (hf:FrRel (cutPl pl hv.n) M A a) (hg:GOk G (cutPl pl hv.n) M) {f:FuncId} {args:List AV} (e:(opR P G o.op).run A hv=some (.call f args)) (e2:call f args hv=some (v,h')) (hnk:h'.n=hv.n∨h'.n≤nk)
  (hU : ∀ id,hv.n≤id→id<h'.n→pl id=none) (W1 : ∀ id,id<hv.n→¬ W id→hv.get id≠none→h'.get id=hv.get id)
  (W2 : ∀ id,W id→id<hv.n→hv.get id≠none) (W3 : ∀ id,W id→id<h'.n) (W4 : ∀ id,hv.n≤id→id<h'.n→W id)
  {K:Act→World→Prop} {Q:Exit→Act→World→Prop}
  (hK : ∀ cv w' pl' M',RepF pl' M' nk (mergeG W g h'.get) w'→StepF n0 g pl M w (mergeG W g h'.get) pl' M' w'→VRel pl' M' v cv→Ext pl pl'→(∀ id,h'.n≤id→pl' id=pl id)→K (a.put o.dst cv) w') :
  o.wp P a w K Q:=by
 obtain ⟨vs,k1,k2⟩:=ok_call (P:=P) (w:=w) hg hf e
 have fin : ∀ cv w1,After (cutPl pl hv.n) M hv w v h' cv w1→K (a.put o.dst cv) w1:=by
  intro cv w1 ⟨pl1,M1,q3,q4,q5,q6⟩
  obtain ⟨r1,r2,r3,r4⟩:=merge hr hn0 hvg q4 q5 q6 hnk hU W1 W2 W3 W4
  exact hK cv w1 _ M1 r1 r2 (q3.mono r3 (fun _ _ h=>h)) r4 (fun id hid=>by simp [mergePl,Nat.not_lt.2 hid])
 unfold Oper.wp
 rw [k2]
 rcases hc f args hv v h' e2 _ M w vs hg (shown_rep hr hvg ho) k1 with ⟨q1,q2⟩ | ⟨cv,w1,q1,q2⟩
 ·rw [q1]
  refine Calls.mono q2 fun en w'' hh=>?_
  obtain ⟨cv,rfl,hh⟩:=hh
  exact fin cv w'' hh
 ·rw [q1]
  exact fin cv w1 q2
end
end Go.Ev

namespace Go.Ev
open Go
section
variable {P : Program} {G : Env} {pl pl' : Pl} {M M' : Mem} {h h' h1 hv : AHeap} {w w' : World} {v : AV} {A F : Fr} {a : Act} {call : Caller}
theorem lookFr_rel {l:List Tmp} (hs:a.tmps.size=F.n) (hd:a.defers = []) (hF : ∀ t u,t∈l→F.get t=some u→t<F.n∧VRel pl M u (a.tmps.getD t undef)):FrRel pl M ⟨F.n,lookFr F l .nil⟩ a:=by
 refine ⟨hs,hd,fun t u ht=>?_⟩
 rcases lookFr_get ht with ⟨h1,h2⟩ | h1
 ·exact hF t u h1 h2
 ·rw [Tr.get_nil] at h1;cases h1
theorem laid_get {ids:List Nat} : ∀ {H H':AHeap},laid hv h' ids H=some H'→H'.n=H.n∧∀ id o,H'.get id=some o→(id∈ids∧hv.get id≠none∧h'.get id=some o)∨((id∈ids→hv.get id=none)∧H.get id=some o):=by
 induction ids with
 | nil=>intro H H' e;simp [laid] at e;subst e;exact ⟨rfl,fun id o h=> .inr ⟨fun h=>by simp at h,h⟩⟩
 | cons x r ih=>
  intro H H' e
  simp only [laid] at e
  cases hx:hv.get x with
  | none=>
   rw [hx] at e
   obtain ⟨k1,k2⟩:=ih e
   refine ⟨k1,fun id o h=>?_⟩
   rcases k2 id o h with ⟨q1,q2⟩ | ⟨q1,q2⟩
   ·exact .inl ⟨List.mem_cons_of_mem _ q1,q2⟩
   ·refine .inr ⟨fun hm=>?_,q2⟩
    rcases List.mem_cons.1 hm with rfl | hm
    ·exact hx
    ·exact q1 hm
  | some y=>
   cases hy:h'.get x with
   | none=>simp [hx,hy] at e
   | some o1=>
    simp only [hx,hy] at e
    obtain ⟨k1,k2⟩:=ih e
    have hlt:=(AHeap.get_some.1 hx).2.1
    refine ⟨k1,fun id o h=>?_⟩
    rcases k2 id o h with ⟨q1,q2⟩ | ⟨q1,q2⟩
    ·exact .inl ⟨List.mem_cons_of_mem _ q1,q2⟩
    ·rcases AHeap.get_put hlt q2 with ⟨rfl,rfl⟩ | ⟨q3,q4⟩
     ·exact .inl ⟨by simp,by rw [hx];simp,hy⟩
     ·refine .inr ⟨fun hm=>?_,q4⟩
      rcases List.mem_cons.1 hm with rfl | hm
      ·exact absurd rfl q3
      ·exact q1 hm
theorem laidNew_get {H H':AHeap} (hH:H.n=h.n) (e:laidNew h h' H=some H'):H'.n=h'.n∧h.n≤h'.n∧∀ id o,H'.get id=some o→(id<h.n∧H.get id=some o)∨(h.n≤id∧h'.get id=some o):=by
 unfold laidNew at e
 rw [beq_iff] at e
 by_cases q:h'.n=h.n
 ·simp [q] at e
  subst e
  refine ⟨by omega,by omega,fun id o h=> .inl ⟨?_,h⟩⟩
  have:=(AHeap.get_some.1 h).1
  omega
 ·simp only [q,decide_false] at e
  rw [beq_iff] at e
  by_cases q2:h'.n=h.n+1
  ·simp only [q2,decide_true] at e
   cases hg:h'.get h.n with
   | none=>simp [hg] at e
   | some o1=>
    simp [hg] at e
    subst e
    refine ⟨by simp [AHeap.push];omega,by omega,fun id o h=>?_⟩
    rcases AHeap.get_push h with ⟨rfl,rfl⟩ | ⟨k1,k2⟩
    ·exact .inr ⟨by omega,by rw [hH];exact hg⟩
    ·exact .inl ⟨by omega,k2⟩
  ·simp [q2] at e
end
end Go.Ev

namespace Go.Ev
open Go
theorem boolSame {a b:Bool} (h:((a && b) || (!a && !b))=true):a=b:=by cases a <;> cases b <;> simp_all
theorem optB_eq {a b:Option Nat} (h:optB a b=true):a=b:=by
 cases a <;> cases b <;> simp [optB,beq_iff] at h <;> simp [h]
mutual
theorem AV.same_eq : ∀ (x y:AV),AV.same x y=true→x=y
 | .bool a,y,h=>by cases y <;> simp only [AV.same,Bool.false_eq_true] at h;rw [boolSame h]
 | .int j a,y,h=>by
  cases y <;> simp only [AV.same,Bool.false_eq_true,Bool.and_eq_true,kindB_eq,eqI_eq,decide_eq_true_eq,beq_iff_eq] at h
  rw [h.1,h.2]
 | .str a,y,h=>by cases y <;> simp only [AV.same,Bool.false_eq_true,eqB_eq,beq_iff_eq] at h;rw [h]
 | .nilp,y,h=>by cases y <;> simp only [AV.same,Bool.false_eq_true] at h;rfl
 | .nils,y,h=>by cases y <;> simp only [AV.same,Bool.false_eq_true] at h;rfl
 | .nilm,y,h=>by cases y <;> simp only [AV.same,Bool.false_eq_true] at h;rfl
 | .nilf,y,h=>by cases y <;> simp only [AV.same,Bool.false_eq_true] at h;rfl
 | .nili,y,h=>by cases y <;> simp only [AV.same,Bool.false_eq_true] at h;rfl
 | .ptr a b c d,y,h=>by
  cases y <;> simp only [AV.same,Bool.false_eq_true,Bool.and_eq_true,beq_iff,decide_eq_true_eq] at h
  obtain ⟨⟨⟨h1,h2⟩,h3⟩,h4⟩:=h
  rw [h1,h2,h3,h4]
 | .map a,y,h=>by cases y <;> simp only [AV.same,Bool.false_eq_true,beq_iff,decide_eq_true_eq] at h;rw [h]
 | .slice a b c d e,y,h=>by
  cases y <;> simp only [AV.same,Bool.false_eq_true,Bool.and_eq_true,beq_iff,decide_eq_true_eq] at h
  obtain ⟨⟨⟨⟨h1,h2⟩,h3⟩,h4⟩,h5⟩:=h
  rw [h1,h2,h3,h4,optB_eq h5]
 | .ps xs a,y,h=>by
  cases y <;> simp only [AV.same,Bool.false_eq_true,Bool.and_eq_true] at h
  rw [AV.sames_eq _ _ h.1,boolSame h.2]
 | .ls xs,y,h=>by
  cases y <;> simp only [AV.same,Bool.false_eq_true] at h
  rw [AV.sames_eq _ _ h]
 | .pptr xs a b,y,h=>by
  cases y <;> simp only [AV.same,Bool.false_eq_true,Bool.and_eq_true,beq_iff,decide_eq_true_eq] at h
  rw [AV.sames_eq _ _ h.1.1,h.1.2,h.2]
 | .iface t u,y,h=>by
  cases y <;> simp only [AV.same,Bool.false_eq_true,Bool.and_eq_true,beq_iff,decide_eq_true_eq] at h
  rw [h.1,AV.same_eq _ _ h.2]
 | .agg a,y,h=>by cases y <;> simp only [AV.same,Bool.false_eq_true] at h;rw [AV.sames_eq _ _ h]
 | .tuple a,y,h=>by cases y <;> simp only [AV.same,Bool.false_eq_true] at h;rw [AV.sames_eq _ _ h]
 | .func fn a b,y,h=>by
  cases fn <;> cases y <;> (try (rename_i fn2 _ _;cases fn2)) <;> simp only [AV.same,Bool.false_eq_true,Bool.and_eq_true,beq_iff,decide_eq_true_eq] at h
  rw [h.1.1,AV.sames_eq _ _ h.1.2,AV.sames_eq _ _ h.2]
theorem AV.sames_eq : ∀ (x y:List AV),AV.sames x y=true→x=y
 | [], [],_=>rfl
 | [],_::_,h=>by simp [AV.sames] at h
 | _::_, [],h=>by simp [AV.sames] at h
 | a::as,b::bs,h=>by
  simp only [AV.sames,Bool.and_eq_true] at h
  rw [AV.same_eq a b h.1,AV.sames_eq as bs h.2]
end
theorem entsSame_eq : ∀ (x y:List AEnt),entsSame x y=true→x=y
 | [], [],_=>rfl
 | [],_::_,h=>by simp [entsSame] at h
 | _::_, [],h=>by simp [entsSame] at h
 | a::as,b::bs,h=>by
  simp only [entsSame,Bool.and_eq_true,beq_iff,decide_eq_true_eq] at h
  obtain ⟨⟨⟨h1,h2⟩,h3⟩,h4⟩:=h
  rw [entsSame_eq as bs h4]
  cases a;cases b
  simp only at h1 h2 h3
  rw [AV.same_eq _ _ h1,AV.same_eq _ _ h2,h3]
theorem AObj.same_eq (x y:AObj) (h:AObj.same x y=true):x=y:=by
 cases x <;> cases y <;> simp only [AObj.same,Bool.false_eq_true,Bool.and_eq_true,beq_iff,decide_eq_true_eq] at h
 ·rfl
 ·obtain ⟨⟨⟨h1,h2⟩,h3⟩,h4⟩:=h
  rw [h1,boolSame h2,h3,AV.sames_eq _ _ h4]
 ·rw [h.1,entsSame_eq _ _ h.2]
theorem sameTo_ok {h h':AHeap} : ∀ (k:Nat),sameTo h h' k=true→∀ id,id<k→h'.get id=h.get id
 | 0,_,id,hid=>by omega
 | k+1,e,id,hid=>by
  unfold sameTo at e
  have key:sameTo h h' k=true∧h'.get k=h.get k:=by
   cases h1:h'.get k with
   | none=>
    cases h2:h.get k with
    | none=>rw [h1,h2] at e;exact ⟨e,rfl⟩
    | some o=>rw [h1,h2] at e;simp at e
   | some o'=>
    cases h2:h.get k with
    | none=>rw [h1,h2] at e;simp at e
    | some o=>
     rw [h1,h2] at e
     simp only [] at e
     split at e
     ·rename_i hs;exact ⟨e,by rw [AObj.same_eq _ _ hs]⟩
     ·simp at e
  rcases Nat.lt_or_ge id k with h1 | h1
  ·exact sameTo_ok k key.1 id h1
  ·have:id=k:=by omega
   rw [this];exact key.2
end Go.Ev

namespace Go.Ev
open Go
theorem StepF.weaken {n m:Nat} {g g':Nat→Option AObj} {pl pl':Pl} {M M':Mem} {w w':World} (h:StepF n g pl M w g' pl' M' w') (hm:m≤n):StepF m g pl M w g' pl' M' w':=
 ⟨h.ext,fun id hid hp=>h.new id (by omega) hp,h.mem,h.size,h.kept,h.blks,h.live,h.stay,h.memNew,h.os,h.tape,h.out,h.drawn⟩
structure DSpec (P:Program) (G:Env) (ops:Array Oper) (o:Oper) (look:List Tmp) (F:Fr) (h:AHeap) (v:AV) (h1:AHeap) (r:Rec):Prop where
 le:h.n≤h1.n
 keep : ∀ id o',¬ r.wr.Holds id→h1.get id=some o'→h.get id=some o'
 new : ∀ id,h.n≤id→id<h1.n→r.wr.Holds id
 exec : ∀ (nk n0:Nat) (g:Nat→Option AObj) (pl:Pl) (M:Mem) (a:Act) (w:World) (K:Act→World→Prop) (Q:Exit→Act→World→Prop),n0≤h.n→h1.n≤nk→nk≤1000000→RepF pl M nk g w→
  (∀ id o',r.vis.Holds id→h.get id=some o'→g id=some o')→(∀ id,h.n≤id→id<h1.n→pl id=none)→GOk G (cutPl pl h.n) M→a.tmps.size=F.n→a.defers = []→
  (∀ t u,t∈look→F.get t=some u→t<F.n∧VRel pl M u (a.tmps.getD t undef))→
  (∀ cv w' pl' M' g',RepF pl' M' nk g' w'→StepF n0 g pl M w g' pl' M' w'→VRel pl' M' v cv→Ext pl pl'→(∀ id,pl id=none→(id<h.n∨h1.n≤id)→pl' id=none)→
   (∀ id,¬ r.wr.Holds id→g' id=g id)→(∀ id o',r.wr.Holds id→h1.get id=some o'→g' id=some o')→K (a.put o.dst cv) w')→
  if Region.wanted o (yielded ops a.tmps) then o.wp P a w K Q∨(o.asks P a w∧LetsOut Q) else K (a.put o.dst undef) w
section
variable {P : Program} {G : Env} {pl pl' : Pl} {M M' : Mem} {h h' h1 hv : AHeap} {w w' : World} {v : AV} {A F : Fr} {a : Act} {call : Caller} {ops : Array Oper} {o : Oper} {d : DOper} {r : Rec}
theorem noneHolds {ids:List Nat} {id:Nat} : ¬ (⟨false, [],0,0⟩:Ids).Holds id:=by simp [Ids.Holds]
theorem dRead_ok (hd:d.r.op=opR P G o.op) (hk:kindOf o.op=0) {ids:List Nat} (e:dRead F h d ids=some (v,h1,r)) (hg:guardR ⟨F.n,lookFr F d.look .nil⟩ (guardDst ops o)=some true) :
  DSpec P G ops o d.look F h v h1 r:=by
 unfold dRead at e
 split at e
 ·rename_i v2 h2 hrun
  simp at e
  obtain ⟨rfl,rfl,rfl⟩:=e
  rw [hd] at hrun
  have hh:=reader_heap o.op hk hrun
  subst hh
  refine ⟨Nat.le_refl _,fun _ _ _ h=>h,fun id h1 h2=>by omega,?_⟩
  intro nk n0 g pl M a w K Q hn0 hnk hbig hr hvis hU hG hs hdf hF hK
  have hcut:cutPl pl 1000000=pl:=by
   funext id
   cases hp:pl id with
   | none=>simp [cutPl,hp]
   | some p=>exact cutPl_some.2 ⟨by have:=hr.dom id p hp;omega,hp⟩
  have hvg : ∀ id o,(⟨1000000,onlyT h ids .nil⟩:AHeap).get id=some o→g id=some o:=fun id o' hh=>by
   obtain ⟨k1,k2⟩:=only_get hh
   exact hvis id o' (.inr (.inl k1)) k2
  have hf:FrRel pl M ⟨F.n,lookFr F d.look .nil⟩ a:=lookFr_rel hs hdf hF
  rw [guardR_ok hf hg]
  simp only [if_true]
  left
  have hG2:GOk G pl M:=hG.mono (fun id p hp=>⟨p,(cutPl_some.1 hp).2,Nat.le_refl _,fun _=>rfl⟩) (fun _ _ h=>h)
  have rep:Rep pl M ⟨1000000,onlyT h ids .nil⟩ w:=
   ⟨fun id p hp=>by have:=hr.dom id p hp;show id<1000000;omega,fun id p o' hp hh=>hr.obj id p o' hp (hvg id o' hh),hr.blk,hr.inj,hr.imm,hr.sep⟩
  obtain ⟨dst,op,ty,pos,after,guard⟩:=o
  obtain ⟨pl1,M1,cv,w1,nx,q1,q2,q3,q4,q5,q6⟩:=ok_all (P:=P) (G:=G) op pl M _ _ v2 _ a w dst ty pos after guard hG2 rep hf hrun
  have q5':Step ⟨1000000,onlyT h ids .nil⟩ (cutPl pl 1000000) M w ⟨1000000,onlyT h ids .nil⟩ pl1 M1 w1:=by rw [hcut];exact q5
  obtain ⟨r1,r2,r3,r4⟩:=merge (n0:=1000000) (W:=fun _=>False) hr (Nat.le_refl _) hvg q4 q5' (Nat.le_refl _) (.inl rfl) (fun id k1 k2=>absurd k2 (by show ¬ id<1000000;have:1000000≤id:=k1;omega)) (fun _ _ _ _=>rfl) (fun _ h=>h.elim) (fun _ h=>h.elim) (fun id k1 k2=>absurd k2 (by show ¬ id<1000000;have:1000000≤id:=k1;omega))
  have key:=hK cv w1 _ M1 _ r1 (r2.weaken (by have:h.n≤nk:=hnk;omega)) (q3.mono r3 (fun _ _ h=>h)) r4 (fun id hp hh=>by
    by_cases hid:id<1000000
    ·exact r2.new id hid hp
    ·simp [mergePl,hid,hp]) (fun id _=>mergeG_out (fun h=>h)) (fun id o' hh=>absurd hh (noneHolds (ids:= [])))
  unfold Oper.wp
  rw [q1]
  rcases q2 with rfl | ⟨rfl,rfl⟩
  ·exact key
  ·exact key
 ·simp at e
theorem cut_look (hs:a.tmps.size=F.n) (hd:a.defers = []) {l:List Tmp} {n:Nat} (ht:topsAt F n l=true) (hF : ∀ t u,t∈l→F.get t=some u→t<F.n∧VRel pl M u (a.tmps.getD t undef)):FrRel (cutPl pl n) M ⟨F.n,lookFr F l .nil⟩ a:=
 lookFr_rel hs hd fun t u h1 h2=>⟨(hF t u h1 h2).1,(hF t u h1 h2).2.agree (topsAt_ok ht t u h1 h2) cutPl_ext_low (fun _ _ h=>h)⟩
theorem dWrite_ok (hd:d.r.op=opR P G o.op) {ids:List Nat} (e:dWrite F h d ids=some (v,h1,r)) (hg:guardR ⟨F.n,lookFr F d.look .nil⟩ (guardDst ops o)=some true) :
  DSpec P G ops o d.look F h v h1 r:=by
 unfold dWrite at e
 split at e
 ·rename_i hck
  simp only [Bool.and_eq_true] at hck
  obtain ⟨hck1,hck2⟩:=hck
  unfold dWriteOn dWriteEnd at e
  rw [hd] at e
  split at e
  ·rename_i v2 h2 hrun
   split at e
   ·rename_i H hla
    split at e
    ·rename_i H1 hln
     simp at e
     obtain ⟨rfl,rfl,rfl⟩:=e
     obtain ⟨a1,a2⟩:=laid_get hla
     obtain ⟨b1,b2,b3⟩:=laidNew_get a1 hln
     refine ⟨by omega,fun id o' hno hg1=>?_,fun id k1 k2=> .inr (.inr ⟨k1,by show id<h2.n;omega⟩),?_⟩
     ·rcases b3 id o' hg1 with ⟨k1,k2⟩ | ⟨k1,k2⟩
      ·rcases a2 id o' k2 with ⟨q1,_⟩ | ⟨_,q1⟩
       ·exact absurd (.inr (.inl q1)) hno
       ·exact q1
      ·exact absurd (.inr (.inr ⟨k1,(AHeap.get_some.1 k2).1⟩)) hno
     ·intro nk n0 g pl M a w K Q hn0 hnk hbig hr hvis hU hG hs hdf hF hK
      have hf0:FrRel pl M ⟨F.n,lookFr F d.look .nil⟩ a:=lookFr_rel hs hdf hF
      rw [guardR_ok hf0 hg]
      simp only [if_true]
      left
      have hvg : ∀ id o,(⟨h.n,onlyT h ids .nil⟩:AHeap).get id=some o→g id=some o:=fun id o' hh=>by
       obtain ⟨k1,k2⟩:=only_get hh
       exact hvis id o' (.inr (.inl k1)) k2
      refine shown_val (hv:=⟨h.n,onlyT h ids .nil⟩) (h':=h2) (n0:=h.n) (W:=fun id=>(id∈ids∧id<h.n∧(⟨h.n,onlyT h ids .nil⟩:AHeap).get id≠none)∨(h.n≤id∧id<h2.n)) hr (Nat.le_refl _) hvg (fun id o' hh=>objsAt_ok hck2 id o' (only_get hh).1 (only_get hh).2)
       (cut_look hs hdf hck1 hF) hG hrun (.inr (by omega)) (fun id k1 k2=>hU id k1 (by omega)) (fun id k1 k2 k3=>?_) (fun id k1 k2=>?_) (fun id k1=>?_) (fun id k1 k2=> .inr ⟨k1,k2⟩) ?_
      ·cases hh:(⟨h.n,onlyT h ids .nil⟩:AHeap).get id with
       | none=>exact absurd hh k3
       | some o'=>exact absurd (.inl ⟨(only_get hh).1,k1,k3⟩) k2
      ·rcases k1 with ⟨_,_,k⟩ | ⟨k,_⟩
       ·exact k
       ·exact absurd k2 (by show ¬ id<h.n;omega)
      ·rcases k1 with ⟨_,k,_⟩ | ⟨_,k⟩ <;> omega
      ·intro cv w' pl' M' r1 r2 r3 r4 r5
       refine hK cv w' pl' M' _ r1 (r2.weaken hn0) r3 r4 (fun id hp hh=>?_) (fun id hno=>mergeG_out fun hW=>?_) (fun id o' hyes hg1=>?_)
       ·rcases hh with hh | hh
        ·exact r2.new id hh hp
        ·rw [r5 id (by omega)];exact hp
       ·rcases hW with ⟨k,_,_⟩ | k
        ·exact hno (.inr (.inl k))
        ·exact hno (.inr (.inr k))
       ·rcases b3 id o' hg1 with ⟨k1,k2⟩ | ⟨k1,k2⟩
        ·rcases a2 id o' k2 with ⟨q1,q2,q3⟩ | ⟨q1,q2⟩
         ·rw [mergeG_in (.inl ⟨q1,k1,q2⟩)];exact q3
         ·rw [mergeG_out (fun hW=>by
           rcases hW with ⟨z1,_,z2⟩ | ⟨z,_⟩
           ·exact z2 (q1 z1)
           ·omega)]
          refine hvis id o' (.inr (.inl ?_)) q2
          rcases hyes with ⟨z,_⟩ | z | ⟨z,_⟩
          ·cases z
          ·exact z
          ·exact absurd k1 (by have:h.n≤id:=z;omega)
        ·rw [mergeG_in (.inr ⟨k1,(AHeap.get_some.1 k2).1⟩)];exact k2
    ·simp at e
   ·simp at e
  ·simp at e
 ·simp at e
end
end Go.Ev

namespace Go.Ev
open Go
section
variable {P : Program} {G : Env} {pl pl' : Pl} {M M' : Mem} {h h' h1 hv : AHeap} {w w' : World} {v : AV} {A F : Fr} {a : Act} {call : Caller} {ops : Array Oper} {o : Oper} {d : DOper} {r : Rec}
theorem fewerTo_ok {h h':AHeap} : ∀ (k:Nat),fewerTo h h' k=true→∀ id,id<k→h.get id=none→h'.get id=none
 | 0,_,id,hid,_=>by omega
 | k+1,e,id,hid,hn=>by
  unfold fewerTo at e
  have key:fewerTo h h' k=true∧(h.get k=none→h'.get k=none):=by
   cases h1:h'.get k with
   | none=>rw [h1] at e;exact ⟨e,fun _=>rfl⟩
   | some o'=>
    cases h2:h.get k with
    | none=>rw [h1,h2] at e;simp at e
    | some o=>rw [h1,h2] at e;exact ⟨e,fun h=>by cases h⟩
  rcases Nat.lt_or_ge id k with h1 | h1
  ·exact fewerTo_ok k key.1 id h1 hn
  ·have:id=k:=by omega
   subst this;exact key.2 hn
theorem dCallEnd_some {x:Option (AV × AHeap)} (e:dCallEnd h x=some (v,h1,r)):x=some (v,h1)∧h.n≤h1.n∧∃ b,r=⟨⟨true, [],h.n,h.n⟩,⟨b, [],h.n,h1.n⟩⟩∧
  (b=false→∀ id,id<h.n→h1.get id=h.get id)∧(∀ id,id<h.n→h.get id=none→h1.get id=none):=by
 unfold dCallEnd at e
 split at e
 ·rename_i v2 h2
  rw [ble_iff] at e
  by_cases hle:h.n≤h2.n
  ·simp only [hle,decide_true] at e
   split at e
   ·rename_i hs
    simp [dCallRec] at e
    obtain ⟨rfl,rfl,rfl⟩:=e
    exact ⟨rfl,hle,false,rfl,fun _=>sameTo_ok h.n hs,fun id hid hn=>by rw [sameTo_ok h.n hs id hid];exact hn⟩
   ·split at e
    ·rename_i hf
     simp [dCallRec] at e
     obtain ⟨rfl,rfl,rfl⟩:=e
     exact ⟨rfl,hle,true,rfl,(fun hq=>absurd hq (by simp)),fewerTo_ok h.n hf⟩
    ·simp at e
  ·simp [hle] at e
 ·simp at e
theorem dCall_ok (hc:CallerOK P G call) (hd:d.r.op=opR P G o.op) (e:dCall call F h d=some (v,h1,r)) (hg:guardR ⟨F.n,lookFr F d.look .nil⟩ (guardDst ops o)=some true) :
  DSpec P G ops o d.look F h v h1 r:=by
 unfold dCall at e
 split at e
 ·rename_i hck
  simp only [Bool.and_eq_true] at hck
  obtain ⟨hck1,hck2⟩:=hck
  obtain ⟨e1,hle,b,rfl,hb,hfew⟩:=dCallEnd_some e
  rw [hd] at e1
  refine ⟨hle,fun id o' hno hg1=>?_,fun id k1 k2=> .inr (.inr ⟨k1,k2⟩),?_⟩
  ·have hlt:=(AHeap.get_some.1 hg1).1
   have hlow:id<h.n:=by
    rcases Nat.lt_or_ge id h.n with k | k
    ·exact k
    ·exact absurd (.inr (.inr ⟨k,hlt⟩)) hno
   cases b with
   | true=>exact absurd (.inl ⟨rfl,hlow⟩) hno
   | false=>rw [← hb rfl id hlow];exact hg1
  ·intro nk n0 g pl M a w K Q hn0 hnk hbig hr hvis hU hG hs hdf hF hK
   have hf0:FrRel pl M ⟨F.n,lookFr F d.look .nil⟩ a:=lookFr_rel hs hdf hF
   rw [guardR_ok hf0 hg]
   simp only [if_true]
   left
   have hvg : ∀ id o,h.get id=some o→g id=some o:=fun id o' hh=>hvis id o' (.inl ⟨rfl,(AHeap.get_some.1 hh).1⟩) hh
   have ho : ∀ id o,h.get id=some o→o.top≤h.n:=fun id o' hh=>cleanTo_ok h.n hck2 id o' (AHeap.get_some.1 hh).1 hh
   have hf:=cut_look (M:=M) hs hdf hck1 hF
   let W:Nat→Prop:=fun id=>(b=true∧id<h.n∧h.get id≠none)∨(h.n≤id∧id<h1.n)
   have W1 : ∀ id,id<h.n→¬ W id→h.get id≠none→h1.get id=h.get id:=by
    intro id k1 k2 k3
    cases b with
    | true=>exact absurd (.inl ⟨rfl,k1,k3⟩) k2
    | false=>exact hb rfl id k1
   have W2 : ∀ id,W id→id<h.n→h.get id≠none:=by
    intro id k1 k2
    rcases k1 with ⟨_,_,k⟩ | ⟨k,_⟩
    ·exact k
    ·omega
   have W3 : ∀ id,W id→id<h1.n:=by
    intro id k1
    rcases k1 with ⟨_,k,_⟩ | ⟨_,k⟩ <;> omega
   have W4 : ∀ id,h.n≤id→id<h1.n→W id:=fun id k1 k2=> .inr ⟨k1,k2⟩
   have hKK : ∀ cv w' pl' M',RepF pl' M' nk (mergeG W g h1.get) w'→StepF h.n g pl M w (mergeG W g h1.get) pl' M' w'→VRel pl' M' v cv→Ext pl pl'→(∀ id,h1.n≤id→pl' id=pl id)→K (a.put o.dst cv) w':=by
    intro cv w' pl' M' r1 r2 r3 r4 r5
    refine hK cv w' pl' M' _ r1 (r2.weaken hn0) r3 r4 (fun id hp hh=>?_) (fun id hno=>mergeG_out fun hW=>?_) (fun id o' hyes hg1=>?_)
    ·rcases hh with hh | hh
     ·exact r2.new id hh hp
     ·rw [r5 id hh];exact hp
    ·rcases hW with ⟨k1,k2,_⟩ | k
     ·exact hno (.inl ⟨k1,k2⟩)
     ·exact hno (.inr (.inr k))
    ·have hlt:=(AHeap.get_some.1 hg1).1
     have hW:W id:=by
      rcases hyes with ⟨k1,k2⟩ | k | k
      ·refine .inl ⟨k1,k2,fun hn=>?_⟩
       rw [hfew id k2 hn] at hg1;cases hg1
      ·simp at k
      ·exact .inr k
     rw [mergeG_in hW];exact hg1
   cases hrun:(opR P G o.op).run ⟨F.n,lookFr F d.look .nil⟩ h with
   | none=>rw [hrun] at e1;simp [behind] at e1
   | some res=>
    rw [hrun] at e1
    cases res with
    | val v2 h2=>
     simp [behind] at e1
     obtain ⟨rfl,rfl⟩:=e1
     exact shown_val hr (Nat.le_refl _) hvg ho hf hG hrun (.inr hnk) (fun id k1 k2=>hU id k1 k2) W1 W2 W3 W4 hKK
    | call f args=>
     simp only [behind] at e1
     exact shown_call hc hr (Nat.le_refl _) hvg ho hf hG hrun e1 (.inr hnk) (fun id k1 k2=>hU id k1 k2) W1 W2 W3 W4 hKK
 ·simp at e
end
end Go.Ev

namespace Go.Ev
open Go
section
variable {P : Program} {G : Env} {h h1 : AHeap} {v : AV} {F : Fr} {call : Caller} {ops : Array Oper} {o : Oper} {d : DOper} {r : Rec}
theorem dOne_ok (hc:CallerOK P G call) (hd:d.r=oneOper P G ops o) (hk:d.kind=kindOf o.op) (e:dOne call F h d=some (v,h1,r)):DSpec P G ops o d.look F h v h1 r:=by
 have hop:d.r.op=opR P G o.op:=by rw [hd];rfl
 have hgd:d.r.g=guardDst ops o:=by rw [hd];rfl
 unfold dOne at e
 rw [hgd] at e
 split at e
 ·rename_i hg
  split at e
  ·rename_i hk0
   exact dRead_ok hop (by rw [← hk];exact hk0) e hg
  ·exact dWrite_ok hop e hg
  ·exact dCall_ok hc hop e hg
 ·rename_i hg
  simp at e
  obtain ⟨rfl,rfl,rfl⟩:=e
  refine ⟨Nat.le_refl _,fun _ _ _ h=>h,fun id h1 h2=>by omega,?_⟩
  intro nk n0 g pl M a w K Q hn0 hnk hbig hr hvis hU hG hs hdf hF hK
  have hf0:FrRel pl M ⟨F.n,lookFr F d.look .nil⟩ a:=lookFr_rel hs hdf hF
  rw [guardR_ok hf0 hg]
  simp only [Bool.false_eq_true,if_false]
  exact hK undef w pl M g hr (StepF.refl _ _ _ _ _) undef_rel (Ext.refl _) (fun id h _=>h) (fun _ _=>rfl) (fun id o' hh=>absurd hh (noneHolds (ids:= [])))
 ·simp at e
end
end Go.Ev

namespace Go.Ev
open Go
section
variable {P : Program} {G : Env} {call : Caller} {ops : Array Oper}
theorem depsOf_mem : ∀ {l:List Edge} {x:Nat},x∈depsOf l↔∃ e,e∈l∧Region.binds .any e=true∧e.on=x
 | [],x=>by simp [depsOf]
 | e::r,x=>by
  simp only [depsOf]
  cases hb:Region.binds .any e with
  | true=>
   simp only [List.mem_cons,depsOf_mem (l:=r)]
   constructor
   ·rintro (h | ⟨e',h1,h2,h3⟩)
    ·exact ⟨e, .inl rfl,hb,h.symm⟩
    ·exact ⟨e', .inr h1,h2,h3⟩
   ·rintro ⟨e',rfl | h1,h2,h3⟩
    ·exact .inl h3.symm
    ·exact .inr ⟨e',h1,h2,h3⟩
  | false=>
   simp only [List.mem_cons,depsOf_mem (l:=r)]
   constructor
   ·rintro ⟨e',h1,h2,h3⟩;exact ⟨e', .inr h1,h2,h3⟩
   ·rintro ⟨e',rfl | h1,h2,h3⟩
    ·rw [hb] at h2;cases h2
    ·exact ⟨e',h1,h2,h3⟩
theorem maskOf_bit {masks:List (Nat × Nat)} {x:Nat} : ∀ {l:List Nat},Nat.testBit (maskOf masks l) x=true→∃ d,d∈l∧(x=d∨Nat.testBit (maskAt masks d) x=true)
 | [],h=>by simp [maskOf] at h
 | d::r,h=>by
  simp only [maskOf] at h
  have h:Nat.testBit ((2 ^ d ||| maskAt masks d) ||| maskOf masks r) x=true:=h
  rw [Nat.testBit_or,Nat.testBit_or,Bool.or_eq_true,Bool.or_eq_true,Nat.testBit_two_pow] at h
  rcases h with (h | h) | h
  ·exact ⟨d,by simp, .inl (by simpa [eq_comm] using h)⟩
  ·exact ⟨d,by simp, .inr h⟩
  ·obtain ⟨d',h1,h2⟩:=maskOf_bit h
   exact ⟨d',by simp [h1],h2⟩
theorem belowAll_ok {i:Nat} : ∀ {l:List Nat},belowAll i l=true→∀ d,d∈l→d<i
 | [],_,d,h=>by simp at h
 | x::r,e,d,h=>by
  simp only [belowAll,Bool.and_eq_true,blt_iff,decide_eq_true_eq] at e
  rcases List.mem_cons.1 h with rfl | h
  ·exact e.1
  ·exact belowAll_ok e.2 d h
theorem masksGo_low : ∀ (l:List Oper) (i:Nat) (acc:List (Nat × Nat)) (j:Nat),j<i→maskAt (masksGo l i acc) j=maskAt acc j
 | [],i,acc,j,h=>rfl
 | o::r,i,acc,j,h=>by
  simp only [masksGo]
  rw [masksGo_low r (i+1) _ j (by omega)]
  have:Nat.beq i j=false:=by rw [beq_iff];simp;omega
  simp [maskAt,this]
theorem masksGo_bit : ∀ (l:List Oper) (i:Nat) (acc:List (Nat × Nat)) (t:Nat) (o:Oper),l[t]? = some o→belowAll (i+t) (depsOf o.after.toList)=true→∀ x,Nat.testBit (maskAt (masksGo l i acc) (i+t)) x=true→
  ∃ d,d∈depsOf o.after.toList∧(x=d∨Nat.testBit (maskAt (masksGo l i acc) d) x=true)
 | [],i,acc,t,o,h,_,_,_=>by simp at h
 | o'::r,i,acc,0,o,h,hb,x,hx=>by
  simp at h
  subst h
  have e:maskAt (masksGo (o'::r) i acc) i=maskOf acc (depsOf o'.after.toList):=by
   simp only [masksGo]
   rw [masksGo_low r (i+1) _ i (by omega)]
   have:Nat.beq i i=true:=by rw [beq_iff];simp
   simp [maskAt,this]
  rw [Nat.add_zero,e] at hx
  obtain ⟨d,h1,h2⟩:=maskOf_bit hx
  refine ⟨d,h1,?_⟩
  have hlt:=belowAll_ok hb d h1
  rw [masksGo_low (o'::r) i acc d (by omega)]
  exact h2
 | o'::r,i,acc,t+1,o,h,hb,x,hx=>by
  simp only [masksGo] at hx ⊢
  exact masksGo_bit r (i+1) _ t o (by simpa using h) (by rw [show i+1+t=i+(t+1) by omega];exact hb) x (by rw [show i+1+t=i+(t+1) by omega];exact hx)
def Down (masks:List (Nat × Nat)) (L:Nat→Prop):Prop:=∀ i,L i→∀ x,Nat.testBit (maskAt masks i) x=true→L x
theorem ready_mask {L:Nat→Prop} (hD:Down (masksGo ops.toList 0 []) L) {j:Nat} {o:Oper} (ho:ops[j]? = some o) (hb:belowAll j (depsOf o.after.toList)=true) (hr : ∀ d,d∈depsOf o.after.toList→L d) :
  ∀ x,Nat.testBit (maskAt (masksGo ops.toList 0 []) j) x=true→L x:=by
 intro x hx
 have:=masksGo_bit ops.toList 0 [] j o (by simpa using ho) (by rw [Nat.zero_add];exact hb) x (by rw [Nat.zero_add];exact hx)
 obtain ⟨d,h1,h2⟩:=this
 rcases h2 with rfl | h2
 ·exact hr _ h1
 ·exact hD d (hr d h1) x h2
end
end Go.Ev

namespace Go.Ev
open Go
def Clash (q r:Rec):Prop:=∃ id,(q.wr.Holds id∧r.vis.Holds id)∨(r.wr.Holds id∧q.vis.Holds id)∨(q.wr.Holds id∧r.wr.Holds id)
structure RunData (call:Caller) (ds:List DOper) (k:Nat) (hs:Nat→AHeap) (Fs:Nat→Fr) (vs:Nat→AV) (rc:Nat→Rec):Prop where
 one : ∀ j d,ds[j]? = some d→dOne call (Fs (k+j)) (hs (k+j)) d=some (vs (k+j),hs (k+j+1),rc (k+j))
 put : ∀ j d,ds[j]? = some d→putA (Fs (k+j)) d.r.dst (vs (k+j))=some (Fs (k+j+1))
 ord : ∀ j d,ds[j]? = some d→∀ i,i<k+j→Clash (rc i) (rc (k+j))→Nat.testBit d.mask i=true
section
variable {call : Caller}
theorem noClash_ok {mask:Nat} {r:Rec} : ∀ {qs:List Rec},noClash mask r qs qs.length=true→∀ i q,qs[i]? = some q→Clash q r→Nat.testBit mask (qs.length - 1 - i)=true
 | [],_,i,q,h,_=>by simp at h
 | p::ps,e,i,q,h,hc=>by
  simp only [noClash,List.length_cons,Nat.add_sub_cancel,Bool.and_eq_true,Bool.or_eq_true,Bool.not_eq_true'] at e
  match i,h with
  | 0,h=>
   simp at h
   subst h
   rcases e.1 with e1 | e1
   ·exfalso
    simp only [Bool.or_eq_false_iff] at e1
    obtain ⟨⟨e2,e3⟩,e4⟩:=e1
    obtain ⟨id,hc | hc | hc⟩:=hc
    ·rw [Ids.meets_of hc.1 hc.2] at e2;cases e2
    ·rw [Ids.meets_of hc.1 hc.2] at e3;cases e3
    ·rw [Ids.meets_of hc.1 hc.2] at e4;cases e4
   ·simpa using e1
  | i+1,h=>
   have:=noClash_ok e.2 i q (by simpa using h) hc
   simp only [List.length_cons]
   rw [show ps.length+1 - 1 - (i+1)=ps.length - 1 - i by omega]
   exact this
def recsTo (rc:Nat→Rec):Nat→List Rec
 | 0=> []
 | k+1=>rc k::recsTo rc k
theorem recsTo_len (rc:Nat→Rec) : ∀ k,(recsTo rc k).length=k
 | 0=>rfl
 | k+1=>by simp [recsTo,recsTo_len rc k]
theorem recsTo_get (rc:Nat→Rec) : ∀ (k i:Nat),i<k→(recsTo rc k)[k - 1 - i]? = some (rc i)
 | 0,i,h=>by omega
 | k+1,i,h=>by
  simp only [recsTo]
  rcases Nat.lt_or_ge i k with h1 | h1
  ·rw [show k+1 - 1 - i=(k - 1 - i)+1 by omega]
   simpa using recsTo_get rc k i h1
  ·have:i=k:=by omega
   subst this
   simp
theorem recsTo_congr {rc rc':Nat→Rec} : ∀ {k:Nat},(∀ i,i<k→rc i=rc' i)→recsTo rc k=recsTo rc' k
 | 0,_=>rfl
 | k+1,h=>by simp only [recsTo];rw [h k (by omega),recsTo_congr (fun i hi=>h i (by omega))]
theorem drawGo_data : ∀ (ds:List DOper) (k:Nat) (hs0:Nat→AHeap) (Fs0:Nat→Fr) (vs0:Nat→AV) (rc0:Nat→Rec) (s':St),(drawGo ds).run call (Fs0 k) (hs0 k) (recsTo rc0 k) k=some s'→
  ∃ hs Fs vs rc,(∀ i,i≤k→hs i=hs0 i∧Fs i=Fs0 i)∧(∀ i,i<k→vs i=vs0 i∧rc i=rc0 i)∧RunData call ds k hs Fs vs rc∧s'=⟨Fs (k+ds.length),hs (k+ds.length)⟩
 | [],k,hs0,Fs0,vs0,rc0,s',e=>by
  simp [drawGo] at e
  refine ⟨hs0,Fs0,vs0,rc0,fun _ _=>⟨rfl,rfl⟩,fun _ _=>⟨rfl,rfl⟩,⟨fun j d h=>by simp at h,fun j d h=>by simp at h,fun j d h=>by simp at h⟩,by simpa using e.symm⟩
 | d::r,k,hs0,Fs0,vs0,rc0,s',e=>by
  simp only [drawGo] at e
  cases ho:dOne call (Fs0 k) (hs0 k) d with
  | none=>rw [ho] at e;simp [dNext] at e
  | some res=>
   obtain ⟨v,h',rec⟩:=res
   rw [ho] at e
   simp only [dNext] at e
   split at e
   ·rename_i hcl
    cases hp:putA (Fs0 k) d.r.dst v with
    | none=>rw [hp] at e;simp at e
    | some F'=>
     rw [hp] at e
     simp only [] at e
     let hs1:Nat→AHeap:=fun i=>if i=k+1 then h' else hs0 i
     let Fs1:Nat→Fr:=fun i=>if i=k+1 then F' else Fs0 i
     let vs1:Nat→AV:=fun i=>if i=k then v else vs0 i
     let rc1:Nat→Rec:=fun i=>if i=k then rec else rc0 i
     have er:rec::recsTo rc0 k=recsTo rc1 (k+1):=by
      simp only [recsTo]
      congr 1
      ·simp [rc1]
      ·exact recsTo_congr fun i hi=>by simp [rc1,show i≠k by omega]
     have e2:(drawGo r).run call (Fs1 (k+1)) (hs1 (k+1)) (recsTo rc1 (k+1)) (k+1)=some s':=by
      rw [← er];simpa [Fs1,hs1] using e
     obtain ⟨hs,Fs,vs,rc,a1,a2,a3,a4⟩:=drawGo_data r (k+1) hs1 Fs1 vs1 rc1 s' e2
     have hk:=a1 k (by omega)
     have hk1:=a1 (k+1) (by omega)
     have hvk:=a2 k (by omega)
     simp only [hs1,Fs1,show ¬ k=k+1 by omega,if_false,if_true] at hk hk1
     simp only [vs1,rc1,if_true] at hvk
     refine ⟨hs,Fs,vs,rc,fun i hi=>?_,fun i hi=>?_,⟨fun j d' hj=>?_,fun j d' hj=>?_,fun j d' hj i hi hc=>?_⟩,?_⟩
     ·have:=a1 i (by omega)
      simpa [hs1,Fs1,show i≠k+1 by omega] using this
     ·have:=a2 i (by omega)
      simpa [vs1,rc1,show i≠k by omega] using this
     ·match j,hj with
      | 0,hj=>
       simp at hj;subst hj
       simp only [Nat.add_zero]
       rw [hk.1,hk.2,hk1.1,hvk.1,hvk.2];exact ho
      | j+1,hj=>
       have:=a3.one j d' (by simpa using hj)
       rw [show k+(j+1)=k+1+j by omega];exact this
     ·match j,hj with
      | 0,hj=>
       simp at hj;subst hj
       simp only [Nat.add_zero]
       rw [hk.2,hk1.2,hvk.1];exact hp
      | j+1,hj=>
       have:=a3.put j d' (by simpa using hj)
       rw [show k+(j+1)=k+1+j by omega];exact this
     ·match j,hj with
      | 0,hj=>
       simp at hj;subst hj
       simp only [Nat.add_zero] at hi hc
       have hri:=(a2 i (by omega)).2
       simp only [rc1,show ¬ i=k by omega,if_false] at hri
       rw [hri,hvk.2] at hc
       have hcl':noClash d.mask rec (recsTo rc0 k) (recsTo rc0 k).length=true:=by rw [recsTo_len];exact hcl
       have:=noClash_ok hcl' (k - 1 - i) (rc0 i) (recsTo_get rc0 k i hi) hc
       rw [recsTo_len,show k - 1 - (k - 1 - i)=i by omega] at this
       exact this
      | j+1,hj=>
       rw [show k+(j+1)=k+1+j by omega] at hi hc
       exact a3.ord j d' (by simpa using hj) i hi hc
     ·rw [a4];simp only [List.length_cons];rw [show k+1+r.length=k+(r.length+1) by omega]
   ·simp at e
end
end Go.Ev

namespace Go.Ev
open Go
structure Reg (P:Program) (G:Env) (call:Caller) (ops:Array Oper) (N:Nat) (hs:Nat→AHeap) (Fs:Nat→Fr) (vs:Nat→AV) (rc:Nat→Rec):Prop where
 small:N≤60000
 n0:(Fs 0).n=N
 t0 : ∀ t u,(Fs 0).get t=some u→t<N
 big:(hs ops.size).n≤1000000
 spec : ∀ j o,ops[j]? = some o→DSpec P G ops o (o.looksAt ops) (Fs j) (hs j) (vs j) (hs (j+1)) (rc j)
 put : ∀ j o,ops[j]? = some o→putA (Fs j) o.dst (vs j)=some (Fs (j+1))
 ord : ∀ j o,ops[j]? = some o→∀ i,i<j→Clash (rc i) (rc j)→Nat.testBit (maskAt (masksGo ops.toList 0 []) j) i=true
 below : ∀ j o,ops[j]? = some o→belowAll j (depsOf o.after.toList)=true
 looks : ∀ j o,ops[j]? = some o→looksOk (masksGo ops.toList 0 []) (depsOf o.after.toList) (o.looksAt ops) j ops.toList 0=true
 dsts : ∀ (i j:Nat) (oi oj:Oper) (t:Tmp),ops[i]? = some oi→ops[j]? = some oj→oi.dst=some t→oj.dst=some t→i=j
structure Inv (P:Program) (G:Env) (ops:Array Oper) (N:Nat) (hs:Nat→AHeap) (Fs:Nat→Fr) (vs:Nat→AV) (rc:Nat→Rec) (h0:AHeap) (pl0:Pl) (M0:Mem) (w0:World) (L:Nat→Prop) (a:Act) (w:World):Prop where
 down:Down (masksGo ops.toList 0 []) L
 ex : ∃ pl M g,RepF pl M (hs ops.size).n g w∧StepF h0.n h0.get pl0 M0 w0 g pl M w∧
  (∀ id m o,m≤ops.size→(∀ i,i<m→(rc i).wr.Holds id→L i)→(∀ i,m≤i→i<ops.size→(rc i).wr.Holds id→¬ L i)→(hs m).get id=some o→g id=some o)∧
  (∀ j,j<ops.size→¬ L j→∀ id,(hs j).n≤id→id<(hs (j+1)).n→pl id=none)∧
  (∀ j o t,ops[j]? = some o→L j→o.dst=some t→VRel pl M (vs j) (a.tmps.getD t undef))∧
  (∀ t u,(∀ i o,ops[i]? = some o→L i→o.dst≠some t)→(Fs 0).get t=some u→VRel pl M u (a.tmps.getD t undef))
 size:a.tmps.size=N
 defers:a.defers = []
section
variable {P : Program} {G : Env} {call : Caller} {ops : Array Oper} {N : Nat} {hs : Nat → AHeap} {Fs : Nat → Fr} {vs : Nat → AV} {rc : Nat → Rec} {h0 : AHeap} {pl0 : Pl} {M0 : Mem} {w0 : World} {L : Nat → Prop} {a : Act} {w : World}
theorem Reg.get {j:Nat} (hj:j<ops.size) : ∃ o,ops[j]? = some o:=⟨ops[j],by simp [hj]⟩
theorem Reg.mono (R:Reg P G call ops N hs Fs vs rc) {i:Nat} : ∀ {j:Nat},i≤j→j≤ops.size→(hs i).n≤(hs j).n
 | 0, h, _ => by have:i=0:=by omega
                 subst this;exact Nat.le_refl _
 | j+1,h,hj=>by
  rcases Nat.lt_or_ge i (j+1) with h1 | h1
  ·obtain ⟨o,ho⟩:=Reg.get (ops:=ops) (j:=j) (by omega)
   exact Nat.le_trans (R.mono (by omega) (by omega)) (R.spec j o ho).le
  ·have:i=j+1:=by omega
   subst this;exact Nat.le_refl _
theorem putA_n {A A':Fr} {dst:Option Tmp} {v:AV} (e:putA A dst v=some A'):A'.n=A.n:=by
 cases dst with
 | none=>simp [putA] at e;rw [e]
 | some d=>
  simp only [putA,Fr.put] at e
  split at e
  ·simp at e;rw [← e]
  ·simp at e
theorem Reg.frame (R:Reg P G call ops N hs Fs vs rc) : ∀ (j:Nat),j≤ops.size→(Fs j).n=N∧∀ t u,(Fs j).get t=some u→t<N∧
  ((∃ i o,i<j∧ops[i]? = some o∧o.dst=some t∧u=vs i)∨((∀ i o,i<j→ops[i]? = some o→o.dst≠some t)∧(Fs 0).get t=some u))
 | 0,_=>⟨R.n0,fun t u h=>⟨R.t0 t u h, .inr ⟨fun i o h=>by omega,h⟩⟩⟩
 | j+1,hj=>by
  obtain ⟨o,ho⟩:=Reg.get (ops:=ops) (j:=j) (by omega)
  obtain ⟨k1,k2⟩:=R.frame j (by omega)
  have hp:=R.put j o ho
  refine ⟨by rw [putA_n hp];exact k1,fun t u ht=>?_⟩
  have old:(Fs j).get t=some u→o.dst≠some t→t<N∧((∃ i o,i<j+1∧ops[i]? = some o∧o.dst=some t∧u=vs i)∨((∀ i o,i<j+1→ops[i]? = some o→o.dst≠some t)∧(Fs 0).get t=some u)):=by
   intro h1 h2
   obtain ⟨q1,q2⟩:=k2 t u h1
   refine ⟨q1,?_⟩
   rcases q2 with ⟨i,o',z1,z2⟩ | ⟨z1,z2⟩
   ·exact .inl ⟨i,o',by omega,z2⟩
   ·refine .inr ⟨fun i o' hi ho'=>?_,z2⟩
    rcases Nat.lt_or_ge i j with hlt | hge
    ·exact z1 i o' hlt ho'
    ·have:i=j:=by omega
     subst this
     rw [ho] at ho'
     cases ho'
     exact h2
  cases hd:o.dst with
  | none=>
   rw [hd] at hp
   simp [putA] at hp
   rw [← hp] at ht
   exact old ht (by rw [hd];simp)
  | some d=>
   rw [hd] at hp
   simp only [putA] at hp
   obtain ⟨_,q2,q3⟩:=Fr.get_put (by rw [k1];exact R.small) hp ht
   rcases q3 with ⟨rfl,rfl⟩ | ⟨q4,q5⟩
   ·exact ⟨by rw [← k1];exact q2, .inl ⟨j,o,by omega,ho,hd,rfl⟩⟩
   ·exact old q5 (by rw [hd];intro h;exact q4 (Option.some.inj h).symm)
end
end Go.Ev
