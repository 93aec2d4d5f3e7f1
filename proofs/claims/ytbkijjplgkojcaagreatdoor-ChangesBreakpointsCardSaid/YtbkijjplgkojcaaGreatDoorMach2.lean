/- An abstract machine for closed runs and for walks, proved sound against the model: part 2 of 6. No conditions. -/
import Derived.Test.YtbkijjplgkojcaaGreatDoorMach1
import Derived.Laws.StructEq
import Derived.WalkLawsBesides
import Derived.WalkSpells
import Derived.IntWalk
import Derived.Laws.BytesString
import Derived.Lib.ConvBytes

namespace Go.Ev
open Go
section
variable {P : Program} {G : Env} {pl : Pl} {M : Mem} {h h' : AHeap} {w w' : World} {v : AV} {A : Fr} {a : Act}
theorem run_sliceBound {k:IntKind} {n y:Nat} (hn:n≤y) (code:BoundsCode) (w:World):(Instr.sliceBound (.int k (n:Int)) y code).run P w = .ok n w:=by
 simp [Instr.sliceBound,asIntOf,hn]
def ORel (pl:Pl) (M:Mem) (x:Option AV) (c:Option Value):Prop:=
 match x,c with
 | none,none=>True
 | some x,some c=>VRel pl M x c
 | _,_=>False
theorem optd_some {x:Option Operand} {k:Option AV→Option AV} {r:AV} (hg:GOk G pl M) (hf:FrRel pl M A a) (e:optd G x A k=some r) :
  ∃ o,k o=some r∧ORel pl M o (x.map a.eval):=by
 cases x with
 | none=>exact ⟨none,e,trivial⟩
 | some x=>
  simp only [optd] at e
  cases h1:(opd G x).run A with
  | none=>simp [h1] at e
  | some v=>rw [h1] at e;exact ⟨some v,e,opd_ok hg hf h1⟩
theorem natOr_ok {d n:Nat} {x:Option AV} {c:Option Value} (hx:ORel pl M x c) (e:natOr d x=some n):(x=none∧c=none∧n=d)∨(∃ k,c=some (.int k (n:Int))∧x≠none):=by
 cases x with
 | none=>
  cases c with
  | none=>simp [natOr] at e;exact .inl ⟨rfl,rfl,e.symm⟩
  | some c=>exact hx.elim
 | some x=>
  cases c with
  | none=>exact hx.elim
  | some c=>
   obtain ⟨k,rfl⟩:=natOf_ok hx e
   exact .inr ⟨k,rfl,by simp⟩
theorem run_bounds2 {isSlice:Bool} {len cap l u:Nat} {clo chi:Option Value} (hl:(clo=none∧l=0)∨∃ k,clo=some (.int k (l:Int))) (hu:(chi=none∧u=len)∨∃ k,chi=some (.int k (u:Int)))
  (h1:l≤u) (h2:u≤cap) (w:World):(Instr.sliceBounds isSlice len cap clo chi none).run P w = .ok (l,u,cap) w:=by
 rcases hl with ⟨rfl,rfl⟩ | ⟨k,rfl⟩ <;> rcases hu with ⟨rfl,rfl⟩ | ⟨k',rfl⟩ <;> simp [Instr.sliceBounds,run_sliceBound h2,run_sliceBound h1]
theorem run_bounds3 {isSlice:Bool} {len cap l u m:Nat} {clo:Option Value} {k1 k2:IntKind} (hl:(clo=none∧l=0)∨∃ k,clo=some (.int k (l:Int)))
  (h1:l≤u) (h2:u≤m) (h3:m≤cap) (w:World):(Instr.sliceBounds isSlice len cap clo (some (.int k1 (u:Int))) (some (.int k2 (m:Int)))).run P w = .ok (l,u,m) w:=by
 rcases hl with ⟨rfl,rfl⟩ | ⟨k,rfl⟩ <;> simp [Instr.sliceBounds,run_sliceBound h2,run_sliceBound h1,run_sliceBound h3]
theorem run_sliceAt {t e:TypeId} {s:Nat} (ht:P.underlying t=some (.slice e)) (hs:szOf P e=some s) {ad:Option Addr} {len cap l u m:Nat} {clo chi cmx:Option Value}
  (hb:(Instr.sliceBounds true len cap clo chi cmx).run P w = .ok (l,u,m) w) :
  (Instr.sliceAt t (.slice ad len cap) clo chi cmx).run P w = .ok (.slice (if m=l then ad else ad.map (·.add (l * s))) (u - l) (m - l)) w:=by
 simp [Instr.sliceAt,run_underlying ht,Instr.slice,hb,run_sizeOf hs]
theorem run_sliceStr {t:TypeId} (ht:P.underlying t=some .string) {s:List UInt8} {l u:Nat} {clo chi:Option Value}
  (hb:(Instr.sliceBounds false s.length s.length clo chi none).run P w = .ok (l,u,s.length) w) (hlu:l≤u) (hus:u≤s.length) :
  (Instr.sliceAt t (.string ⟨⟨s⟩⟩) clo chi none).run P w = .ok (.string ⟨⟨(s.take u).drop l⟩⟩) w:=by
 have hsz:(⟨⟨s⟩⟩:ByteArray).size=s.length:=rfl
 have he:(⟨⟨s⟩⟩:ByteArray).extract l u=⟨⟨(s.take u).drop l⟩⟩:=by
  apply ByteArray.ext
  apply Array.ext'
  simp [List.extract_eq_take_drop,List.drop_take]
 simp [Instr.sliceAt,run_underlying ht,Instr.slice,hsz,hb,he]
theorem cutSl_some {id ep off l u m:Nat} {cap:Option Nat} {v:AV} (e:cutSl id ep off l u m cap=some v):l≤u∧u≤m∧
  ((∃ c,cap=some c∧c=l∧v = .slice id ep 0 0 (some 0))∨(∃ c,cap=some c∧c≠l∧v = .slice id ep (off+l) (u - l) (some (c - l)))∨(cap=none∧v = .slice id ep (off+l) (u - l) none)):=by
 unfold cutSl at e
 rw [ble_iff,ble_iff] at e
 by_cases h1:l≤u
 ·by_cases h2:u≤m
  ·simp [h1,h2] at e
   refine ⟨h1,h2,?_⟩
   cases cap with
   | none=>simp at e;exact .inr (.inr ⟨rfl,e.symm⟩)
   | some c=>
    simp only [beq_iff] at e
    by_cases h3:c=l
    ·simp [h3] at e;exact .inl ⟨c,rfl,h3,e.symm⟩
    ·simp [h3] at e;exact .inr (.inl ⟨c,rfl,h3,e.symm⟩)
  ·simp [h2] at e
 ·simp [h1] at e
theorem cut_ok {id ep off len cap' l u m:Nat} {cap capN:Option Nat} {sz:Nat} {xs:List AV} {p:Place} {ad:Addr} {v:AV} (hp:pl id=some p) (hep:p.ep=ep) (hsz:p.sz=sz) (hn:p.n=xs.length)
  (hcap : ∀ k,cap=some k→cap'=k) (had:cap'=0∨ad=⟨p.blk,off * sz,none⟩) (htot:(off+cap') * sz≤p.tot) (hnone:cap=none→xs.length≤off+cap') (hsome : ∀ k,cap=some k→off+k≤xs.length)
  (hroom:u≤room xs.length off cap) (hlu:l≤u) (hum:u≤m) (hmc:m≤cap') (hoff:off+len≤xs.length)
  (hcN:(capN=none∧cap=none∧m=cap')∨(∃ c,capN=some c∧m=c∧c≤room xs.length off cap)) (e:cutSl id ep off l u m capN=some v) :
  VRel pl M v (.slice (if m=l then some ad else (some ad).map (·.add (l * sz))) (u - l) (m - l)):=by
 have hroomN:room xs.length off cap+off≤xs.length∨(room xs.length off cap=0∧xs.length<off):=by
  cases cap with
  | none=>simp only [room];omega
  | some c=>simp only [room];have:=hsome c rfl;omega
 obtain ⟨_,_,hh⟩:=cutSl_some e
 have haddr : ∃ ad',(if m=l then some ad else (some ad).map (·.add (l * sz)))=some ad'∧(m - l=0∨ad'=⟨p.blk,(off+l) * sz,none⟩):=by
  by_cases hml:m=l
  ·exact ⟨ad,by simp [hml], .inl (by omega)⟩
  ·refine ⟨ad.add (l * sz),by simp [hml], .inr ?_⟩
   rcases had with h0 | h0
   ·omega
   ·rw [h0,Addr.add_lit,Nat.add_mul]
 obtain ⟨ad',h1,h2⟩:=haddr
 rw [h1]
 have htot2:(off+l+(m - l)) * p.sz≤p.tot:=by
  rw [hsz]
  refine Nat.le_trans (Nat.mul_le_mul_right _ ?_) htot
  omega
 rcases hh with ⟨c,hc,hcl,rfl⟩ | ⟨c,hc,hcl,rfl⟩ | ⟨hc,rfl⟩
 ·rcases hcN with ⟨h9,_⟩ | ⟨c2,h9,h10,_⟩
  ·rw [h9] at hc;cases hc
  ·rw [h9] at hc
   simp at hc
   have hm0:m - l=0:=by omega
   have hu0:u - l=0:=by omega
   rw [hm0,hu0]
   exact .slice hp (by omega) (Nat.le_refl _) (fun k hk=>by simpa using hk) fun _=>⟨.inl rfl,by simp,by simp,(fun hk=>by cases hk),(fun k hk=>by simp at hk;omega)⟩
 ·rcases hcN with ⟨h9,_⟩ | ⟨c2,h9,h10,h11⟩
  ·rw [h9] at hc;cases hc
  ·rw [h9] at hc
   simp at hc
   refine .slice hp (by omega) (by omega) (fun k hk=>by simp at hk;omega) fun _=>⟨by rw [hsz];exact h2,htot2,by rw [hn];omega,(fun hk=>by cases hk),(fun k hk=>by simp at hk;rw [hn];omega)⟩
 ·rcases hcN with ⟨_,h9,h10⟩ | ⟨c2,h9,_⟩
  ·refine .slice hp (by omega) (by omega) (fun k hk=>by cases hk) fun _=>⟨by rw [hsz];exact h2,htot2,by rw [hn];omega,fun _=>by rw [hn];have:=hnone h9;omega,fun k hk=>by cases hk⟩
  ·rw [h9] at hc;cases hc
theorem cutPs_some {xs:List AV} {l u:Nat} {tight:Bool} {v:AV} (e:cutPs xs l u tight=some v):l≤u∧u≤xs.length∧v = .ps ((xs.take u).drop l) tight:=by
 unfold cutPs at e
 rw [ble_iff,ble_iff] at e
 by_cases h1:l≤u
 ·by_cases h2:u≤xs.length
  ·simp [h1,h2] at e;exact ⟨h1,h2,e.symm⟩
  ·simp [h2] at e
 ·simp [h1] at e
theorem cutPs_ok {xs:List AV} {tight tN:Bool} {cx:Value} {s l u m:Nat} (hx:VRel pl M (.ps xs tight) cx) (hsz:headSz s xs=true) (hlu:l≤u) (hux:u≤xs.length) :
  ∃ ad cap,cx = .slice (some ad) xs.length cap∧xs.length≤cap∧(tight=true→cap=xs.length)∧(u≤m→m≤cap→(tN=true→m=u)→
   VRel pl M (.ps ((xs.take u).drop l) tN) (.slice (if m=l then some ad else (some ad).map (·.add (l * s))) (u - l) (m - l))):=by
 cases hx with
 | ps hl ht hm hs hc=>
  rename_i ad cap sz c
  refine ⟨ad,cap,rfl,hl,ht,fun hum hmc htN=>?_⟩
  have hlen:((xs.take u).drop l).length=u - l:=by simp;omega
  have hget : ∀ (i:Nat) (x:AV),((xs.take u).drop l)[i]? = some x→xs[l+i]? = some x:=by
   intro i x hi
   rw [List.getElem?_drop] at hi
   by_cases hlt:l+i<u
   ·rw [List.getElem?_take_of_lt hlt] at hi;exact hi
   ·rw [List.getElem?_take_eq_none (by omega)] at hi;cases hi
  have hmem : ∀ x,x∈(xs.take u).drop l→x∈xs:=fun x hx=>List.mem_of_mem_take (List.mem_of_mem_drop hx)
  rw [← hlen]
  by_cases hml:m=l
  ·have hnil:(xs.take u).drop l = []:=List.eq_nil_of_length_eq_zero (by omega)
   rw [hnil]
   simp only [hml,if_true]
   exact .ps (c:=c) (sz:=sz) (by simp) (fun _=>by simp) (fun hh=>absurd rfl hh) (fun x hx=>by cases hx) (fun i x j y hi=>by simp at hi)
  ·simp only [hml,if_false,Option.map_some]
   by_cases hnil:(xs.take u).drop l = []
   ·rw [hnil] at hlen ⊢
    simp at hlen
    refine .ps (c:=c) (sz:=sz) (by simp) (fun htt=>?_) (fun hh=>absurd rfl hh) (fun x hx=>by cases hx) (fun i x j y hi=>by simp at hi)
    have:=htN htt
    simp
    omega
   ·have hne:xs≠ []:=by intro e;subst e;simp at hnil
    obtain ⟨hspot,hM,hfit,h0⟩:=hm hne
    have hsz2:sz=s:=by
     cases xs with
     | nil=>exact absurd rfl hne
     | cons x r=>
      simp only [headSz,beq_iff,decide_eq_true_eq] at hsz
      rw [← hsz];exact ((hs x (by simp)).1).symm
    subst hsz2
    have had:ad=⟨ad.block,ad.off,none⟩:=by cases ad;simp at hspot;subst hspot;rfl
    have hadd:ad.add (l * sz)=⟨ad.block,ad.off+l * sz,none⟩:=by rw [had,Addr.add_lit]
    rw [hadd]
    refine .ps (c:=c) (sz:=sz) (by rw [hlen];omega) (fun htt=>by rw [hlen];have:=htN htt;omega) (fun _=>⟨rfl,hM,?_,h0⟩) (fun x hx=>hs x (hmem x hx)) (fun i x j y hi hj=>?_)
    ·have:=Nat.mul_le_mul_right sz hux
     have e2:(l+(u - l)) * sz=u * sz:=by congr 1;omega
     rw [Nat.add_mul] at e2
     rw [hlen]
     show ad.off+l * sz+(u - l) * sz≤c.size
     omega
    ·have:=hc (l+i) x j y (hget i x hi) hj
     have e3:ad.off+l * sz+i * sz+j=ad.off+(l+i) * sz+j:=by rw [Nat.add_mul];omega
     show VRel pl M y (c.getD (ad.off+l * sz+i * sz+j) undef)
     rw [e3];exact this
theorem sliceSl_ok (hr:Rep pl M h w) {s:Nat} {x v:AV} {cx:Value} {lo hi mx:Option AV} {clo chi cmx:Option Value} (hx:VRel pl M x cx) (hlo:ORel pl M lo clo) (hhi:ORel pl M hi chi) (hmx:ORel pl M mx cmx)
  {t e:TypeId} (ht:P.underlying t=some (.slice e)) (hs:szOf P e=some s) (he:sliceSl s h (some x) lo hi mx=some v) : ∃ cv,(Instr.sliceAt t cx clo chi cmx).run P w = .ok cv w∧VRel pl M v cv:=by
 unfold sliceSl at he
 split at he
 ·rename_i id ep off len cap e0
  simp at e0;subst e0
  split at he
  ·rename_i xs hrow
   obtain ⟨op,hg⟩:=rowOf_some hrow
   obtain ⟨p,c,t',ad,cap',q1,rfl,q3,q4,q5,q6,q7,q8,q9,q10,q11,q12,q13,q14,q15,q16,q17⟩:=slice_at hr hx hg
   have hroomcap:room xs.length off cap≤cap':=by
    cases cap with
    | none=>simp only [room];have:=q16 rfl;omega
    | some k=>simp only [room];have:=q12 k rfl;omega
   have hroomlen:len≤room xs.length off cap:=by
    cases cap with
    | none=>simp only [room];omega
    | some k=>simp only [room];have:=q12 k rfl;omega
   split at he
   ·rename_i l hnl
    have hcl:(clo=none∧l=0)∨∃ k,clo=some (.int k (l:Int)):=by
     rcases natOr_ok hlo hnl with ⟨_,a1,a2⟩ | ⟨k,a1,_⟩
     ·exact .inl ⟨a1,a2⟩
     ·exact .inr ⟨k,a1⟩
    split at he
    ·rename_i hi'
     cases cmx with
     | some c=>exact hmx.elim
     | none=>
      split at he
      ·rename_i u hnu
       have hcu:(chi=none∧u=len)∨∃ k,chi=some (.int k (u:Int)):=by
        rcases natOr_ok hhi hnu with ⟨_,a1,a2⟩ | ⟨k,a1,_⟩
        ·exact .inl ⟨a1,a2⟩
        ·exact .inr ⟨k,a1⟩
       obtain ⟨b1,b2,_⟩:=cutSl_some he
       refine ⟨_,run_sliceAt ht hs (run_bounds2 hcl hcu b1 (Nat.le_trans b2 hroomcap) w),?_⟩
       have he2:cutSl id ep off l u cap' cap=some v:=by
        revert he
        unfold cutSl
        simp [ble_iff,b1,b2,Nat.le_trans b2 hroomcap]
       refine cut_ok (cap:=cap) q1 q4 q5 q6 q12 q13 (by rw [q7];exact q14) q16 q17 b2 b1 (Nat.le_trans b2 hroomcap) (Nat.le_refl _) q15 ?_ he2
       cases cap with
       | none=>exact .inl ⟨rfl,rfl,rfl⟩
       | some k=>exact .inr ⟨k,rfl,q12 k rfl,Nat.le_refl _⟩
      ·simp at he
    ·rename_i m hi'
     cases cmx with
     | none=>exact hmx.elim
     | some cm=>
      cases chi with
      | none=>exact hhi.elim
      | some cu=>
       split at he
       ·rename_i m' u hnm hnu
        obtain ⟨k1,rfl⟩:=natOf_ok hmx hnm
        obtain ⟨k2,rfl⟩:=natOf_ok hhi hnu
        rw [ble_iff] at he
        by_cases hmr:m'≤room xs.length off cap
        ·simp [hmr] at he
         obtain ⟨b1,b2,_⟩:=cutSl_some he
         refine ⟨_,run_sliceAt ht hs (run_bounds3 hcl b1 b2 (Nat.le_trans hmr hroomcap) w),?_⟩
         exact cut_ok (cap:=cap) q1 q4 q5 q6 q12 q13 (by rw [q7];exact q14) q16 q17 (Nat.le_trans b2 hmr) b1 b2 (Nat.le_trans hmr hroomcap) q15 (.inr ⟨m',rfl,rfl,hmr⟩) he
        ·simp [hmr] at he
       ·simp at he
    ·simp at he
   ·simp at he
  ·simp at he
 ·rename_i xs tight e0
  simp at e0;subst e0
  split at he
  ·rename_i hsz
   split at he
   ·rename_i l hnl
    have hcl:(clo=none∧l=0)∨∃ k,clo=some (.int k (l:Int)):=by
     rcases natOr_ok hlo hnl with ⟨_,a1,a2⟩ | ⟨k,a1,_⟩
     ·exact .inl ⟨a1,a2⟩
     ·exact .inr ⟨k,a1⟩
    split at he
    ·rename_i hi'
     cases cmx with
     | some c=>exact hmx.elim
     | none=>
      split at he
      ·rename_i u hnu
       obtain ⟨b1,b2,rfl⟩:=cutPs_some he
       have hcu:(chi=none∧u=xs.length)∨∃ k,chi=some (.int k (u:Int)):=by
        rcases natOr_ok hhi hnu with ⟨_,a1,a2⟩ | ⟨k,a1,_⟩
        ·exact .inl ⟨a1,a2⟩
        ·exact .inr ⟨k,a1⟩
       cases hx with
       | ps hl htt hm hs2 hc=>
        rename_i ad cap sz c
        obtain ⟨ad2,cap2,e1,e2,e3,e4⟩:=cutPs_ok (tN:=tight && Nat.beq u xs.length) (m:=cap) (.ps hl htt hm hs2 hc) hsz b1 b2
        simp at e1
        obtain ⟨rfl,rfl⟩:=e1
        refine ⟨_,run_sliceAt ht hs (run_bounds2 hcl hcu b1 (Nat.le_trans b2 e2) w),e4 (Nat.le_trans b2 e2) (Nat.le_refl _) fun hh=>?_⟩
        simp [beq_iff] at hh
        rw [e3 hh.1,hh.2]
      ·simp at he
    ·rename_i m hi'
     cases cmx with
     | none=>exact hmx.elim
     | some cm=>
      cases chi with
      | none=>exact hhi.elim
      | some cu=>
       split at he
       ·rename_i m' u hnm hnu
        obtain ⟨k1,rfl⟩:=natOf_ok hmx hnm
        obtain ⟨k2,rfl⟩:=natOf_ok hhi hnu
        rw [beq_iff] at he
        by_cases hmr:u=m'
        ·simp [hmr] at he
         subst hmr
         obtain ⟨b1,b2,rfl⟩:=cutPs_some he
         cases hx with
         | ps hl htt hm hs2 hc=>
          rename_i ad cap sz c
          obtain ⟨ad2,cap2,e1,e2,e3,e4⟩:=cutPs_ok (tN:=true) (m:=u) (.ps hl htt hm hs2 hc) hsz b1 b2
          simp at e1
          obtain ⟨rfl,rfl⟩:=e1
          exact ⟨_,run_sliceAt ht hs (run_bounds3 hcl b1 (Nat.le_refl _) (Nat.le_trans b2 e2) w),e4 (Nat.le_refl _) (Nat.le_trans b2 e2) fun _=>rfl⟩
        ·simp [hmr] at he
       ·simp at he
    ·simp at he
   ·simp at he
  ·simp at he
 ·rename_i e0
  simp at e0;subst e0
  cases hx
  split at he
  ·rename_i hi' hnl
   cases cmx with
   | some c=>exact hmx.elim
   | none=>
    split at he
    ·rename_i hnu
     simp at he;subst he
     refine ⟨_,run_sliceAt ht hs (run_bounds2 (l:=0) (u:=0) ?_ ?_ (Nat.le_refl _) (Nat.le_refl _) w),by simpa using VRel.nils⟩
     ·rcases natOr_ok hlo hnl with ⟨_,a1,a2⟩ | ⟨k,a1,_⟩
      ·exact .inl ⟨a1,rfl⟩
      ·exact .inr ⟨k,a1⟩
     ·rcases natOr_ok hhi hnu with ⟨_,a1,a2⟩ | ⟨k,a1,_⟩
      ·exact .inl ⟨a1,rfl⟩
      ·exact .inr ⟨k,a1⟩
    ·simp at he
  ·rename_i m hi' hnl
   cases cmx with
   | none=>exact hmx.elim
   | some cm=>
    cases chi with
    | none=>exact hhi.elim
    | some cu=>
     split at he
     ·rename_i hnm hnu
      simp at he;subst he
      obtain ⟨k1,rfl⟩:=natOf_ok hmx hnm
      obtain ⟨k2,rfl⟩:=natOf_ok hhi hnu
      refine ⟨_,run_sliceAt ht hs (run_bounds3 (l:=0) ?_ (Nat.le_refl _) (Nat.le_refl _) (Nat.le_refl _) w),by simpa using VRel.nils⟩
      rcases natOr_ok hlo hnl with ⟨_,a1,a2⟩ | ⟨k,a1,_⟩
      ·exact .inl ⟨a1,rfl⟩
      ·exact .inr ⟨k,a1⟩
     ·simp at he
  ·simp at he
 ·simp at he
theorem VRel.loose {ys:List AV} {t:Bool} {cx:Value} (h:VRel pl M (.ps ys t) cx):VRel pl M (.ps ys false) cx:=by
 cases h with
 | ps hl ht hm hs hc=>exact .ps hl (fun h=>by cases h) hm hs hc
theorem sliceAny_ok (hr:Rep pl M h w) {s:Nat} {x v:AV} {cx:Value} {lo hi mx:Option AV} {clo chi cmx:Option Value} (hx:VRel pl M x cx) (hlo:ORel pl M lo clo) (hhi:ORel pl M hi chi) (hmx:ORel pl M mx cmx)
  {t e:TypeId} (ht:P.underlying t=some (.slice e)) (hs:szOf P e=some s) (he:sliceAny s h (some x) lo hi mx=some v) : ∃ cv,(Instr.sliceAt t cx clo chi cmx).run P w = .ok cv w∧VRel pl M v cv:=by
 unfold sliceAny at he
 split at he
 ·rename_i xs e0
  simp at e0
  subst e0
  cases mx with
  | some m=>simp at he
  | none=>
   simp only [] at he
   cases hq:sliceSl s h (some (.ps xs false)) lo hi none with
   | none=>rw [hq] at he;simp [lsOut] at he
   | some r=>
    rw [hq] at he
    cases hx with
    | lsp hx htop=>
     obtain ⟨cv,k1,k2⟩:=sliceSl_ok (P:=P) hr hx hlo hhi hmx ht hs hq
     unfold lsOut at he
     split at he
     ·rename_i ys tt q
      cases q
      cases he
      refine ⟨cv,k1, .lsp k2.loose ?_⟩
      have hsub : ∀ y,y∈ys→y∈xs:=by
       simp only [sliceSl] at hq
       split at hq
       ·split at hq
        ·split at hq
         ·unfold cutPs at hq
          split at hq
          ·simp only [Option.some.injEq,AV.ps.injEq] at hq
           obtain ⟨rfl,_⟩:=hq
           exact fun y hy=>List.mem_of_mem_take (List.mem_of_mem_drop hy)
          ·simp at hq
         ·simp at hq
        ·simp at hq
       ·simp at hq
      exact tops_0.2 fun y hy=>tops_0.1 htop y (hsub y hy)
     ·simp at he
    | lsn=>
     have key:sliceSl s h (some .nils) lo hi none=some .nils∧v = .ls []:=by
      simp only [sliceSl] at hq ⊢
      split at hq
      ·split at hq
       ·rename_i l hl
        simp only [List.length_nil] at hq
        split at hq
        ·rename_i u hu
         unfold cutPs at hq
         split at hq
         ·rename_i hb
          simp only [ble_iff,Bool.and_eq_true,decide_eq_true_eq,List.length_nil] at hb
          obtain rfl:u=0:=by omega
          obtain rfl:l=0:=by omega
          simp at hq
          subst hq
          simp [lsOut] at he
          exact ⟨by simp [hl,hu],he.symm⟩
         ·simp at hq
        ·simp at hq
       ·simp at hq
      ·simp at hq
     obtain ⟨k0,rfl⟩:=key
     obtain ⟨cv,k1,k2⟩:=sliceSl_ok (P:=P) hr .nils hlo hhi hmx ht hs k0
     cases k2
     exact ⟨_,k1, .lsn⟩
 ·exact sliceSl_ok hr hx hlo hhi hmx ht hs he
theorem sliceStr_ok {x v:AV} {cx:Value} {lo hi:Option AV} {clo chi:Option Value} (hx:VRel pl M x cx) (hlo:ORel pl M lo clo) (hhi:ORel pl M hi chi)
  {t:TypeId} (ht:P.underlying t=some .string) (he:sliceStr (some x) lo hi=some v) (w:World) : ∃ cv,(Instr.sliceAt t cx clo chi none).run P w = .ok cv w∧VRel pl M v cv:=by
 unfold sliceStr at he
 split at he
 ·rename_i s e0
  simp at e0;subst e0
  cases hx
  split at he
  ·rename_i u l hnu hnl
   rw [ble_iff,ble_iff] at he
   by_cases h1:l≤u
   ·by_cases h2:u≤s.length
    ·simp [h1,h2] at he
     subst he
     refine ⟨_,run_sliceStr ht (run_bounds2 ?_ ?_ h1 h2 w) h1 h2, .str _⟩
     ·rcases natOr_ok hlo hnl with ⟨_,a1,a2⟩ | ⟨k,a1,_⟩
      ·exact .inl ⟨a1,a2⟩
      ·exact .inr ⟨k,a1⟩
     ·rcases natOr_ok hhi hnu with ⟨_,a1,a2⟩ | ⟨k,a1,_⟩
      ·exact .inl ⟨a1,a2⟩
      ·exact .inr ⟨k,a1⟩
    ·simp [h2] at he
   ·simp [h1] at he
  ·simp at he
 ·simp at he
theorem ok_slice (t:TypeId) (x:Operand) (lo hi mx:Option Operand):OkOp P G (.slice t x lo hi mx):=by
 intro pl M A h v h' a w dst ty pos after guard hg hr hf he
 simp only [opR] at he
 cases hu:P.underlying t with
 | none=>simp only [hu] at he;exact (fail_run he).elim
 | some d=>
  rw [hu] at he
  cases d <;> try exact (fail_run he).elim
  case string=>
   cases mx with
   | some m=>exact (fail_run he).elim
   | none=>
    obtain ⟨u,e1,e2⟩:=retV_some he
    simp at e2
    obtain ⟨rfl,rfl⟩:=e2
    obtain ⟨olo,e3,r3⟩:=optd_some hg hf e1
    obtain ⟨ohi,e4,r4⟩:=optd_some hg hf e3
    cases hx:(opd G x).run A with
    | none=>simp [hx,sliceStr] at e4
    | some xv=>
     rw [hx] at e4
     obtain ⟨cv,k1,k2⟩:=sliceStr_ok (P:=P) (opd_ok hg hf hx) r3 r4 hu e4 w
     simpa [execOp,k1] using Out.pure hr k2
  case slice e=>
   cases hs:szOf P e with
   | none=>simp only [hs] at he;exact (fail_run he).elim
   | some s=>
    cases s with
    | zero=>simp only [hs] at he;exact (fail_run he).elim
    | succ s=>
     simp only [hs] at he
     obtain ⟨u,e1,e2⟩:=retV_some he
     simp at e2
     obtain ⟨rfl,rfl⟩:=e2
     obtain ⟨olo,e3,r3⟩:=optd_some hg hf e1
     obtain ⟨ohi,e4,r4⟩:=optd_some hg hf e3
     obtain ⟨omx,e5,r5⟩:=optd_some hg hf e4
     cases hx:(opd G x).run A with
     | none=>simp [hx,sliceAny,sliceSl] at e5
     | some xv=>
      rw [hx] at e5
      obtain ⟨cv,k1,k2⟩:=sliceAny_ok (P:=P) hr (opd_ok hg hf hx) r3 r4 r5 hu hs e5
      simpa [execOp,k1] using Out.pure hr k2
end
end Go.Ev

namespace Go.Ev
open Go
section
variable {P : Program} {G : Env} {pl : Pl} {M : Mem} {h h' : AHeap} {w w' : World} {v : AV} {A : Fr} {a : Act}
theorem kindB_eq {j k:IntKind} : kindB j k=decide (j=k):=by cases j <;> cases k <;> rfl
theorem eqI_eq : ∀ (x y:Int),eqI x y=(x == y)
 | .ofNat x, .ofNat y=>by simp only [eqI,beq_iff];rw [Bool.eq_iff_iff];simp;omega
 | .negSucc x, .negSucc y=>by simp only [eqI,beq_iff];rw [Bool.eq_iff_iff];simp
 | .ofNat x, .negSucc y=>by simp only [eqI];rw [Bool.eq_iff_iff];simp
 | .negSucc x, .ofNat y=>by simp only [eqI];rw [Bool.eq_iff_iff];simp
theorem ltI_eq : ∀ (x y:Int),ltI x y=decide (x<y)
 | .ofNat x, .ofNat y=>by simp only [ltI,blt_iff];rw [Bool.eq_iff_iff];simp
 | .negSucc x, .negSucc y=>by simp only [ltI,blt_iff];rw [Bool.eq_iff_iff];simp;omega
 | .ofNat x, .negSucc y=>by simp only [ltI];rw [Bool.eq_iff_iff];simp;omega
 | .negSucc x, .ofNat y=>by simp only [ltI];rw [Bool.eq_iff_iff];simp;omega
theorem u8_beq (a b:UInt8):Nat.beq a.toNat b.toNat=(a == b):=by
 rw [beq_iff,Bool.eq_iff_iff];simp [UInt8.toNat_inj]
theorem eqB_eq : ∀ (x y:List UInt8),eqB x y=(x == y)
 | [], []=>rfl
 | [],_::_=>rfl
 | _::_, []=>rfl
 | a::x,b::y=>by simp only [eqB,u8_beq,eqB_eq x y];rfl
theorem ltB_eq : ∀ (x y:List UInt8),ltB x y=Op.bytesLess x y
 | _, []=>by cases ‹List UInt8› <;> simp [ltB,Op.bytesLess]
 | [],_::_=>by simp [ltB,Op.bytesLess]
 | a::x,b::y=>by
  simp only [ltB,Op.bytesLess,u8_beq,ltB_eq x y,blt_iff]
  congr 1
theorem bytes_toList (s:List UInt8):(⟨⟨s⟩⟩:ByteArray).toList=s:=by rw [ByteArray.toList_eq]
theorem eqThen_some {k r:Option Bool} {b:Bool} (e:eqThen k r=some b):(r=some true∧k=some b)∨(r=some false∧b=false):=by
 cases r with
 | none=>simp [eqThen] at e
 | some r => cases r <;> simp [eqThen] at e
             ·exact .inr ⟨rfl,e⟩
             ·exact .inl ⟨rfl,e⟩
theorem eqL_append (xs ys:List AV) : ∀ (a b:List (Nat × Nat)),eqL xs ys (a++b)=eqThen (eqL xs ys b) (eqL xs ys a)
 | [],b=>rfl
 | (i,t)::r,b=>by
  simp only [List.cons_append,eqL,eqL_append xs ys r b]
  cases eqO t (nth xs i) (nth ys i) with
  | none=>rfl
  | some q=>cases q <;> rfl
theorem tagOf_some {d:TypeDesc} {k:Nat} (e:tagOf d=some k):(d = .bool∧k=0)∨(∃ i,d = .int i∧k=1)∨(d = .string∧k=2):=by
 cases d <;> simp [tagOf] at e <;> simp [e]
theorem eqS_ok {x y:AV} {cx cy:Value} (hx:VRel pl M x cx) (hy:VRel pl M y cy) {b:Bool} {k:Nat} (e:eqS k x y=some b) {t:TypeId} {d:TypeDesc}
  (ht:P.underlying t=some d) (hk:tagOf d=some k) (n:Nat) (w:World):(Op.equalIn (n+1) t cx cy).run P w = .ok b w:=by
 unfold eqS at e
 split at e
 ·rw [kindB_eq] at e
  split at e
  ·rename_i hj
   simp at hj e
   subst hj
   cases hx;cases hy
   rcases tagOf_some hk with ⟨_,h0⟩ | ⟨i,rfl,_⟩ | ⟨_,h0⟩
   ·cases h0
   ·rw [run_equalIn_int _ _ _ _ _ _ _ ht,← e,eqI_eq]
   ·cases h0
  ·simp at e
 ·simp at e
  cases hx;cases hy
  rcases tagOf_some hk with ⟨_,h0⟩ | ⟨i,rfl,h0⟩ | ⟨rfl,_⟩
  ·cases h0
  ·cases h0
  ·rw [run_equalIn_string _ _ _ _ _ ht,← e,eqB_eq,bytes_toList,bytes_toList]
 ·simp at e
  cases hx;cases hy
  rcases tagOf_some hk with ⟨rfl,_⟩ | ⟨i,rfl,h0⟩ | ⟨_,h0⟩
  ·rw [run_equalIn_bool' _ _ _ _ _ ht,← e]
  ·cases h0
  ·cases h0
 ·simp at e
theorem eqO_some {k:Nat} {x y:Option AV} {b:Bool} (e:eqO k x y=some b) : ∃ u v,x=some u∧y=some v∧eqS k u v=some b:=by
 cases x <;> cases y <;> simp [eqO] at e
 exact ⟨_,_,rfl,rfl,e⟩
def AtOff (P:Program) (t:TypeId) (vx:Array Value) (off:Nat) (cx:Value):Prop:=
 match isAggB P t with
 | some true=>∃ ex,cx = .agg ex∧∀ k,k<(szOf P t).getD 0→ex[k]? = vx[off+k]?
 | some false=>vx[off]? = some cx
 | none=>False
theorem isAgg_struct {t:TypeId} {fs:Array Field} (h:P.underlying t=some (.struct fs)):isAggB P t=some true:=by simp [isAggB,h]
theorem isAgg_tag {t:TypeId} {d:TypeDesc} {k:Nat} (h:P.underlying t=some d) (hk:tagOf d=some k):isAggB P t=some false:=by
 rcases tagOf_some hk with ⟨rfl,_⟩ | ⟨i,rfl,_⟩ | ⟨rfl,_⟩ <;> simp [isAggB,h]
theorem leaves_cases {n off:Nat} {t:TypeId} {ls:List (Nat × Nat)} (e:leaves P (n+1) t off=some ls) :
  (∃ fs sz,P.underlying t=some (.struct fs)∧szOf P t=some sz∧P.stoodInHeld t=false∧leavesF P (leaves P n) sz off fs.toList=some ls)∨
  (∃ d k,P.underlying t=some d∧szOf P t=some 1∧tagOf d=some k∧ls = [(off,k)]):=by
 simp only [leaves] at e
 cases hu:P.underlying t with
 | none=>simp [hu] at e
 | some d=>
  cases hs:szOf P t with
  | none=>cases d <;> simp [hu,hs] at e
  | some sz=>
   by_cases hd : ∃ fs,d = .struct fs
   ·obtain ⟨fs,rfl⟩:=hd
    simp only [hu,hs] at e
    cases hh:P.stoodInHeld t with
    | true=>simp [hh] at e
    | false=>simp only [hh] at e;exact .inl ⟨fs,sz,rfl,rfl,rfl,e⟩
   ·have hd2 : ∀ fs,d≠ .struct fs:=fun fs h=>hd ⟨fs,h⟩
    have h1:sz=1∧∃ k,tagOf d=some k∧ls = [(off,k)]:=by
     rw [hu,hs] at e
     cases d <;> first | exact absurd rfl (hd2 _) | skip
     all_goals
      rcases sz with _ | _ | sz
      ·simp at e
      ·simp [tagOf] at e
       try exact ⟨rfl,_,rfl,e.symm⟩
      ·simp at e
    obtain ⟨rfl,k,h2,h3⟩:=h1
    exact .inr ⟨d,k,rfl,rfl,h2,h3⟩
theorem leavesF_cons {f:TypeId→Nat→Option (List (Nat × Nat))} {sz off:Nat} {x:Field} {r:List Field} {ls:List (Nat × Nat)} (e:leavesF P f sz off (x::r)=some ls) :
  x.name ≠ "_" ∧ ∃ s a b, szOf P x.type = some s ∧ f x.type (off + x.offset) = some a ∧ leavesF P f sz off r = some b ∧ x.offset + s ≤ sz ∧ ls = a ++ b := by
 simp only [leavesF] at e
 by_cases h0 : x.name = "_"
 ·simp [h0] at e
 ·refine ⟨h0,?_⟩
  cases h1:szOf P x.type with
  | none=>simp [h0,h1] at e
  | some s=>
   cases h2:f x.type (off+x.offset) with
   | none=>simp [h0,h1,h2] at e
   | some a=>
    cases h3:leavesF P f sz off r with
    | none=>simp [h0,h1,h2,h3] at e
    | some b=>
     simp only [h0,decide_false,h1,h2,h3,ble_iff] at e
     by_cases h4:x.offset+s≤sz
     ·simp [h4] at e;exact ⟨s,a,b,rfl,rfl,rfl,h4,e.symm⟩
     ·simp [h4] at e
theorem part_atOff {t:TypeId} {ag:Bool} {s o off sz:Nat} {ex vx:Array Value} (h1:isAggB P t=some ag) (h2:szOf P t=some s) (hs0:ag=false→s=1) (hfit:o+s≤sz) (hex : ∀ k,k<sz→ex[k]? = vx[off+k]?)
  (hin : ∀ k,k<s→(vx[off+o+k]?).isSome=true) (w:World) : ∃ cv,(part t ex o).run P w = .ok cv w∧AtOff P t vx (off+o) cv:=by
 cases ag with
 | true=>
  refine ⟨.agg (ex.extract o (o+s)),by simp [part,run_isAgg h1,run_sizeOf h2],?_⟩
  simp only [AtOff,h1,h2,Option.getD_some]
  refine ⟨_,rfl,fun k hk=>?_⟩
  have h3:=hex (o+k) (by omega)
  have h4:=hin k hk
  rw [show off+o+k=off+(o+k) by omega] at h4 ⊢
  rw [← h3] at h4 ⊢
  obtain ⟨u,hu⟩:=Option.isSome_iff_exists.1 h4
  have hlt:=(Array.getElem?_eq_some_iff.1 hu).1
  rw [Array.getElem?_extract,if_pos (by omega)]
 | false=>
  have hs:=hs0 rfl
  subst hs
  have h3:=hex o (by omega)
  have h4:=hin 0 (by omega)
  rw [Nat.add_zero] at h4
  rw [← h3] at h4
  obtain ⟨u,hu⟩:=Option.isSome_iff_exists.1 h4
  refine ⟨u,by simp [part,run_isAgg h1,hu],?_⟩
  simp only [AtOff,h1]
  rw [← h3];exact hu
theorem eqL_ok {X Y:List AV} {vx vy:Array Value} (hX:VRels pl M X vx) (hY:VRels pl M Y vy) : ∀ (n:Nat) (t:TypeId) (off:Nat) (ls:List (Nat × Nat)) (cx cy:Value) (b:Bool) (d sz:Nat) (w:World),
  leaves P n t off=some ls→szOf P t=some sz→off+sz≤X.length→off+sz≤Y.length→AtOff P t vx off cx→AtOff P t vy off cy→eqL X Y ls=some b→(Op.equalIn (d+n) t cx cy).run P w = .ok b w
 | 0,_,_,_,_,_,_,_,_,_,e,_,_,_,_,_,_=>by simp [leaves] at e
 | n+1,t,off,ls,cx,cy,b,d,sz,w,e,hsz,hlx,hly,hcx,hcy,he=>by
  rcases leaves_cases e with ⟨fs,sz',hu,hs',hst,hl⟩ | ⟨dd,k,hu,hs1,hk,rfl⟩
  ·rw [hsz] at hs'
   simp at hs'
   subst hs'
   simp only [AtOff,isAgg_struct hu,hsz,Option.getD_some] at hcx hcy
   obtain ⟨ex,rfl,hex⟩:=hcx
   obtain ⟨ey,rfl,hey⟩:=hcy
   have hfs:P.fieldsOf t=fs:=by simp [Program.fieldsOf,hu]
   rw [show d+(n+1)=(d+n)+1 by omega,run_equalIn_agg _ _ _ _ _ (by rw [hfs];exact hu) hst,hfs]
   generalize fs.toList=fl at hl
   clear hu hfs e
   induction fl generalizing ls b w with
   | nil=>simp [leavesF] at hl;subst hl;simp [eqL] at he;subst he;simp [Op.eqFields]
   | cons f r ih=>
    obtain ⟨hname,s,a1,b1,g1,g2,g3,g4,rfl⟩:=leavesF_cons hl
    rw [eqL_append] at he
    have hag : ∃ ag,isAggB P f.type=some ag∧(ag=false→s=1):=by
     cases n with
     | zero=>simp [leaves] at g2
     | succ n=>
      rcases leaves_cases g2 with ⟨fs2,sz2,k1,k2,k3,k4⟩ | ⟨d2,k2,k3,k4,k5,k6⟩
      ·exact ⟨true,isAgg_struct k1,fun h=>by cases h⟩
      ·rw [g1] at k4;simp at k4;exact ⟨false,isAgg_tag k3 k5,fun _=>k4⟩
    obtain ⟨ag,q1,q2⟩:=hag
    have hvx:=hX.len
    have hvy:=hY.len
    obtain ⟨cvx,r1,r2⟩:=part_atOff (P:=P) (vx:=vx) q1 g1 q2 g4 hex (fun k hk=>by rw [Array.getElem?_eq_getElem (by omega)];rfl) w
    obtain ⟨cvy,r3,r4⟩:=part_atOff (P:=P) (vx:=vy) q1 g1 q2 g4 hey (fun k hk=>by rw [Array.getElem?_eq_getElem (by omega)];rfl) w
    simp only [Op.eqFields,if_pos hname,Sem.run_bind,r1,r3,Result.andThen_ok]
    rcases eqThen_some he with ⟨he1,he2⟩ | ⟨he1,rfl⟩
    ·rw [eqL_ok hX hY n f.type (off+f.offset) a1 cvx cvy true d s w g2 g1 (by omega) (by omega) r2 r4 he1]
     simp only [Result.andThen_ok,Bool.not_true,Bool.false_eq_true,if_false]
     exact ih b1 b w he2 g3
    ·rw [eqL_ok hX hY n f.type (off+f.offset) a1 cvx cvy false d s w g2 g1 (by omega) (by omega) r2 r4 he1]
     simp
  ·simp only [AtOff,isAgg_tag hu hk] at hcx hcy
   simp only [eqL] at he
   have he2:eqO k (nth X off) (nth Y off)=some b:=by
    rcases eqThen_some he with ⟨k1,k2⟩ | ⟨k1,k2⟩
    ·simp at k2;rw [k1,k2]
    ·rw [k1,k2]
   obtain ⟨u,v,e1,e2,e3⟩:=eqO_some he2
   rw [nth_eq] at e1 e2
   have hru:=hX.at_ _ _ e1
   have hrv:=hY.at_ _ _ e2
   have h5:=hX.get e1
   have h6:=hY.get e2
   rw [h5] at hcx
   rw [h6] at hcy
   have hcx':=Option.some.inj hcx
   have hcy':=Option.some.inj hcy
   rw [hcx'] at hru
   rw [hcy'] at hrv
   exact eqS_ok hru hrv e3 hu hk (d+n) w
theorem eqGuardType_leaves : ∀ (n:Nat) (t:TypeId) (off:Nat) (ls:List (Nat × Nat)) (D:Nat),leaves P n t off=some ls→n≤D→P.eqGuardType D t=false
 | 0,_,_,_,_,e,_=>by simp [leaves] at e
 | n+1,t,off,ls,0,_,h=>by omega
 | n+1,t,off,ls,D+1,e,h=>by
  rcases leaves_cases e with ⟨fs,sz',hu,hs',hst,hl⟩ | ⟨dd,k,hu,hs1,hk,rfl⟩
  ·simp only [Program.eqGuardType,hu]
   rw [← Array.any_toList]
   generalize fs.toList=fl at hl
   clear hu e
   induction fl generalizing ls with
   | nil=>rfl
   | cons f r ih=>
    obtain ⟨hname,s,a1,b1,g1,g2,g3,g4,rfl⟩:=leavesF_cons hl
    simp only [List.any_cons,eqGuardType_leaves n f.type _ a1 D g2 (by omega),Bool.and_false,Bool.false_or]
    exact ih b1 g3
  ·rcases tagOf_some hk with ⟨rfl,_⟩ | ⟨i,rfl,_⟩ | ⟨rfl,_⟩ <;> simp [Program.eqGuardType,hu]
theorem atOff_whole {t:TypeId} {fs:Array Field} {vs:Array Value} (hu:P.underlying t=some (.struct fs)):AtOff P t vs 0 (.agg vs):=by
 simp only [AtOff,isAgg_struct hu]
 exact ⟨vs,rfl,fun k _=>by rw [Nat.zero_add]⟩
theorem isAgg_leaves_struct {n:Nat} {t:TypeId} {ls:List (Nat × Nat)} (ha:isAggB P t=some true) (e:leaves P n t 0=some ls) : ∃ fs,P.underlying t=some (.struct fs):=by
 cases n with
 | zero=>simp [leaves] at e
 | succ n=>
  rcases leaves_cases e with ⟨fs,sz',hu,_⟩ | ⟨dd,k,hu,hs1,hk,rfl⟩
  ·exact ⟨fs,hu⟩
  ·rw [isAgg_tag hu hk] at ha;simp at ha
theorem eqNil_ok {x y:AV} {cx cy:Value} (hx:VRel pl M x cx) (hy:VRel pl M y cy) {t:TypeId} {b:Bool} (e:eqNil (P.underlying t) x y=some b) (n:Nat) (w:World) :
  (Op.equalIn (n+1) t cx cy).run P w = .ok b w∧(∀ op o1 o2,eqGuard op t o1 o2 cx cy=pure ())∧(∀ op,op = .eql∨op = .neq→binOp op t cx cy=(do let r ← Op.equal t cx cy;pure (.bool (if op = .eql then r else !r)))):=by
 unfold eqNil at e
 split at e <;> (try (simp at e;done)) <;> rename_i hu <;> simp at e <;> subst e <;> cases hx <;> cases hy <;>
  refine ⟨by simp [Op.equalIn,run_underlying hu],fun op o1 o2=>by cases op <;> rfl,fun op ho=>?_⟩ <;> rcases ho with rfl | rfl <;> simp [binOp]
theorem eqR_ok {x y:AV} {cx cy:Value} (hx:VRel pl M x cx) (hy:VRel pl M y cy) {t:TypeId} {b:Bool} (e:eqR (isAggB P t) (szOf P t) (leaves P 10 t 0) x y=some b) (w:World) :
  ∀ (o1 o2:Operand),(eqGuard .eql t o1 o2 cx cy).run P w = .ok () w∧(eqGuard .neq t o1 o2 cx cy).run P w = .ok () w∧
   (binOp .eql t cx cy).run P w = .ok (.bool b) w∧(binOp .neq t cx cy).run P w = .ok (.bool (!b)) w:=by
 intro o1 o2
 unfold eqR at e
 split at e
 ·rename_i as bs
  split at e
  ·rename_i n l h1 h2 h3
   rw [beq_iff,beq_iff] at e
   by_cases ha:as.length=n
   ·by_cases hb:bs.length=n
    ·simp [ha,hb] at e
     obtain ⟨fs,hu⟩:=isAgg_leaves_struct h1 h3
     cases hx with
     | agg a1 a2 a3=>
      cases hy with
      | agg b1 b2 b3=>
       have hg:=eqGuardType_leaves 10 t 0 l P.depth h3 (by unfold Program.depth Made.depth;omega)
       have he:=fun w=>eqL_ok (P:=P) (pl:=pl) (M:=M) ⟨a1,a3⟩ ⟨b1,b3⟩ 10 t 0 l _ _ b 9990 n w h3 h2 (by omega) (by omega) (atOff_whole hu) (atOff_whole hu) e
       refine ⟨run_eqGuard_agg _ _ _ _ _ _ _ hg,run_eqGuard_agg _ _ _ _ _ _ _ hg,?_,?_⟩
       ·rw [run_eql_struct,he];rfl
       ·rw [run_neq_struct,he];rfl
    ·simp [hb] at e
   ·simp [ha] at e
  ·simp at e
 ·rw [kindB_eq] at e
  split at e
  ·rename_i hj
   simp at hj e
   subst hj
   cases hx;cases hy
   rw [← e,eqI_eq]
   refine ⟨by rfl,by rfl,?_,?_⟩
   ·rw [binOp_eql];rfl
   ·rw [binOp_neq];rfl
  ·simp at e
 ·simp at e
  cases hx;cases hy
  rw [← e,eqB_eq]
  refine ⟨by rfl,by rfl,?_,?_⟩ <;> simp [binOp,Op.stringOp,bytes_toList]
 ·split at e
  ·rename_i hag hl
   simp at e
   cases hx;cases hy
   have hb:P.underlying t=some .bool:=by
    rcases leaves_cases hl with ⟨fs,sz',hu,hs',hst,hl2⟩ | ⟨dd,k,hu,hs1,hk,h9⟩
    ·rw [isAgg_struct hu] at hag;simp at hag
    ·simp at h9
     rcases tagOf_some hk with ⟨rfl,_⟩ | ⟨i,rfl,h0⟩ | ⟨_,h0⟩
     ·exact hu
     ·rw [h0] at h9;simp at h9
     ·rw [h0] at h9;simp at h9
   refine ⟨by rfl,by rfl,?_,?_⟩
   ·simp [binOp,Op.equal,Op.maxDepth,run_equalIn_bool' _ _ _ _ _ hb,e]
   ·simp [binOp,Op.equal,Op.maxDepth,run_equalIn_bool' _ _ _ _ _ hb,e]
  ·simp at e
 ·simp at e
theorem two_some {f:AV→AV→Option AV} {x y:Option AV} {v:AV} (e:two f x y=some v) : ∃ a b,x=some a∧y=some b∧f a b=some v:=by
 cases x <;> cases y <;> simp [two] at e
 exact ⟨_,_,rfl,rfl,e⟩
theorem one_some {f:AV→Option AV} {x:Option AV} {v:AV} (e:one f x=some v) : ∃ a,x=some a∧f a=some v:=by
 cases x <;> simp [one] at e
 exact ⟨_,rfl,e⟩
theorem arith_some {f:IntKind→Int→Int→Option AV} {x y v:AV} (e:arithR f x y=some v) : ∃ k a b,x = .int k a∧y = .int k b∧f k a b=some v:=by
 unfold arithR at e
 split at e
 ·rw [kindB_eq] at e
  split at e
  ·rename_i hj;simp at hj;subst hj;exact ⟨_,_,_,rfl,rfl,e⟩
  ·simp at e
 ·simp at e
def BinRun (P:Program) (op:BinOp) (t:TypeId) (o1 o2:Operand) (cx cy:Value):Sem Value:=do eqGuard op t o1 o2 cx cy;binOp op t cx cy
theorem orElse_some {k r:Option Bool} {b:Bool} (e:orElseB k r=some b):r=some b∨(r=none∧k=some b):=by
 cases r <;> simp [orElseB] at e
 ·exact .inr ⟨rfl,e⟩
 ·exact .inl (by rw [e])
theorem eq_both {x y:AV} {cx cy:Value} (hx:VRel pl M x cx) (hy:VRel pl M y cy) {t:TypeId} {b:Bool} (e:orElseB (eqNil (P.underlying t) x y) (eqR (isAggB P t) (szOf P t) (leaves P 10 t 0) x y)=some b) (o1 o2:Operand) (w:World) :
  (BinRun P .eql t o1 o2 cx cy).run P w = .ok (.bool b) w∧(BinRun P .neq t o1 o2 cx cy).run P w = .ok (.bool (!b)) w:=by
 rcases orElse_some e with e | ⟨_,e⟩
 ·obtain ⟨h1,h2,h3,h4⟩:=eqR_ok hx hy e w o1 o2
  exact ⟨by simp [BinRun,h1,h3],by simp [BinRun,h2,h4]⟩
 ·obtain ⟨h1,h2,h3⟩:=eqNil_ok hx hy e 9999 w
  have h4:=h3 .eql (.inl rfl)
  have h5:=h3 .neq (.inr rfl)
  exact ⟨by simp [BinRun,h2,h4,Op.equal,Op.maxDepth,h1],by simp [BinRun,h2,h5,Op.equal,Op.maxDepth,h1]⟩
theorem cmp_some {fi:Int→Int→Bool} {fs:List UInt8→List UInt8→Bool} {x y v:AV} (e:cmpR fi fs x y=some v) :
  (∃ k a b,x = .int k a∧y = .int k b∧v = .bool (fi a b))∨(∃ a b,x = .str a∧y = .str b∧v = .bool (fs a b)):=by
 unfold cmpR at e
 split at e
 ·rw [kindB_eq] at e
  split at e
  ·rename_i hj;simp at hj e;subst hj;exact .inl ⟨_,_,_,rfl,rfl,e.symm⟩
  ·simp at e
 ·simp at e;exact .inr ⟨_,_,rfl,rfl,e.symm⟩
 ·simp at e
theorem bool_rel {b c:Bool} (h:b=c):VRel pl M (.bool b) (.bool c):=by subst h;exact .bool _
theorem binR_ok {op:BinOp} {x y v:AV} {cx cy:Value} (hx:VRel pl M x cx) (hy:VRel pl M y cy) {t:TypeId} (e:binR op (P.underlying t) (isAggB P t) (szOf P t) (leaves P 10 t 0) x y=some v) (o1 o2:Operand) (w:World) :
  ∃ cv,(BinRun P op t o1 o2 cx cy).run P w = .ok cv w∧VRel pl M v cv:=by
 cases op
 case add=>
  simp only [binR] at e
  unfold addR at e
  split at e
  ·rw [kindB_eq] at e
   split at e
   ·rename_i hj;simp at hj e;subst hj;subst e
    cases hx;cases hy
    exact ⟨_,by simp [BinRun,eqGuard_add,binOp_add,Op.intArith], .int _ _⟩
   ·simp at e
  ·rename_i a b
   rw [ble_iff] at e
   split at e
   ·rename_i hj;simp at hj e;subst e
    cases hx;cases hy
    refine ⟨.string ⟨⟨a++b⟩⟩,?_, .str _⟩
    have h1:(⟨⟨a⟩⟩++⟨⟨b⟩⟩:ByteArray)=⟨⟨a++b⟩⟩:=by
     apply ByteArray.ext
     rw [ByteArray.data_append]
     apply Array.ext'
     simp
    have h2:(⟨⟨a⟩⟩:ByteArray).size=a.length:=rfl
    have h3:(⟨⟨b⟩⟩:ByteArray).size=b.length:=rfl
    have h4 : ¬ (9223372036854775807<((a.length:Int)+(b.length:Int))):=by omega
    simp [BinRun,eqGuard_add,binOp,Op.stringOp,h1,h2,h3,h4]
   ·simp at e
  ·simp at e
 case sub=>
  obtain ⟨k,a,b,rfl,rfl,e'⟩:=arith_some e
  simp at e';subst e';cases hx;cases hy
  exact ⟨_,by simp [BinRun,eqGuard_sub,binOp_sub,Op.intArith], .int _ _⟩
 case mul=>
  obtain ⟨k,a,b,rfl,rfl,e'⟩:=arith_some e
  simp at e';subst e';cases hx;cases hy
  exact ⟨_,by simp [BinRun,eqGuard_mul,binOp_mul,Op.intArith], .int _ _⟩
 case quo=>
  obtain ⟨k,a,b,rfl,rfl,e'⟩:=arith_some e
  rw [eqI_eq] at e'
  split at e'
  ·simp at e'
  ·rename_i hb;simp at e' hb;subst e';cases hx;cases hy
   exact ⟨_,by simp [BinRun,eqGuard_quo,binOp_quo,Op.intDiv,hb], .int _ _⟩
 case rem=>
  obtain ⟨k,a,b,rfl,rfl,e'⟩:=arith_some e
  rw [eqI_eq] at e'
  split at e'
  ·simp at e'
  ·rename_i hb;simp at e' hb;subst e';cases hx;cases hy
   exact ⟨_,by simp [BinRun,eqGuard_rem,binOp_rem,Op.intDiv,hb], .int _ _⟩
 case eql=>
  simp only [binR] at e
  split at e
  ·rename_i b hb;simp at e;subst e;exact ⟨_,(eq_both hx hy hb o1 o2 w).1, .bool _⟩
  ·simp at e
 case neq=>
  simp only [binR] at e
  split at e
  ·rename_i b hb;simp at e;subst e;exact ⟨_,(eq_both hx hy hb o1 o2 w).2, .bool _⟩
  ·simp at e
 case lss=>
  rcases cmp_some e with ⟨k,a,b,rfl,rfl,rfl⟩ | ⟨a,b,rfl,rfl,rfl⟩ <;> cases hx <;> cases hy
  ·exact ⟨.bool (decide (a<b)),by simp [BinRun,eqGuard_lss,binOp_lss],bool_rel (ltI_eq _ _)⟩
  ·exact ⟨.bool (Op.bytesLess a b),by simp [BinRun,eqGuard_lss,binOp,Op.stringOp,bytes_toList],bool_rel (ltB_eq _ _)⟩
 case leq=>
  rcases cmp_some e with ⟨k,a,b,rfl,rfl,rfl⟩ | ⟨a,b,rfl,rfl,rfl⟩ <;> cases hx <;> cases hy
  ·refine ⟨.bool (decide (a≤b)),by simp [BinRun,eqGuard_leq,binOp_leq],bool_rel ?_⟩
   rw [ltI_eq,Bool.eq_iff_iff];simp
  ·exact ⟨.bool (Op.bytesLess a b || a == b),by simp [BinRun,eqGuard_leq,binOp,Op.stringOp,bytes_toList],bool_rel (by rw [ltB_eq,eqB_eq])⟩
 case gtr=>
  rcases cmp_some e with ⟨k,a,b,rfl,rfl,rfl⟩ | ⟨a,b,rfl,rfl,rfl⟩ <;> cases hx <;> cases hy
  ·exact ⟨.bool (decide (b<a)),by simp [BinRun,eqGuard_gtr,binOp_gtr],bool_rel (ltI_eq _ _)⟩
  ·exact ⟨.bool (!(Op.bytesLess a b || a == b)),by simp [BinRun,eqGuard_gtr,binOp,Op.stringOp,bytes_toList],bool_rel (by rw [ltB_eq,eqB_eq])⟩
 case geq=>
  rcases cmp_some e with ⟨k,a,b,rfl,rfl,rfl⟩ | ⟨a,b,rfl,rfl,rfl⟩ <;> cases hx <;> cases hy
  ·refine ⟨.bool (decide (b≤a)),by simp [BinRun,eqGuard_geq,binOp,Op.intCmp],bool_rel ?_⟩
   rw [ltI_eq,Bool.eq_iff_iff];simp
  ·exact ⟨.bool (!Op.bytesLess a b),by simp [BinRun,eqGuard_geq,binOp,Op.stringOp,bytes_toList],bool_rel (by rw [ltB_eq])⟩
 case shl=>
  simp only [binR] at e
  unfold shlR at e
  split at e
  ·rename_i k a j b
   simp at e;subst e;cases hx;cases hy
   have h0 : ¬ ((Int.ofNat b)<0):=by simp
   exact ⟨_,by simp only [BinRun,eqGuard_shl,binOp,Op.shift,Sem.run_bind,Sem.run_pure,Result.andThen_ok,h0,if_false];rfl, .int _ _⟩
  ·simp at e
 case shr=>
  simp only [binR] at e
  unfold shrR at e
  split at e
  ·rename_i k a j b
   simp at e;subst e;cases hx;cases hy
   have h0 : ¬ ((Int.ofNat b)<0):=by simp
   exact ⟨_,by simp only [BinRun,eqGuard_shr,binOp,Op.shift,Sem.run_bind,Sem.run_pure,Result.andThen_ok,h0,if_false];rfl, .int _ _⟩
  ·simp at e
 all_goals simp [binR] at e
theorem ok_binOp (op:BinOp) (t:TypeId) (x y:Operand) (t2:TypeId):OkOp P G (.binOp op t x y t2):=by
 intro pl M A h v h' a w dst ty pos after guard hg hr hf he
 obtain ⟨u,e1,e2⟩:=retV_some he
 simp at e2
 obtain ⟨rfl,rfl⟩:=e2
 obtain ⟨xv,yv,hx,hy,e3⟩:=two_some e1
 obtain ⟨cv,k1,k2⟩:=binR_ok (P:=P) (opd_ok hg hf hx) (opd_ok hg hf hy) e3 x y w
 have:(execOp a.eval ⟨dst, .binOp op t x y t2,ty,pos,after,guard⟩).run P w = .ok (.value cv) w:=by
  show ((do let r ← BinRun P op t x y (a.eval x) (a.eval y);pure (.value r)):Sem Next).run P w=_
  rw [Sem.run_bind,k1];rfl
 rw [this]
 exact Out.pure hr k2
theorem ok_unOp (op:UnOp) (t:TypeId) (x:Operand):OkOp P G (.unOp op t x):=by
 intro pl M A h v h' a w dst ty pos after guard hg hr hf he
 obtain ⟨u,e1,e2⟩:=retV_some he
 simp at e2
 obtain ⟨rfl,rfl⟩:=e2
 obtain ⟨xv,hx,e3⟩:=one_some e1
 have hxv:=opd_ok hg hf hx
 generalize hq:a.eval x=cx at hxv
 unfold unR at e3
 split at e3 <;> simp at e3 <;> subst e3 <;> cases hxv
 ·simpa [execOp,hq,Op.unary] using Out.pure hr (.bool _)
 ·rename_i k n
  have:=Out.pure (h:=h') hr (VRel.int (pl:=pl) (M:=M) k (k.wrap (0 - n)))
  simpa [execOp,hq,Op.unary,Op.intArith] using this
end
end Go.Ev

namespace Go.Ev
open Go
section
variable {P : Program} {G : Env} {pl : Pl} {M : Mem} {h h' : AHeap} {w w' : World} {v : AV} {A : Fr} {a : Act}
theorem WSame.push (w:World) (o:Obj):WSame w { w with heap:=w.heap.push o }:=⟨rfl,rfl,rfl,Nat.le_refl _⟩
theorem box_ok (hr:Rep pl M h w) {z:AV} {cz:Value} (hz:VRel pl M z cz) {r:ARes} (e:boxR h (some z)=some r) (t:TypeId) :
  ∃ w' pl',(newVar t cz).run P w = .ok ⟨w.heap.size,0,none⟩ w'∧r = .val (.ptr h.n 0 0 0) (h.push (.row z.cells.length false 0 [z]))∧
   VRel pl' M (.ptr h.n 0 0 0) (.pointer (some ⟨w.heap.size,0,none⟩))∧Rep pl' M (h.push (.row z.cells.length false 0 [z])) w'∧Step h pl M w (h.push (.row z.cells.length false 0 [z])) pl' M w':=by
 simp only [boxR] at e
 cases hc:z.cells with
 | nil=>simp [hc] at e
 | cons c0 cr=>
  simp only [hc] at e
  cases hf:flatB z with
  | false=>simp [hf] at e
  | true=>
   simp [hf] at e
   have hlen:z.cells.length=cr.length+1:=by rw [hc];rfl
   rw [← hlen] at e
   rw [← hc]
   have hcz:=hz.cells
   have hsc:=hz.sc hf
   have hpos:0<z.cells.length:=by rw [hc];simp
   let p:Place:=⟨w.heap.size,0,z.cells.length,1,z.cells.length⟩
   have hext:Ext pl (upd pl h.n p):=fun id q hq=>⟨q,by rw [upd_other (by have:=hr.dom id q hq;omega)];exact hq,Nat.le_refl _,fun _=>rfl⟩
   obtain ⟨h1,h2⟩:=Rep.alloc (o:= .row z.cells.length false 0 [z]) (ob:= .cells cz.cells t) (p:=p) (w':= { w with heap:=w.heap.push (.cells cz.cells t) }) hr rfl (WSame.push _ _) rfl (by
    refine ⟨rfl,rfl,rfl,hcz.len,rfl,hpos,fun _=>by simp [hcz.len],⟨by simp [hcz.len],fun x hx=>?_,fun i x j y hi hj=>?_⟩⟩
    ·simp at hx;subst hx;exact ⟨rfl,hsc⟩
    ·cases i with
     | zero=>simp at hi;subst hi;simpa using ((hcz.at_ j y hj).mono hext fun _ _ h=>h)
     | succ i=>simp at hi)
   refine ⟨_,_,by simp [newVar,newRow],e.symm, .ptr (upd_same _ _ _) (Nat.le_refl _) fun _=>by simp [p],h1,h2⟩
theorem ofBox_out (hr:Rep pl M h w) {z:AV} {cz:Value} (hz:VRel pl M z cz) {r:ARes} (e:boxR h (some z)=some r) (he:r = .val v h') (t:TypeId) :
  Out pl M h w ((do pure (Next.value (.pointer (some (← newVar t cz)))):Sem Next).run P w) v h':=by
 obtain ⟨w',pl',k1,k2,k3,k4,k5⟩:=box_ok (P:=P) hr hz e t
 rw [k2] at he
 simp at he
 obtain ⟨rfl,rfl⟩:=he
 exact ⟨pl',M,_,w',_,by simp only [Sem.run_bind,k1,Result.andThen_ok];rfl, .inl rfl,k3,k4,k5,by show h.n≤h.n+1;omega⟩
theorem ok_box (t:TypeId) (x:Operand):OkOp P G (.box t x):=by
 intro pl M A h v h' a w dst ty pos after guard hg hr hf he
 cases hx:(opd G x).run A with
 | none=>simp [opR,hx,boxR] at he
 | some xv=>
  have he2:boxR h (some xv)=some (.val v h'):=by rw [← hx];exact he
  have:=ofBox_out (P:=P) hr (opd_ok hg hf hx) he2 rfl t
  have e2:(execOp a.eval ⟨dst, .box t x,ty,pos,after,guard⟩)=(do pure (Next.value (.pointer (some (← newVar t (a.eval x)))))):=by simp [execOp,Instr.box]
  rw [e2];exact this
theorem ok_alloc (t:TypeId):OkOp P G (.alloc t):=by
 intro pl M A h v h' a w dst ty pos after guard hg hr hf he
 simp only [opR] at he
 cases hz:zeroA P t with
 | none=>simp only [hz] at he;exact (fail_run he).elim
 | some z=>
  cases hs:szOf P t with
  | none=>simp only [hz,hs] at he;exact (fail_run he).elim
  | some s=>
   simp only [hz,hs] at he
   cases hb:Nat.beq z.cells.length s with
   | false=>simp only [hb] at he;exact (fail_run he).elim
   | true=>
    simp only [hb] at he
    obtain ⟨zv,hz1,hz2⟩:=run_zero hz
    have:=ofBox_out (P:=P) hr (ofValue_ok hz2) he rfl t
    have e2:(execOp a.eval ⟨dst, .alloc t,ty,pos,after,guard⟩).run P w=((do pure (Next.value (.pointer (some (← newVar t zv)))):Sem Next)).run P w:=by
     simp [execOp,Instr.alloc,hz1]
    rw [e2];exact this
theorem ok_makeMap (t:TypeId) (r:Option Operand):OkOp P G (.makeMap t r):=by
 intro pl M A h v h' a w dst ty pos after guard hg hr hf he
 have key:v = .map h.n→h'=h.push (.map [] 0)→(Instr.makeMap t (r.map a.eval)).run P w = .ok (.map (some w.heap.size)) { w with heap:=w.heap.push (.map #[] 0) }→
   Out pl M h w ((execOp a.eval ⟨dst, .makeMap t r,ty,pos,after,guard⟩).run P w) v h':=by
  intro e1 e2 e3
  subst e1;subst e2
  let p:Place:=⟨w.heap.size,0,0,0,0⟩
  obtain ⟨h1,h2⟩:=Rep.alloc (o:= .map [] 0) (ob:= .map #[] 0) (p:=p) (w':= { w with heap:=w.heap.push (.map #[] 0) }) hr rfl (WSame.push _ _) rfl
   ⟨rfl,rfl,rfl,fun i e hi=>by simp at hi⟩
  exact ⟨_,M,_,_,_,by simp only [execOp,Sem.run_bind,e3,Result.andThen_ok];rfl, .inl rfl, .map (upd_same _ _ _) (fun _=>rfl),h1,h2,by show h.n≤h.n+1;omega⟩
 cases r with
 | none=>
  simp only [opR] at he
  cases hu:P.underlying t with
  | none=>simp only [hu] at he;exact (fail_run he).elim
  | some d=>
   rw [hu] at he
   cases d <;> try exact (fail_run he).elim
   simp at he
   obtain ⟨rfl,rfl⟩:=he
   exact key rfl rfl (by simp [Instr.makeMap])
 | some r=>
  simp only [opR] at he
  cases hu:P.underlying t with
  | none=>simp only [hu] at he;exact (fail_run he).elim
  | some d=>
   rw [hu] at he
   cases d <;> try exact (fail_run he).elim
   simp only [] at he
   cases hx:(opd G r).run A with
   | none=>simp [hx] at he
   | some x=>
    have hxv:=opd_ok hg hf hx
    rw [hx] at he
    cases x <;> simp at he
    obtain ⟨rfl,rfl⟩:=he
    generalize hq:a.eval r=cx at hxv
    cases hxv
    exact key rfl rfl (by simp [Instr.makeMap,run_underlying hu,hq,asInt,asIntOf])
theorem small_some {n b:Nat} (e:small n b=true):n≤2 ^ 40∧n * b≤2 ^ 40:=by
 simp only [small,ble_iff,Bool.and_eq_true,decide_eq_true_eq] at e
 exact e
theorem inMem_replicate {z:AV} {cz:Value} (hz:VRel pl M z cz) (hf:flatB z=true) (n:Nat) {s:Nat} (hs:z.cells.length=s) (hs0:0<s) :
  InMem pl M ((Array.range (n * s)).map (cz.cells[· % cz.cells.size]!)) 0 s (List.replicate n z):=by
 have hc:=hz.cells
 have hsz:cz.cells.size=s:=by rw [← hc.len];exact hs
 refine ⟨by simp,fun x hx=>?_,fun i x j y hi hj=>?_⟩
 ·rw [List.mem_replicate] at hx
  rw [hx.2];exact ⟨hs,hz.sc hf⟩
 ·rw [List.getElem?_replicate] at hi
  split at hi
  ·rename_i hin
   simp at hi;subst hi
   have hj2:j<s:=by rw [← hs];exact (List.getElem?_eq_some_iff.1 hj).1
   have h1:=hc.at_ j y hj
   have h2:(i+1) * s≤n * s:=Nat.mul_le_mul_right _ hin
   rw [Nat.add_mul] at h2
   have h3:0+i * s+j<n * s:=by omega
   have h4:(0+i * s+j) % s=j:=by
    rw [Nat.zero_add,Nat.add_comm,Nat.add_mul_mod_self_right];exact Nat.mod_eq_of_lt hj2
   have h5:((Array.range (n * s)).map (cz.cells[· % cz.cells.size]!)).getD (0+i * s+j) undef=cz.cells.getD j undef:=by
    rw [Array.getD_eq_getD_getElem?,Array.getElem?_map,Array.getElem?_range,if_pos h3]
    simp only [Option.map_some,Option.getD_some,hsz,h4]
    rw [Array.getD_eq_getD_getElem?]
    have:j<cz.cells.size:=by omega
    simp [this]
   rw [h5];exact h1
  ·simp at hi
theorem elemOf_some {t e:TypeId} (h:elemOfSlice P t=some e):P.underlying t=some (.slice e):=by
 unfold elemOfSlice at h
 split at h
 ·rename_i q hq;simp at h;subst h;exact hq
 ·simp at h
theorem run_makeSlice {t e:TypeId} {i:TypeInfo} {zv:Value} (ht:P.underlying t=some (.slice e)) (hi:P.info? e=some i) (hz : ∀ w,(zeroValue e).run P w = .ok zv w) {n m:Nat} (hnm:n≤m) (hm:m≤2 ^ 40) (hb:m * i.bytes≤2 ^ 40)
  (k k2:IntKind) (w:World):(Instr.makeSlice t (.int k (n:Int)) (.int k2 (m:Int))).run P w =
   .ok (.slice (some ⟨w.heap.size,0,none⟩) n m) { w with heap:=w.heap.push (.cells ((Array.range (m * i.size)).map (zv.cells[· % zv.cells.size]!)) e) }:=by
 have g1:IntKind.i64.wrap (n:Int)=(n:Int):=IntWalk.i64_in _ ⟨by omega,by omega⟩
 have g2:IntKind.i64.wrap (m:Int)=(m:Int):=IntWalk.i64_in _ ⟨by omega,by omega⟩
 have g3 : ¬ ((m:Int)<0):=by omega
 have g4:((i.bytes:Int) * (m:Int))≤1099511627776:=by
  have h1:((m * i.bytes:Nat):Int)≤((2 ^ 40:Nat):Int):=by exact_mod_cast hb
  rw [Nat.mul_comm,Int.natCast_mul] at h1
  simpa using h1
 have g4' : ¬ (281474976710656<(i.bytes:Int) * (m:Int)):=by omega
 have g5 : ¬ ((n:Int)<0):=by omega
 have g6 : ¬ ((m:Int)<(n:Int)):=by omega
 have hsz:szOf P e=some i.size:=by simp [szOf,hi]
 by_cases g8:m * i.size=0
 ·simp [Instr.makeSlice,run_underlying ht,asInt,asIntOf,typeInfo,hi,g1,g2,g3,g4',g5,g6,run_sizeOf hsz,g8,newRow]
  congr 2 <;> simp [Array.range_zero']
 ·simp [Instr.makeSlice,run_underlying ht,asInt,asIntOf,typeInfo,hi,g1,g2,g3,g4',g5,g6,run_sizeOf hsz,g8,newRow,hz]
theorem ok_makeSlice (t:TypeId) (l c:Operand):OkOp P G (.makeSlice t l c):=by
 intro pl M A h v h' a w dst ty pos after guard hg hr hf he
 simp only [opR] at he
 cases h1:elemOfSlice P t with
 | none=>simp only [h1] at he;exact (fail_run he).elim
 | some e=>
  simp only [h1] at he
  cases h2:P.info? e with
  | none=>simp only [h2] at he;exact (fail_run he).elim
  | some i=>
   cases h3:zeroA P e with
   | none=>simp only [h2,h3] at he;exact (fail_run he).elim
   | some z=>
    simp only [h2,h3,beq_iff,blt_iff] at he
    by_cases c1:z.cells.length=i.size
    ·by_cases c2:0<i.size
     ·by_cases c3:flatB z=true
      ·simp only [c1,c2,c3,decide_true,Bool.and_self] at he
       unfold makeSliceR at he
       cases hl:(opd G l).run A with
       | none=>simp [hl,retH] at he
       | some lv=>
        cases hc:(opd G c).run A with
        | none=>
         rw [hl,hc] at he
         split at he
         ·rename_i q;simp at q
         ·simp [retH] at he
        | some cv=>
         have hlv:=opd_ok hg hf hl
         have hcv:=opd_ok hg hf hc
         rw [hl,hc] at he
         split at he
         ·rename_i k n k2 m q1 q2
          simp at q1 q2
          subst q1;subst q2
          rw [ble_iff] at he
          by_cases c4:n≤m
          ·cases c5:small m i.bytes with
           | false=>simp [c5,retH] at he
           | true=>
            simp [c4,c5,retH] at he
            obtain ⟨rfl,rfl⟩:=he
            obtain ⟨b1,b2⟩:=small_some c5
            generalize hq1:a.eval l=cl at hlv
            generalize hq2:a.eval c=cc at hcv
            cases hlv;cases hcv
            obtain ⟨zv,hz1,hz2⟩:=run_zero h3
            have hzr:=ofValue_ok (pl:=pl) (M:=M) hz2
            have hsz:szOf P e=some i.size:=by simp [szOf,h2]
            let p:Place:=⟨w.heap.size,0,i.size,m,m * i.size⟩
            have hext:Ext pl (upd pl h.n p):=fun id q hq=>⟨q,by rw [upd_other (by have:=hr.dom id q hq;omega)];exact hq,Nat.le_refl _,fun _=>rfl⟩
            have hin:=(inMem_replicate hzr c3 m c1 c2).mono hext (fun _ _ h=>h)
            let cells:=(Array.range (m * i.size)).map (zv.cells[· % zv.cells.size]!)
            obtain ⟨r1,r2⟩:=Rep.alloc (o:= .row i.size false 0 (List.replicate m z)) (ob:= .cells cells e) (p:=p) (w':= { w with heap:=w.heap.push (.cells cells e) }) hr rfl (WSame.push _ _) rfl
             ⟨rfl,rfl,by simp [p],by simp [p,cells],rfl,c2,fun _=>by simp [cells],hin⟩
            have hrun:(Instr.makeSlice t (.int k (n:Int)) (.int k2 (m:Int))).run P w = .ok (.slice (some ⟨w.heap.size,0,none⟩) n m) { w with heap:=w.heap.push (.cells cells e) }:=by
             exact run_makeSlice (elemOf_some h1) h2 hz1 c4 b1 b2 _ _ _
            refine ⟨_,M,_,_,_,?_, .inl rfl, .slice (a:=⟨w.heap.size,0,none⟩) (upd_same _ _ _) (Nat.le_refl _) (by omega) (fun k hk=>by simpa using hk) (fun _=>⟨.inr (by simp [p]),by simp [p],by simp [p];omega,(fun hk=>by cases hk),(fun k hk=>by simp at hk;simp [p];omega)⟩),r1,r2,by show h.n≤h.n+1;omega⟩
            simp only [execOp,hq1,hq2,Sem.run_bind]
            rw [hrun]
            rfl
          ·simp [c4,retH] at he
         ·simp [retH] at he
      ·simp only [c3] at he;simp at he;exact (fail_run he).elim
     ·simp only [c2] at he;simp at he;exact (fail_run he).elim
    ·simp only [c1] at he;simp at he;exact (fail_run he).elim
end
end Go.Ev

namespace Go.Ev
open Go
section
variable {P : Program} {G : Env} {pl : Pl} {M : Mem} {h h' : AHeap} {w w' : World} {v : AV} {A : Fr} {a : Act}
theorem zip_over : ∀ (l:List Value) (off k:Nat) (c:Array Value),off+k+l.length≤c.size→(l.zipIdx k).foldl (fun cs (x:Value × Nat)=>cs.setIfInBounds (off+x.2) x.1) c=over c (off+k) l
 | [],off,k,c,_=>by simp [over]
 | v::r,off,k,c,hl=>by
  simp only [List.length_cons] at hl
  rw [List.zipIdx_cons,List.foldl_cons,zip_over r off (k+1) _ (by simp;omega)]
  exact over_cons (by omega)
theorem zip_over' {v:Value} {off:Nat} {c:Array Value} (hl:off+v.cells.size≤c.size) :
  v.cells.zipIdx.foldl (fun cs (x:Value × Nat)=>cs.setIfInBounds (off+x.2) x.1) c=over c off v.cells.toList:=by
 rw [← Array.foldl_toList,Array.toList_zipIdx]
 exact zip_over v.cells.toList off 0 c (by simpa using hl)
theorem vrels_over {cs new:List AV} {vs nv:Array Value} {off:Nat} (h1:VRels pl M cs vs) (h2:VRels pl M new nv) (hl:off+new.length≤cs.length):VRels pl M (splice cs off new) (over vs off nv.toList):=by
 have e1:=h1.len
 have e2:=h2.len
 have hl2:off+nv.toList.length≤vs.size:=by simp;omega
 refine ⟨by rw [splice_length hl,over_size hl2];exact e1,fun j y hj=>?_⟩
 rcases splice_get hl hj with ⟨a1,a2,a3⟩ | ⟨a1,a2⟩
 ·have e3:j=off+(j - off):=by omega
  rw [e3,over_getD_in hl2 (by simp;omega),toList_getD]
  exact h2.at_ _ _ a3
 ·rw [over_getD_out hl2 (by simp;omega)]
  exact h1.at_ _ _ a2
theorem sc_splice {cs new:List AV} {off:Nat} (h1 : ∀ y,y∈cs→scalB y=true) (h2 : ∀ y,y∈new→scalB y=true) : ∀ y,y∈splice cs off new→scalB y=true:=by
 intro y hy
 simp only [splice,List.mem_append] at hy
 rcases hy with (hy | hy) | hy
 ·exact h1 y (List.mem_of_mem_take hy)
 ·exact h2 y hy
 ·exact h1 y (List.mem_of_mem_drop hy)
theorem fill_ok {place:Nat→Option (Nat × Nat)} (hg:GOk G pl M) (hf:FrRel pl M A a) : ∀ (parts:List (Nat × Operand)) (l:List ((Nat × Nat) × Operand)) (cs:List AV) (vs:Array Value) (out:List AV),
  (∀ (k:Nat) (p:Nat × Operand),parts[k]? = some p→∃ q,l[k]? = some (q,p.2)∧place p.1=some q)→l.length=parts.length→VRels pl M cs vs→(∀ y,y∈cs→scalB y=true)→
  fillR cs (l.map fun p=>(p.1,(opd G p.2).run A))=some out→∃ cv,Instr.fill place vs (parts.map fun p=>(p.1,a.eval p.2))=some cv∧VRels pl M out cv∧∀ y,y∈out→scalB y=true
 | [], [],cs,vs,out,_,_,hv,hs,e=>by simp [fillR] at e;subst e;exact ⟨vs,rfl,hv,hs⟩
 | [],_::_,_,_,_,_,hl,_,_,_=>by simp at hl
 | _::_, [],_,_,_,_,hl,_,_,_=>by simp at hl
 | (i,x)::r,((off,sz),y)::l,cs,vs,out,hp,hl,hv,hs,e=>by
  obtain ⟨q,h1,h2⟩:=hp 0 (i,x) rfl
  simp at h1
  obtain ⟨rfl,rfl⟩:=h1
  simp only [List.map_cons,fillR] at e
  cases hx:(opd G y).run A with
  | none=>simp [hx,fillR] at e
  | some u=>
   simp only [hx,fillR,beq_iff,ble_iff] at e
   split at e
   ·rename_i hc
    simp at hc
    obtain ⟨⟨c1,c2⟩,c3⟩:=hc
    have hu:=opd_ok hg hf hx
    have huc:=hu.cells
    have hul:=huc.len
    have hvl:=hv.len
    have h3:=vrels_over (off:=off) hv huc (by omega)
    obtain ⟨cv,k1,k2,k3⟩:=fill_ok (place:=place) hg hf r l _ _ out (fun k p hk=>by simpa using hp (k+1) p (by simpa using hk)) (by simpa using hl) h3 (sc_splice hs (hu.sc c3)) e
    refine ⟨cv,?_,k2,k3⟩
    have c4:(a.eval y).cells.size=sz:=by rw [← hul];exact c1
    have c5 : ¬ (vs.size<off+(a.eval y).cells.size):=by omega
    rw [List.map_cons,Instr.fill]
    simp only [h2]
    rw [if_neg (by simp [c4];omega)]
    rw [zip_over' (by omega)]
    exact k1
   ·simp at e
theorem mapM_places (fs:List Field) (l:List (Nat × Nat)) (w:World) (h:placesOf P fs=some l):((fs.mapM fun f=>(do pure (f.offset,← sizeOf f.type):Sem (Nat × Nat)))).run P w = .ok l w:=by
 induction fs generalizing l with
 | nil=>simp [placesOf] at h;subst h;simp
 | cons f r ih=>
  simp only [placesOf] at h
  cases h1:szOf P f.type with
  | none=>simp [h1] at h
  | some s=>
   cases h2:placesOf P r with
   | none=>simp [h1,h2] at h
   | some l2=>
    simp [h1,h2] at h
    subst h
    rw [List.mapM_cons]
    simp only [Sem.run_bind,run_sizeOf h1,Result.andThen_ok,Sem.run_pure]
    have:=ih l2 h2
    rw [this];rfl
theorem partsAt_ok {pls:List (Nat × Nat)} : ∀ (parts:List (Nat × Operand)) (l:List ((Nat × Nat) × Operand)),partsAt pls parts=some l→l.length=parts.length∧∀ (k:Nat) (p:Nat × Operand),parts[k]? = some p→∃ q:Nat × Nat,l[k]? = some (q,p.2)∧pls.toArray[p.1]? = some q
 | [],l,e=>by
  simp [partsAt] at e
  subst e
  refine ⟨rfl,?_⟩
  intro k p h
  simp at h
 | (i,x)::r,l,e=>by
  simp only [partsAt,nth_eq] at e
  cases h1:pls[i]? with
  | none=>simp [h1] at e
  | some p=>
   cases h2:partsAt pls r with
   | none=>simp [h1,h2] at e
   | some l2=>
    simp [h1,h2] at e
    subst e
    obtain ⟨a1,a2⟩:=partsAt_ok r l2 h2
    refine ⟨by simp [a1],fun k q hk=>?_⟩
    cases k with
    | zero=>simp at hk;subst hk;exact ⟨p,rfl,by simpa using h1⟩
    | succ k=>simpa using a2 k q (by simpa using hk)
theorem aggOf_some {o:Option (List AV)} {v:AV} (e:aggOf o=some v) : ∃ cs,o=some cs∧v = .agg cs:=by
 cases o <;> simp [aggOf] at e
 exact ⟨_,rfl,e.symm⟩
theorem zero_cells {t:TypeId} {z:AV} {zv:Value} (ho:ofValue zv=some z):VRels pl M z.cells zv.cells:=(ofValue_ok ho).cells
theorem zero_flat {zv:Value} {z:AV} (ho:ofValue zv=some z) (hf:flatB z=true) : ∀ y,y∈z.cells→scalB y=true:=(ofValue_ok (pl:=fun _=>none) (M:=fun _=>none) ho).sc hf
theorem ok_build (t:TypeId) (parts:Array (Nat × Operand)):OkOp P G (.build t parts):=by
 intro pl M A h v h' a w dst ty pos after guard hg hr hf he
 simp only [opR] at he
 have key : ∀ (place:Nat→Option (Nat × Nat)) (l:List ((Nat × Nat) × Operand)),(∀ (k:Nat) (p:Nat × Operand),parts.toList[k]? = some p→∃ q,l[k]? = some (q,p.2)∧place p.1=some q)→l.length=parts.toList.length→
   (aggR P G t l).run A h=some (.val v h')→(∀ zv cv,(∀ w,(zeroValue t).run P w = .ok zv w)→Instr.fill place zv.cells (parts.toList.map fun p=>(p.1,a.eval p.2))=some cv→
    (Instr.build t (parts.map fun (i,x)=>(i,a.eval x))).run P w = .ok (.agg cv) w)→Out pl M h w ((execOp a.eval ⟨dst, .build t parts,ty,pos,after,guard⟩).run P w) v h':=by
  intro place l hpl hlen e hrun
  unfold aggR at e
  cases hz:zeroA P t with
  | none=>simp only [hz] at e;exact (fail_run e).elim
  | some z=>
   simp only [hz] at e
   cases hfz:flatB z with
   | false=>simp only [hfz] at e;exact (fail_run e).elim
   | true=>
    simp only [hfz] at e
    obtain ⟨u,e1,e2⟩:=retV_some e
    simp at e2
    obtain ⟨rfl,rfl⟩:=e2
    obtain ⟨cs,e3,rfl⟩:=aggOf_some e1
    obtain ⟨zv,hz1,hz2⟩:=run_zero hz
    obtain ⟨cv,k1,k2,k3⟩:=fill_ok (place:=place) hg hf parts.toList l _ _ cs hpl hlen (zero_cells (t:=t) hz2) (zero_flat hz2 hfz) e3
    have:=hrun zv cv hz1 k1
    simpa [execOp,this] using Out.pure hr (.agg k2.len k3 k2.at_)
 have emap:(parts.map fun (i,x)=>(i,a.eval x)).toList=parts.toList.map fun p=>(p.1,a.eval p.2):=by simp
 cases hu:P.underlying t with
 | none=>simp only [hu] at he;exact (fail_run he).elim
 | some d=>
  rw [hu] at he
  cases d <;> try exact (fail_run he).elim
  case struct fs=>
   cases h1:placesOf P fs.toList with
   | none=>simp only [h1] at he;exact (fail_run he).elim
   | some pls=>
    cases h2:partsAt pls parts.toList with
    | none=>simp only [h1,h2] at he;exact (fail_run he).elim
    | some l=>
     simp only [h1,h2] at he
     obtain ⟨b1,b2⟩:=partsAt_ok _ _ h2
     refine key (fun i=>pls.toArray[i]?) l b2 b1 he fun zv cv hz hfill=>?_
     have hm:(fs.mapM fun f=>(do pure (f.offset,← sizeOf f.type):Sem (Nat × Nat))).run P w = .ok pls.toArray w:=by
      rw [Array.mapM_eq_mapM_toList,Sem.run_map,mapM_places _ _ _ h1];rfl
     simp only [Instr.build,Sem.run_bind,hz,Result.andThen_ok,run_underlying hu,hm,emap,hfill]
     rfl
  case array n e=>
   cases h1:szOf P e with
   | none=>simp only [h1] at he;exact (fail_run he).elim
   | some s=>
    simp only [h1] at he
    refine key (fun i=>some (i * s,s)) _ (fun k p hk=>⟨(p.1 * s,s),by simp [hk],rfl⟩) (by simp) he fun zv cv hz hfill=>?_
    simp only [Instr.build,Sem.run_bind,hz,Result.andThen_ok,run_underlying hu,run_sizeOf h1,emap,hfill]
    rfl
theorem psOf_some {o:Option (List AV)} {v:AV} (e:psOf o=some v) : ∃ cs,o=some cs∧v = .ps cs true:=by
 cases o <;> simp [psOf] at e
 exact ⟨_,rfl,e.symm⟩
theorem sets_ok {s:Nat} (hs0:0<s) (hg:GOk G pl M) (hf:FrRel pl M A a) : ∀ (parts:List (Nat × Operand)) (xs out:List AV) (c:Array Value),InMem pl M c 0 s xs→
  setsR s xs (parts.map fun p=>(p.1,(opd G p.2).run A))=some out→∃ c',Instr.fill (fun i=>some (i * s,s)) c (parts.map fun p=>(p.1,a.eval p.2))=some c'∧InMem pl M c' 0 s out∧out.length=xs.length∧c'.size=c.size
 | [],xs,out,c,hm,e=>by simp [setsR] at e;subst e;exact ⟨c,rfl,hm,rfl,rfl⟩
 | (i,x)::r,xs,out,c,hm,e=>by
  simp only [List.map_cons,setsR] at e
  cases hx:(opd G x).run A with
  | none=>simp [hx,setsR] at e
  | some u=>
   simp only [hx,setsR,beq_iff,blt_iff] at e
   split at e
   ·rename_i hc
    simp at hc
    obtain ⟨⟨c1,c2⟩,c3⟩:=hc
    have hu:=opd_ok hg hf hx
    have hxi:xs[i]? = some xs[i]:=List.getElem?_eq_getElem c1
    have hel:=hm.elem xs[i] (List.getElem_mem c1)
    obtain ⟨k1,k2⟩:=hm.put (off:=0) (z:=u) hxi hu (by omega) (by omega) (hu.sc c3) (fun j q hq=>by
     have:=(List.getElem?_eq_some_iff.1 hq).1
     exact .inl ⟨by omega,by omega,by simpa using hq⟩)
    have hul:=hu.cells.len
    simp only [Nat.add_zero] at k1 k2
    obtain ⟨c',q1,q2,q3,q4⟩:=sets_ok hs0 hg hf r _ out _ k2 e
    refine ⟨c',?_,q2,by rw [q3];simp,by rw [q4,over_size k1]⟩
    have c4:(a.eval x).cells.size=s:=by rw [← hul];exact c2
    have c5:i * s+(a.eval x).cells.size≤c.size:=by simpa using k1
    rw [List.map_cons,Instr.fill]
    simp only []
    rw [if_neg (by simp [c4];omega)]
    rw [zip_over' c5]
    exact q1
   ·simp at e
theorem ok_buildSlice (t:TypeId) (n:Nat) (parts:Array (Nat × Operand)):OkOp P G (.buildSlice t n parts):=by
 intro pl M A h v h' a w dst ty pos after guard hg hr hf he
 simp only [opR] at he
 cases h1:elemOfSlice P t with
 | none=>simp only [h1] at he;exact (fail_run he).elim
 | some e=>
  cases h2:szOf P e with
  | none=>simp only [h1,h2] at he;exact (fail_run he).elim
  | some s0=>
   cases s0 with
   | zero=>simp only [h1,h2] at he;exact (fail_run he).elim
   | succ s0=>
    cases h3:zeroA P e with
    | none=>simp only [h1,h2,h3] at he;exact (fail_run he).elim
    | some z=>
     simp only [h1,h2,h3,beq_iff,ble_iff] at he
     generalize hs:s0+1=s at *
     have hs0:0<s:=by omega
     split at he
     ·rename_i hc
      simp at hc
      obtain ⟨⟨c1,c2⟩,c3⟩:=hc
      obtain ⟨u,e1,e2⟩:=retV_some he
      simp at e2
      obtain ⟨rfl,rfl⟩:=e2
      obtain ⟨cs,e3,rfl⟩:=psOf_some e1
      obtain ⟨zv,hz1,hz2⟩:=run_zero h3
      have hin:=inMem_replicate (ofValue_ok (pl:=pl) (M:=M) hz2) c3 n c1 hs0
      obtain ⟨c',q1,q2,q3,q4⟩:=sets_ok hs0 hg hf parts.toList _ cs _ hin e3
      obtain ⟨r1,r2⟩:=Rep.immNew (c:=c') (t:=e) (fr:=(0,0)) (w':= { w with heap:=w.heap.push (.cells c' e) }) hr rfl (WSame.push _ _)
      have hmx:MExt M (updM M w.heap.size c'):=r2.mem
      have emap:(parts.map fun (i,x)=>(i,a.eval x)).toList=parts.toList.map fun p=>(p.1,a.eval p.2):=by simp
      have hlen:cs.length=n:=by rw [q3];simp
      have hrun:(Instr.buildSlice t n (parts.map fun (i,x)=>(i,a.eval x))).run P w = .ok (.slice (some ⟨w.heap.size,0,none⟩) n n) { w with heap:=w.heap.push (.cells c' e) }:=by
       have g1 : ¬ (16777216<n * s):=by omega
       by_cases g8:n * s=0
       ·have hn0:n=0:=by
         rcases Nat.mul_eq_zero.1 g8 with h9 | h9
         ·exact h9
         ·omega
        subst hn0
        simp only [Nat.zero_mul] at q1
        have hr0:(Array.map (fun x=>zv.cells[x % zv.cells.size]!) (Array.range 0))=(Array.map (fun x=>(#[]:Array Value)[x % (#[]:Array Value).size]!) (Array.range 0)):=by simp [Array.range_zero']
        rw [hr0] at q1
        simp only [Instr.buildSlice,Sem.run_bind,run_underlying (elemOf_some h1),Result.andThen_ok,run_sizeOf h2,Nat.zero_mul,Sem.run_ite,if_true,Sem.run_pure,emap,newRow]
        rw [if_neg (by decide)]
        simp only [Sem.run_pure,Result.andThen_ok,q1]
        simp
       ·simp only [Instr.buildSlice,Sem.run_bind,run_underlying (elemOf_some h1),Result.andThen_ok,run_sizeOf h2,Sem.run_ite,if_neg g8,hz1,emap,newRow]
        rw [if_neg (by omega)]
        simp only [Sem.run_pure,Result.andThen_ok,q1]
        simp
      refine ⟨pl,_,_,_,_,by simp only [execOp,Sem.run_bind,hrun,Result.andThen_ok];rfl, .inl rfl,?_,r1,r2,Nat.le_refl _⟩
      rw [← hlen]
      refine .ps (sz:=s) (c:=c') (Nat.le_refl _) (fun _=>rfl) (fun _=>⟨rfl,by simp [updM],by have:=q2.fit;simpa using this,hs0⟩) q2.elem (fun i x j y hi hj=>?_)
      have:=(q2.cell i x j y hi hj).mono (Ext.refl _) hmx
      simpa using this
     ·exact (fail_run he).elim
end
end Go.Ev

namespace Go.Ev
open Go
section
variable {P : Program} {G : Env} {pl : Pl} {M : Mem} {h h' : AHeap} {w w' : World} {v : AV} {A : Fr} {a : Act}
theorem fits_ok {sz:Nat} : ∀ {xs:List AV},fits sz xs=true→∀ x,x∈xs→x.cells.length=sz∧flatB x=true
 | [],_,x,hx=>by cases hx
 | y::r,e,x,hx=>by
  simp only [fits,beq_iff,Bool.and_eq_true,decide_eq_true_eq] at e
  rcases List.mem_cons.1 hx with rfl | hx
  ·exact e.1
  ·exact fits_ok e.2 x hx
def cut (c:Array Value) (o n:Nat):List Value:=(List.range n).map fun j=>c.getD (o+j) undef
theorem cut_length (c:Array Value) (o n:Nat):(cut c o n).length=n:=by simp [cut]
theorem cut_get {c:Array Value} {o n j:Nat} (hj:j<n):(cut c o n)[j]? = some (c.getD (o+j) undef):=by simp [cut,hj]
theorem ps_src (hr:Rep pl M h w) {ys:List AV} {tight:Bool} {cx:Value} (hx:VRel pl M (.ps ys tight) cx) :
  ∃ (ad:Addr) (cap':Nat) (news:List Value) (sz:Nat),cx = .slice (some ad) ys.length cap'∧news.length=ys.length * sz∧(∀ (j:Nat) (u:Value),news[j]? = some u→w.cell? (ad.add j)=some u)∧
   (ys≠ []→0<sz)∧InMem pl M news.toArray 0 sz ys:=by
  cases hx with
  | ps hl ht hm hs hc=>
   rename_i ad cap sz c
   by_cases hne:ys = []
   ·subst hne
    exact ⟨ad,cap, [],sz,rfl,by simp,fun j u hj=>by simp at hj,fun hh=>absurd rfl hh,⟨by simp,(fun x hx=>by cases hx),(fun i x j y hi=>by simp at hi)⟩⟩
   ·obtain ⟨h1,h2,h3,h4⟩:=hm hne
    obtain ⟨t,fr,hb⟩:=hr.imm _ _ h2
    have had:ad=⟨ad.block,ad.off,none⟩:=by cases ad;simp at h1;subst h1;rfl
    refine ⟨ad,cap,cut c ad.off (ys.length * sz),sz,rfl,cut_length _ _ _,fun j u hj=>?_,fun _=>h4,⟨by simp [cut_length],hs,fun i x j y hi hj=>?_⟩⟩
    ·have hlt:=(List.getElem?_eq_some_iff.1 hj).1
     rw [cut_length] at hlt
     rw [cut_get hlt] at hj
     rw [had,Addr.add_lit,← hj]
     exact cell_of hb (by omega)
    ·have hii:=(List.getElem?_eq_some_iff.1 hi).1
     have hjj:=(List.getElem?_eq_some_iff.1 hj).1
     rw [(hs x (List.mem_of_getElem? hi)).1] at hjj
     have h5:(i+1) * sz≤ys.length * sz:=Nat.mul_le_mul_right _ hii
     rw [Nat.add_mul] at h5
     have h6:=hc i x j y hi hj
     rw [Array.getD_eq_getD_getElem?,List.getElem?_toArray,cut_get (by omega),Option.getD_some]
     rw [show ad.off+(0+i * sz+j)=ad.off+i * sz+j by omega]
     exact h6
theorem elems_src (hr:Rep pl M h w) {x:AV} {cx:Value} {xs:List AV} (hx:VRel pl M x cx) (he:elemsR h x=some xs) :
  (cx = .slice none 0 0∧xs = [])∨∃ (ad:Addr) (cap':Nat) (news:List Value) (sz:Nat),cx = .slice (some ad) xs.length cap'∧news.length=xs.length * sz∧(∀ (j:Nat) (u:Value),news[j]? = some u→w.cell? (ad.add j)=some u)∧
   (xs≠ []→0<sz)∧InMem pl M news.toArray 0 sz xs:=by
 unfold elemsR at he
 split at he
 ·simp at he;subst he;cases hx;exact .inl ⟨rfl,rfl⟩
 ·rename_i ys tight
  simp at he;subst he
  exact .inr (ps_src hr hx)
 ·rename_i ys
  simp at he;subst he
  cases hx with
  | lsn=>exact .inl ⟨rfl,rfl⟩
  | lsp hx _=>exact .inr (ps_src hr hx)
 ·rename_i id ep off len cap
  split at he
  ·rename_i sz op ep' ys hg
   rw [beq_iff] at he
   by_cases hep:ep=ep'
   ·subst hep
    simp at he
    subst he
    obtain ⟨p,c,t,ad,cap',q1,rfl,q3,q4,q5,q6,q7,q8,q9,q10,q11,q12,q13,q14,q15,q16,q17⟩:=slice_at hr hx hg
    right
    have hlen:((ys.drop off).take len).length=len:=by simp;omega
    by_cases h0:len=0
    ·subst h0
     refine ⟨ad,cap', [],sz,by simp,by simp,fun j u hj=>by simp at hj,fun hh=>by simp at hh,⟨by simp,(fun x hx=>by simp at hx),(fun i x j y hi=>by simp at hi)⟩⟩
    ·have had:ad=⟨p.blk,off * sz,none⟩:=by
      rcases q13 with h9 | h9
      ·omega
      ·exact h9
     have hget : ∀ (i:Nat) (x:AV),((ys.drop off).take len)[i]? = some x→i<len∧ys[off+i]? = some x:=by
      intro i x hi
      have:=(List.getElem?_eq_some_iff.1 hi).1
      rw [hlen] at this
      rw [List.getElem?_take_of_lt this,List.getElem?_drop] at hi
      exact ⟨this,hi⟩
     have hfit2:off * sz+len * sz≤c.size:=by
      have:=q10.fit
      have h7:(off+len) * sz≤ys.length * sz:=Nat.mul_le_mul_right _ q15
      rw [Nat.add_mul] at h7
      omega
     refine ⟨ad,cap',cut c (off * sz) (len * sz),sz,by rw [hlen],by rw [cut_length,hlen],fun j u hj=>?_,fun _=>q8,⟨by simp [cut_length];exact Nat.mul_le_mul_right _ (by omega),fun x hx=>q10.elem x (List.mem_of_mem_drop (List.mem_of_mem_take hx)),fun i x j y hi hj=>?_⟩⟩
     ·have hlt:=(List.getElem?_eq_some_iff.1 hj).1
      rw [cut_length] at hlt
      rw [cut_get hlt] at hj
      rw [had,Addr.add_lit,← hj]
      exact cell_of q3 (by omega)
     ·obtain ⟨hii,hyi⟩:=hget i x hi
      have hjj:=(List.getElem?_eq_some_iff.1 hj).1
      rw [(q10.elem x (List.mem_of_getElem? hyi)).1] at hjj
      have h5:(i+1) * sz≤len * sz:=Nat.mul_le_mul_right _ hii
      rw [Nat.add_mul] at h5
      have h6:=q10.cell (off+i) x j y hyi hj
      rw [Array.getD_eq_getD_getElem?,List.getElem?_toArray,cut_get (by omega),Option.getD_some]
      rw [show off * sz+(0+i * sz+j)=0+(off+i) * sz+j by rw [Nat.add_mul];omega]
      exact h6
   ·simp [hep] at he
  ·simp at he
 ·simp at he
theorem bytesR_ok : ∀ (xs:List AV) (l:List UInt8),bytesR xs=some l→xs=l.map fun b=> .int .u8 (b.toNat:Int)
 | [],l,e=>by simp [bytesR] at e;subst e;rfl
 | x::r,l,e=>by
  unfold bytesR at e
  split at e
  ·rename_i e0;simp at e0
  ·rename_i n r' e0
   simp at e0
   obtain ⟨rfl,rfl⟩:=e0
   rw [blt_iff] at e
   split at e
   ·rename_i hn
    simp at hn
    split at e
    ·rename_i l' hl'
     simp at e
     subst e
     rw [bytesR_ok r l' hl']
     have:(UInt8.ofNat n).toNat=n:=by simp [UInt8.toNat_ofNat'];omega
     simp [this]
    ·simp at e
   ·simp at e
  ·simp at e
theorem push_bytes (l:List UInt8) : ∀ (s:List UInt8),(l.map fun b=>(b.toNat:Int)).foldl (fun (r:ByteArray) n=>r.push (UInt8.ofNat n.toNat)) ⟨⟨s⟩⟩=⟨⟨s++l⟩⟩:=by
 induction l with
 | nil=>intro s;simp
 | cons b r ih=>
  intro s
  simp only [List.map_cons,List.foldl_cons]
  have:(⟨⟨s⟩⟩:ByteArray).push (UInt8.ofNat ((b.toNat:Int)).toNat)=⟨⟨s++ [b]⟩⟩:=by
   apply ByteArray.ext
   simp [ByteArray.push]
  rw [this,ih (s++ [b])]
  simp
theorem heap_push_of {w':World} {o:Obj} (hsz:w'.heap.size=w.heap.size+1) (hold : ∀ b,b<w.heap.size→w'.heap[b]? = w.heap[b]?) (hnew:w'.heap[w.heap.size]? = some o):w'.heap=w.heap.push o:=by
 apply Array.ext_getElem?
 intro b
 rcases Nat.lt_trichotomy b w.heap.size with hb | hb | hb
 ·rw [hold b hb,push_old hb]
 ·subst hb;rw [hnew,push_new]
 ·rw [Array.getElem?_eq_none (by omega),Array.getElem?_eq_none (by rw [Array.size_push];omega)]
theorem ok_convert (s d:TypeId) (x:Operand):OkOp P G (.convert s d x):=by
 intro pl M A h v h' a w dst ty pos after guard hg hr hf he
 simp only [opR] at he
 unfold convOp at he
 have fin : ∀ cv,(convert s d (a.eval x)).run P w = .ok cv w→VRel pl M v cv→h'=h→Out pl M h w ((execOp a.eval ⟨dst, .convert s d x,ty,pos,after,guard⟩).run P w) v h':=by
  intro cv h1 h2 h3
  subst h3
  simpa [execOp,h1] using Out.pure hr h2
 split at he
 ·rename_i ds k hs hd
  obtain ⟨u,e1,e2⟩:=retV_some he
  simp at e2
  obtain ⟨rfl,rfl⟩:=e2
  cases hx:(opd G x).run A with
  | none=>simp [hx,convInt] at e1
  | some xv=>
   have hxv:=opd_ok hg hf hx
   rw [hx] at e1
   cases xv <;> simp [convInt] at e1
   subst e1
   generalize hq:a.eval x=cx at hxv
   cases hxv
   exact fin _ (by simp [hq,convert,run_underlying hs,run_underlying hd,Conv.intToInt]) (.int _ _) rfl
 ·rename_i e hs hd
  split at he
  ·rename_i hu
   obtain ⟨u,e1,e2⟩:=retV_some he
   simp at e2
   obtain ⟨rfl,rfl⟩:=e2
   cases hx:(opd G x).run A with
   | none=>simp [hx,convBytesStr] at e1
   | some xv=>
    have hxv:=opd_ok hg hf hx
    rw [hx] at e1
    simp only [convBytesStr] at e1
    cases hel:elemsR h' xv with
    | none=>simp [hel] at e1
    | some xs=>
     rw [hel] at e1
     cases hb:bytesR xs with
     | none=>simp [hb] at e1
     | some l=>
      simp [hb] at e1
      subst e1
      have hxs:=bytesR_ok xs l hb
      rcases elems_src hr hxv hel with ⟨h1,h2⟩ | ⟨ad,cap',news,sz,h1,h2,h3,h4,h5⟩
      ·subst h2
       have hl:l = []:=by cases l with
        | nil=>rfl
        | cons b r=>simp at hxs
       subst hl
       exact fin (.string ⟨⟨[]⟩⟩) (by rw [h1];simp [convert,run_underlying hs,run_underlying hd,run_underlying hu,Conv.bytesToString];rfl) (.str _) rfl
      ·have hnews:news=l.map fun b=>Value.int .u8 (b.toNat:Int):=by
        by_cases hne:xs = []
        ·subst hne
         have hl:l = []:=by cases l with
          | nil=>rfl
          | cons b r=>simp at hxs
         subst hl
         simp at h2
         simpa using h2
        ·have hs1:sz=1:=by
          cases l with
          | nil=>subst hxs;exact absurd rfl hne
          | cons b r=>
           have:=(h5.elem (.int .u8 (b.toNat:Int)) (by rw [hxs];simp)).1
           rw [← this];rfl
         subst hs1
         rw [hxs] at h2 h5
         apply List.ext_getElem?
         intro j
         by_cases hj:j<l.length
         ·have h6:(l.map fun b=>AV.int .u8 (b.toNat:Int))[j]? = some (.int .u8 (l[j].toNat:Int)):=by simp [hj]
          have h7:=h5.cell j _ 0 _ h6 rfl
          rw [Array.getD_eq_getD_getElem?,List.getElem?_toArray] at h7
          have hjn:j<news.length:=by rw [h2];simpa using hj
          simp only [Nat.zero_add,Nat.mul_one,Nat.add_zero,List.getElem?_eq_getElem hjn,Option.getD_some] at h7
          rw [List.getElem?_eq_getElem hjn]
          generalize news[j]=nj at h7
          cases h7
          simp [hj]
         ·rw [List.getElem?_eq_none (by rw [h2];simp;omega),List.getElem?_eq_none (by simp;omega)]
       have hlen:xs.length=l.length:=by rw [hxs];simp
       have hld:=run_loadCells_list (P:=P) w ad news h3
       have hnl:news.length=xs.length:=by rw [hnews];simp [hlen]
       rw [hnl,hnews] at hld
       have hmm:(l.map fun b=>Value.int .u8 (b.toNat:Int))=(l.map fun b=>(b.toNat:Int)).map (Value.int .u8):=by simp
       rw [hmm] at hld
       have hrun:=run_bytesToString (P:=P) w ad xs.length cap' _ hld
       refine fin (.string ⟨⟨l⟩⟩) ?_ (.str _) rfl
       rw [h1,show convert s d (.slice (some ad) xs.length cap')=convert s d (.slice (some ad) xs.length cap') from rfl]
       have:(convert s d (.slice (some ad) xs.length cap')).run P w=(Conv.bytesToString (.slice (some ad) xs.length cap')).run P w:=by
        simp [convert,run_underlying hs,run_underlying hd,run_underlying hu]
       rw [this,hrun]
       have:=push_bytes l []
       simp only [List.nil_append] at this
       rw [show ByteArray.empty=⟨⟨[]⟩⟩ from rfl,this]
  ·exact (fail_run he).elim
 ·rename_i hs hd
  obtain ⟨u,e1,e2⟩:=retV_some he
  simp at e2
  obtain ⟨rfl,rfl⟩:=e2
  cases hx:(opd G x).run A with
  | none=>simp [hx,convStr] at e1
  | some xv=>
   have hxv:=opd_ok hg hf hx
   rw [hx] at e1
   cases xv <;> simp [convStr] at e1
   subst e1
   generalize hq:a.eval x=cx at hxv
   cases hxv
   exact fin _ (by simp [hq,convert,run_underlying hs,run_underlying hd]) (.str _) rfl
 ·rename_i e hs hd
  split at he
  ·rename_i hu
   obtain ⟨u,e1,e2⟩:=retV_some he
   simp at e2
   obtain ⟨rfl,rfl⟩:=e2
   cases hx:(opd G x).run A with
   | none=>simp [hx,convStrBytes] at e1
   | some xv=>
    have hxv:=opd_ok hg hf hx
    rw [hx] at e1
    cases xv <;> simp only [convStrBytes] at e1 <;> (try (simp at e1;done))
    rename_i l
    rw [ble_iff] at e1
    split at e1
    ·simp at e1
     subst e1
     generalize hq:a.eval x=cx at hxv
     cases hxv
     have hrun:=Lib.run_convert_string_bytes (P:=P) w s d e ⟨⟨l⟩⟩ hs hd hu
     have hheap:=heap_push_of (w:=w) (Lib.bytesWorld_size w e ⟨⟨l⟩⟩) (fun b hb=>Lib.bytesWorld_at_old w e ⟨⟨l⟩⟩ b hb) (Lib.bytesWorld_at_new w e ⟨⟨l⟩⟩)
     obtain ⟨r1,r2⟩:=Rep.immNew hr hheap ⟨rfl,rfl,rfl,by unfold Lib.bytesWorld;(first | exact Nat.le_refl _ | exact Nat.le_succ _ | simp)⟩
     have hsz:(⟨⟨l⟩⟩:ByteArray).size=l.length:=rfl
     have hge:=grownCap_ge w l.length 0 e
     refine ⟨pl,_,_,_,_,by simp only [execOp,hq,Sem.run_bind,hrun,Result.andThen_ok];rfl, .inl rfl,?_,r1,r2,Nat.le_refl _⟩
     rw [hsz]
     generalize grownCap w l.length 0 e=cap at hge
     have hlm:(l.map fun b=>AV.int .u8 (Int.ofNat b.toNat)).length=l.length:=by simp
     rw [← hlm]
     refine .ps (sz:=1) (c:=Lib.bytesCells w e ⟨⟨l⟩⟩) (by simpa using hge) (fun h=>by cases h) (fun _=>⟨rfl,by simp [updM],by simp [Lib.bytesCells],by omega⟩) (fun x hx=>?_) (fun i x j y hi hj=>?_)
     ·simp at hx
      obtain ⟨b,_,rfl⟩:=hx
      exact ⟨rfl,fun y hy=>by simp [AV.cells] at hy;subst hy;rfl⟩
     ·rw [List.getElem?_map] at hi
      cases hli:l[i]? with
      | none=>simp [hli] at hi
      | some b=>
       simp [hli] at hi
       subst hi
       cases j with
       | succ j=>simp [AV.cells] at hj
       | zero=>
        simp [AV.cells] at hj
        subst hj
        have hil:=(List.getElem?_eq_some_iff.1 hli).1
        have:(Lib.bytesCells w e ⟨⟨l⟩⟩).getD (0+i * 1+0) undef = .int .u8 (b.toNat:Int):=by
         simp only [Lib.bytesCells,Array.getD_eq_getD_getElem?]
         rw [Array.getElem?_append_left (by simpa using hil)]
         simp [hli]
        show VRel pl _ (.int .u8 (b.toNat:Int)) ((Lib.bytesCells w e ⟨⟨l⟩⟩).getD (0+i * 1+0) undef)
        rw [this]
        exact .int _ _
    ·simp at e1
  ·exact (fail_run he).elim
 ·exact (fail_run he).elim
end
end Go.Ev

namespace Go.Ev
open Go
section
variable {P : Program} {G : Env} {pl : Pl} {M : Mem} {h h' : AHeap} {w w' : World} {v : AV} {A : Fr} {a : Act}
theorem InMem.over {c:Array Value} {sz k:Nat} {xs new ys:List AV} {news:List Value} (hx:InMem pl M c 0 sz xs) (hn:InMem pl M news.toArray 0 sz new) (hnl:news.length=new.length * sz)
  (hfit:(k+new.length) * sz≤c.size) (hys:ys.length * sz≤c.size)
  (hy : ∀ (i:Nat) (x:AV),ys[i]? = some x→(i<k∧xs[i]? = some x)∨(k≤i∧i<k+new.length∧new[i - k]? = some x)∨(k+new.length≤i∧xs[i]? = some x)) :
  k * sz+news.length≤c.size∧InMem pl M (Ev.over c (k * sz) news) 0 sz ys:=by
 have hl:k * sz+news.length≤c.size:=by rw [hnl,← Nat.add_mul];exact hfit
 refine ⟨hl,by rw [over_size hl];simpa using hys,fun x hxm=>?_,fun i x j y hi hj=>?_⟩
 ·obtain ⟨i,hi⟩:=List.mem_iff_getElem?.1 hxm
  rcases hy i x hi with ⟨_,q⟩ | ⟨_,_,q⟩ | ⟨_,q⟩
  ·exact hx.elem x (List.mem_of_getElem? q)
  ·exact hn.elem x (List.mem_of_getElem? q)
  ·exact hx.elem x (List.mem_of_getElem? q)
 ·have hjs:j<sz:=by
   have:=(List.getElem?_eq_some_iff.1 hj).1
   rcases hy i x hi with ⟨_,q⟩ | ⟨_,_,q⟩ | ⟨_,q⟩
   ·rw [(hx.elem x (List.mem_of_getElem? q)).1] at this;exact this
   ·rw [(hn.elem x (List.mem_of_getElem? q)).1] at this;exact this
   ·rw [(hx.elem x (List.mem_of_getElem? q)).1] at this;exact this
  rcases hy i x hi with ⟨q0,q⟩ | ⟨q0,q1,q⟩ | ⟨q0,q⟩
  ·have h1:(i+1) * sz≤k * sz:=Nat.mul_le_mul_right _ q0
   rw [Nat.add_mul] at h1
   rw [over_getD_out hl (by omega)]
   exact hx.cell i x j y q hj
  ·have h1:i * sz=k * sz+(i - k) * sz:=by rw [← Nat.add_mul];congr 1;omega
   have h2:(i - k+1) * sz≤new.length * sz:=Nat.mul_le_mul_right _ (by omega)
   rw [Nat.add_mul] at h2
   have h3:=hn.cell (i - k) x j y q hj
   rw [Array.getD_eq_getD_getElem?,List.getElem?_toArray] at h3
   rw [show 0+i * sz+j=k * sz+((i - k) * sz+j) by omega,over_getD_in hl (by rw [hnl];omega),List.getD_eq_getElem?_getD]
   rw [Nat.zero_add] at h3
   exact h3
  ·have h1:(k+new.length) * sz≤i * sz:=Nat.mul_le_mul_right _ q0
   rw [Nat.add_mul,← hnl] at h1
   rw [over_getD_out hl (by omega)]
   exact hx.cell i x j y q hj
theorem writeAt_length {xs new:List AV} {k:Nat} (hl:k+new.length≤xs.length):(writeAt xs k new).length=xs.length:=by simp [writeAt];omega
theorem writeAt_get {xs new:List AV} {k:Nat} (hl:k+new.length≤xs.length) {i:Nat} {x:AV} (hi:(writeAt xs k new)[i]? = some x) :
  (i<k∧xs[i]? = some x)∨(k≤i∧i<k+new.length∧new[i - k]? = some x)∨(k+new.length≤i∧xs[i]? = some x):=by
 rcases splice_get (cs:=xs) (new:=new) (off:=k) hl hi with ⟨a1,a2,a3⟩ | ⟨a1 | a1,a2⟩
 ·exact .inr (.inl ⟨a1,a2,a3⟩)
 ·exact .inl ⟨a1,a2⟩
 ·exact .inr (.inr ⟨a1,a2⟩)
structure SrcRel (P:Program) (pl:Pl) (M:Mem) (w:World) (cx:Value) (ys:List AV) (sz:Nat) (news:List Value):Prop where
 len : ∀ w':World,(Builtin.lenOf cx).run P w' = .ok ys.length w'
 cells : ∀ n,n≤ys.length→∀ w':World,w'.heap=w.heap→(Builtin.firstCells sz n cx).run P w' = .ok (news.take (n * sz)).toArray w'
 newsLen:news.length=ys.length * sz
 mem:InMem pl M news.toArray 0 sz ys
theorem cell_heap {w w':World} (h:w'.heap=w.heap) (a:Addr):w'.cell? a=w.cell? a:=by simp [World.cell?,h]
theorem src_ok (hr:Rep pl M h w) {x:AV} {cx:Value} {ys:List AV} (hx:VRel pl M x cx) (he:srcR h x=some ys) {sz:Nat} (hne:ys≠ []) (hfit:fits sz ys=true) : ∃ news,SrcRel P pl M w cx ys sz news:=by
 have hf:=fits_ok hfit
 unfold srcR at he
 split at he
 ·rename_i s
  simp at he
  subst he
  have hs:sz=1:=by
   cases s with
   | nil=>exact absurd rfl hne
   | cons b r=>exact ((hf _ (by simp;exact .inl rfl)).1).symm
  subst hs
  cases hx
  refine ⟨s.map fun b=> .int .u8 (b.toNat:Int),⟨fun w'=>by simp [Builtin.lenOf];rfl,fun n hn w' _=>?_,by simp,⟨by simp,fun x hx=>?_,fun i x j y hi hj=>?_⟩⟩⟩
  ·simp only [Builtin.firstCells,Sem.run_pure,Nat.mul_one]
   congr 1
   apply Array.ext'
   simp [ByteArray.extract,ByteArray.copySlice,List.map_take]
  ·simp at hx
   obtain ⟨b,_,rfl⟩:=hx
   exact ⟨rfl,fun y hy=>by simp [AV.cells] at hy;subst hy;rfl⟩
  ·rw [List.getElem?_map] at hi
   cases hsi:s[i]? with
   | none=>simp [hsi] at hi
   | some b=>
    simp [hsi] at hi
    subst hi
    cases j with
    | succ j=>simp [AV.cells] at hj
    | zero=>
     simp [AV.cells] at hj
     subst hj
     simp [Array.getD_eq_getD_getElem?,hsi]
     exact .int _ _
 ·rcases elems_src hr hx he with ⟨_,h2⟩ | ⟨ad,cap',news,sz',h1,h2,h3,h4,h5⟩
  ·exact absurd h2 hne
  ·have hs:sz'=sz:=by
    cases ys with
    | nil=>exact absurd rfl hne
    | cons y r=>rw [← (h5.elem y (by simp)).1];exact (hf y (by simp)).1
   subst hs
   subst h1
   refine ⟨news,⟨fun w'=>rfl,fun n hn w' hw=>?_,h2,h5⟩⟩
   have hnl:(news.take (n * sz')).length=n * sz':=by
    rw [List.length_take,h2]
    exact Nat.min_eq_left (Nat.mul_le_mul_right _ hn)
   exact run_firstCells_some w' sz' n ad _ cap' _ hnl (fun j u hj=>by
    rw [cell_heap hw]
    have hlt:=(List.getElem?_eq_some_iff.1 hj).1
    rw [hnl] at hlt
    rw [List.getElem?_take_of_lt hlt] at hj
    exact h3 j u hj)
theorem SrcRel.one {cx:Value} {ys:List AV} {sz:Nat} {news:List Value} (hs:SrcRel P pl M w cx ys sz news) : ∀ u∈news,u.oneCell'=true:=by
 intro u hu
 obtain ⟨j,hj,rfl⟩:=List.mem_iff_getElem.1 hu
 have hpos:0<sz:=by
  rcases Nat.eq_zero_or_pos sz with h0 | h0
  ·rw [hs.newsLen,h0] at hj;omega
  ·exact h0
 have hj2:j<ys.length * sz:=by rw [← hs.newsLen];exact hj
 have hi:j / sz<ys.length:=(Nat.div_lt_iff_lt_mul hpos).2 hj2
 have hx:ys[j / sz]? = some ys[j / sz]:=List.getElem?_eq_getElem hi
 have he:=hs.mem.elem ys[j / sz] (List.getElem_mem hi)
 have hm:j % sz<ys[j / sz].cells.length:=by rw [he.1];exact Nat.mod_lt _ hpos
 have hy:=List.getElem?_eq_getElem hm
 have hc:=hs.mem.cell (j / sz) _ (j % sz) _ hx hy
 have e1:0+j / sz * sz+j % sz=j:=by rw [Nat.zero_add,Nat.mul_comm];exact Nat.div_add_mod j sz
 rw [e1,Array.getD_eq_getD_getElem?,List.getElem?_toArray,List.getElem?_eq_getElem hj,Option.getD_some] at hc
 exact hc.one (he.2 _ (List.getElem_mem hm))
theorem SrcRel.src {cx:Value} {ys:List AV} {sz:Nat} {news:List Value} (hs:SrcRel P pl M w cx ys sz news) {tx:TypeId} (hk:(∃ e',P.underlying tx=some (.slice e'))∨P.underlying tx=some .string) :
  Src P sz tx cx ys.length news w:=by
 have e1:=hs.cells ys.length (Nat.le_refl _)
 rw [← hs.newsLen,List.take_length] at e1
 exact ⟨hk,hs.len,e1 w rfl,e1 w.drew rfl,hs.newsLen,hs.one⟩
theorem append_types {ts:Array TypeId} {t tx ty:TypeId} {args:Array Value} (h0:ts[0]? = some t) (h1:ts[1]? = some tx):Builtin.append_ ts ty args=Builtin.append_ #[t,tx] ty args:=by
 unfold Builtin.append_
 simp only [h0,h1]
 rfl
theorem newRow_ok (hr:Rep pl M h w) {e:TypeId} {sz:Nat} {zs ys:List AV} {z:Value} {w2:World} {cells:Array Value} {cap:Nat} (hs0:0<sz) (hw:w2.heap=w.heap.push (.cells cells e)) (hs:WSame w w2)
  (hsz:cells.size=cap * sz) (hcap:ys.length≤cap) (hin:InMem pl M cells 0 sz ys) :
  ∃ pl',VRel pl' M (.slice h.n 0 0 ys.length none) (.slice (some ⟨w.heap.size,0,none⟩) ys.length cap)∧Rep pl' M (h.push (.row sz true 0 ys)) w2∧Step h pl M w (h.push (.row sz true 0 ys)) pl' M w2:=by
 let p:Place:=⟨w.heap.size,0,sz,ys.length,cap * sz⟩
 have hext:Ext pl (upd pl h.n p):=fun id q hq=>⟨q,by rw [upd_other (by have:=hr.dom id q hq;omega)];exact hq,Nat.le_refl _,fun _=>rfl⟩
 obtain ⟨r1,r2⟩:=Rep.alloc (o:= .row sz true 0 ys) (p:=p) hr hw hs rfl ⟨rfl,rfl,rfl,hsz.symm,rfl,hs0,fun hh=>by (cases hh),hin.mono hext (fun _ _ h=>h)⟩
 exact ⟨_, .slice (upd_same _ _ _) (Nat.le_refl _) hcap (fun k hk=>by cases hk) (fun _=>⟨.inr (by simp [p]),by simp [p],by simp [p],(fun _=>by simpa [p] using hcap),(fun k hk=>by cases hk)⟩),r1,r2⟩
theorem newRowR_some {sz:Nat} {xs:List AV} {r:AV × AHeap} (e:newRowR sz h xs=some r):r=(.slice h.n 0 0 xs.length none,h.push (.row sz true 0 xs)):=by simp [newRowR] at e;exact e.symm
theorem inMem_append {sz:Nat} {xs ys:List AV} {olds news:List Value} (h1:InMem pl M olds.toArray 0 sz xs) (h2:InMem pl M news.toArray 0 sz ys) (l1:olds.length=xs.length * sz) (l2:news.length=ys.length * sz) (rest:Array Value) :
  InMem pl M ((olds++news).toArray++rest) 0 sz (xs++ys):=by
 refine ⟨by simp [l1,l2,Nat.add_mul],fun x hx=>?_,fun i x j y hi hj=>?_⟩
 ·rcases List.mem_append.1 hx with hx | hx
  ·exact h1.elem x hx
  ·exact h2.elem x hx
 ·by_cases hlt:i<xs.length
  ·rw [List.getElem?_append_left hlt] at hi
   have h3:=h1.cell i x j y hi hj
   have hjs:j<sz:=by
    have:=(List.getElem?_eq_some_iff.1 hj).1
    rw [(h1.elem x (List.mem_of_getElem? hi)).1] at this;exact this
   have h4:(i+1) * sz≤xs.length * sz:=Nat.mul_le_mul_right _ hlt
   rw [Nat.add_mul] at h4
   have h5:0+i * sz+j<olds.length:=by rw [l1];omega
   rw [Array.getD_eq_getD_getElem?] at h3 ⊢
   rw [Array.getElem?_append_left (by simp;omega)]
   rw [List.getElem?_toArray] at h3 ⊢
   rw [List.getElem?_append_left h5]
   exact h3
  ·rw [List.getElem?_append_right (by omega)] at hi
   have h3:=h2.cell (i - xs.length) x j y hi hj
   have hjs:j<sz:=by
    have:=(List.getElem?_eq_some_iff.1 hj).1
    rw [(h2.elem x (List.mem_of_getElem? hi)).1] at this;exact this
   have hii:=(List.getElem?_eq_some_iff.1 hi).1
   have h4:(i - xs.length+1) * sz≤ys.length * sz:=Nat.mul_le_mul_right _ hii
   rw [Nat.add_mul] at h4
   have h6:i * sz=xs.length * sz+(i - xs.length) * sz:=by rw [← Nat.add_mul];congr 1;omega
   rw [Array.getD_eq_getD_getElem?] at h3 ⊢
   rw [Array.getElem?_append_left (by simp [l1,l2];omega)]
   rw [List.getElem?_toArray] at h3 ⊢
   rw [List.getElem?_append_right (by omega)]
   rw [show 0+i * sz+j - olds.length=0+(i - xs.length) * sz+j by omega]
   exact h3
theorem inMem_nil (c:Array Value) (sz:Nat):InMem pl M c 0 sz []:=⟨by simp,fun x hx=>by (cases hx),fun i x j y hi=>by simp at hi⟩
theorem grow_ok (hr:Rep pl M h w) {t tx e:TypeId} {ty:TypeId} {i:TypeInfo} {z:Value} (ht:P.underlying t=some (.slice e)) (hi:P.info? e=some i) (hz:i.zero=some z) (hzs:z.cells.size=i.size) (hs0:0<i.size)
  {base:Option Addr} {sLen sCap:Nat} {xs ys:List AV} {olds news:List Value} {cx:Value} (hol:olds.length=xs.length * i.size) (hoi:InMem pl M olds.toArray 0 i.size xs) (hxl:xs.length=sLen)
  (hold:(Builtin.firstCells i.size sLen (.slice base sLen sCap)).run P w.drew = .ok olds.toArray w.drew) (hs:SrcRel P pl M w cx ys i.size news)
  (hk:(∃ e',P.underlying tx=some (.slice e'))∨P.underlying tx=some .string) (hg:sCap<sLen+ys.length) (hsm:small (sLen+ys.length) i.bytes=true) :
  ∃ cap w2 pl',(Builtin.append_ #[t,tx] ty #[.slice base sLen sCap,cx]).run P w = .ok (.slice (some ⟨w.heap.size,0,none⟩) (sLen+ys.length) cap) w2∧w2.heap.size=w.heap.size+1∧
   VRel pl' M (.slice h.n 0 0 (xs++ys).length none) (.slice (some ⟨w.heap.size,0,none⟩) (sLen+ys.length) cap)∧Rep pl' M (h.push (.row i.size true 0 (xs++ys))) w2∧Step h pl M w (h.push (.row i.size true 0 (xs++ys))) pl' M w2∧
   ∃ cells,w2.heap=w.heap.push (.cells cells e)∧cells.size=cap * i.size∧(xs++ys).length≤cap∧InMem pl M cells 0 i.size (xs++ys)∧WSame w w2:=by
 obtain ⟨b1,b2⟩:=small_some hsm
 have hrun:=run_append_grow_src (P:=P) w t tx ty e i z ht hi hz base sLen sCap olds hold cx ys.length news (hs.src hk) hg (by omega) (growslice_fits hg (by omega))
 have hge:=grownCap_ge w (sLen+ys.length) sCap e
 have hin:=inMem_append hoi hs.mem hol hs.newsLen (Builtin.zeroCells z.cells (grownCap w (sLen+ys.length) sCap e - (sLen+ys.length)))
 have hlen:(xs++ys).length=sLen+ys.length:=by simp [hxl]
 have hcs:((olds++news).toArray++Builtin.zeroCells z.cells (grownCap w (sLen+ys.length) sCap e - (sLen+ys.length))).size=grownCap w (sLen+ys.length) sCap e * i.size:=by
  simp only [Array.size_append,List.size_toArray,List.length_append,hol,hs.newsLen,size_zeroCells,hzs,← Nat.add_mul]
  congr 1
  omega
 have hwd:(w.drew.alloc (.cells ((olds++news).toArray++Builtin.zeroCells z.cells (grownCap w (sLen+ys.length) sCap e - (sLen+ys.length))) e)).heap=w.heap.push (.cells ((olds++news).toArray++Builtin.zeroCells z.cells (grownCap w (sLen+ys.length) sCap e - (sLen+ys.length))) e):=rfl
 obtain ⟨pl',k1,k2,k3⟩:=newRow_ok (zs:= []) (z:=z) hr hs0 hwd ⟨rfl,rfl,rfl,Nat.le_succ _⟩ hcs (by rw [hlen];exact hge) hin
 refine ⟨_,_,pl',hrun,by rw [hwd,Array.size_push],?_,k2,k3,_,hwd,hcs,by rw [hlen];exact hge,hin,⟨rfl,rfl,rfl,Nat.le_succ _⟩⟩
 rw [hlen] at k1 ⊢
 exact k1
theorem room_ok (hr:Rep pl M h w) {t tx e:TypeId} {ty:TypeId} {i:TypeInfo} (ht:P.underlying t=some (.slice e)) (hi:P.info? e=some i)
  {id off len cap':Nat} {cap:Option Nat} {op:Bool} {ep:Nat} {xs ys:List AV} {p:Place} {c:Array Value} {t':TypeId} {ad:Addr} {news:List Value} {cx:Value}
  (hg:h.get id=some (.row i.size op ep xs)) (q1:pl id=some p) (q3:w.heap[p.blk]? = some (.cells c t' (0,0))) (q4:p.ep=ep) (q5:p.sz=i.size) (q6:p.n=xs.length) (q7:p.tot=c.size) (q8:0<i.size)
  (q9:op=false→c.size=xs.length * i.size) (q10:InMem pl M c 0 i.size xs) (q11:len≤cap') (q12 : ∀ k,cap=some k→cap'=k) (q13:cap'=0∨ad=⟨p.blk,off * i.size,none⟩) (q14:(off+cap') * i.size≤c.size)
  (q16:cap=none→xs.length≤off+cap') (q17 : ∀ k,cap=some k→off+k≤xs.length) (hs:SrcRel P pl M w cx ys i.size news) (hk:(∃ e',P.underlying tx=some (.slice e'))∨P.underlying tx=some .string)
  (hne:ys≠ []) (hroom:len+ys.length≤cap') (hin:off+len+ys.length≤xs.length) :
  ∃ w2,(Builtin.append_ #[t,tx] ty #[.slice (some ad) len cap',cx]).run P w = .ok (.slice (some ad) (len+ys.length) cap') w2∧
   VRel pl M (.slice id ep off (len+ys.length) cap) (.slice (some ad) (len+ys.length) cap')∧Rep pl M (h.put id (.row i.size op ep (writeAt xs (off+len) ys))) w2∧Step h pl M w (h.put id (.row i.size op ep (writeAt xs (off+len) ys))) pl M w2:=by
 have hpos:0<ys.length:=List.length_pos_iff.2 hne
 have had:ad=⟨p.blk,off * i.size,none⟩:=by
  rcases q13 with h0 | h0
  ·omega
  ·exact h0
 have hfit0:(off+len+ys.length) * i.size≤c.size:=by
  have:=q10.fit
  have h9:(off+len+ys.length) * i.size≤xs.length * i.size:=Nat.mul_le_mul_right _ hin
  omega
 obtain ⟨hl,hmem⟩:=q10.over hs.mem hs.newsLen (k:=off+len) (ys:=writeAt xs (off+len) ys) hfit0 (by rw [writeAt_length hin];have:=q10.fit;omega) (fun i x hi=>writeAt_get hin hi)
 have hoff:off * i.size+len * i.size=(off+len) * i.size:=(Nat.add_mul _ _ _).symm
 have hrun:=run_append_room_src (P:=P) w t tx ty e i ht hi p.blk (off * i.size) len cap' cx ys.length news (hs.src hk) hroom (fun j hj=>by rw [hoff,cell_of q3 (by omega)];rfl) (fun j hj=>by simp [World.frozen?,q3])
 rw [hoff,← had] at hrun
 obtain ⟨r1,r2⟩:=Rep.store (ys:=writeAt xs (off+len) ys) hr q1 hg q3 q4 q5 q6 q7 q8 q9 (writeAt_length hin) hl hmem
 exact ⟨_,hrun, .slice q1 (by omega) hroom q12 (fun _=>⟨by rw [q5];exact q13,by rw [q5,q7];exact q14,by rw [q6];omega,(by rw [q6];exact q16),(by rw [q6];exact q17)⟩),r1,r2⟩
theorem take_append_get {xs ys:List AV} {k:Nat} (hk:k≤xs.length) {i:Nat} {x:AV} (hi:(xs.take k++ys)[i]? = some x) :
  (i<k∧xs[i]? = some x)∨(k≤i∧i<k+ys.length∧ys[i - k]? = some x)∨(k+ys.length≤i∧xs[i]? = some x):=by
 have h1:(xs.take k).length=k:=by simp;omega
 by_cases hlt:i<k
 ·rw [List.getElem?_append_left (by omega),List.getElem?_take_of_lt hlt] at hi
  exact .inl ⟨hlt,hi⟩
 ·rw [List.getElem?_append_right (by omega),h1] at hi
  have:=(List.getElem?_eq_some_iff.1 hi).1
  exact .inr (.inl ⟨by omega,by omega,hi⟩)
theorem tip_ok (hr:Rep pl M h w) {t tx e:TypeId} {ty:TypeId} {i:TypeInfo} {z:Value} (ht:P.underlying t=some (.slice e)) (hi:P.info? e=some i) (hz:i.zero=some z) (hzs:z.cells.size=i.size)
  {id len cap':Nat} {ep:Nat} {xs ys:List AV} {p:Place} {c:Array Value} {t':TypeId} {ad:Addr} {news:List Value} {cx:Value}
  (hg:h.get id=some (.row i.size true ep xs)) (q1:pl id=some p) (q3:w.heap[p.blk]? = some (.cells c t' (0,0))) (q4:p.ep=ep) (q5:p.sz=i.size) (q6:p.n=xs.length) (q7:p.tot=c.size) (q8:0<i.size)
  (q10:InMem pl M c 0 i.size xs) (q11:len≤cap') (q13:cap'=0∨ad=⟨p.blk,0,none⟩) (q14:cap' * i.size≤c.size) (q15:len≤xs.length)
  (hs:SrcRel P pl M w cx ys i.size news) (hk:(∃ e',P.underlying tx=some (.slice e'))∨P.underlying tx=some .string)
  (hne:ys≠ []) (hsm:small (len+ys.length) i.bytes=true) :
  ∃ cv w2 pl',(Builtin.append_ #[t,tx] ty #[.slice (some ad) len cap',cx]).run P w = .ok cv w2∧
   VRel pl' M (.slice id (ep+1) 0 (len+ys.length) none) cv∧Rep pl' M (h.put id (.row i.size true (ep+1) (xs.take len++ys))) w2∧Step h pl M w (h.put id (.row i.size true (ep+1) (xs.take len++ys))) pl' M w2:=by
 have hpos:0<ys.length:=List.length_pos_iff.2 hne
 have hlen:(xs.take len++ys).length=len+ys.length:=by simp;omega
 by_cases hroom:len+ys.length≤cap'
 ·have had:ad=⟨p.blk,0,none⟩:=by
   rcases q13 with h0 | h0
   ·omega
   ·exact h0
  have hfit0:(len+ys.length) * i.size≤c.size:=Nat.le_trans (Nat.mul_le_mul_right _ hroom) q14
  obtain ⟨hl,hmem⟩:=q10.over hs.mem hs.newsLen (k:=len) (ys:=xs.take len++ys) hfit0 (by rw [hlen];exact hfit0) (fun i x hi=>take_append_get q15 hi)
  have hrun:=run_append_room_src (P:=P) w t tx ty e i ht hi p.blk 0 len cap' cx ys.length news (hs.src hk) hroom (fun j hj=>by rw [Nat.zero_add,cell_of q3 (by omega)];rfl) (fun j hj=>by simp [World.frozen?,q3])
  rw [Nat.zero_add,← had] at hrun
  let p':Place:=⟨p.blk,ep+1,i.size,len+ys.length,c.size⟩
  have hext:Ext pl (upd pl id p'):=by
   intro k q hq
   by_cases ek:k=id
   ·subst ek
    rw [q1] at hq
    have:p=q:=by simpa using hq
    subst this
    exact ⟨p',upd_same _ _ _,by simp [p'];omega,fun e2=>by simp [p'] at e2;omega⟩
   ·exact ⟨q,by rw [upd_other ek];exact hq,Nat.le_refl _,fun _=>rfl⟩
  obtain ⟨r1,r2⟩:=Rep.change (p':=p') (o':= .row i.size true (ep+1) (xs.take len++ys)) (w':=w.setCells p.blk (len * i.size) news) hr q1 hg (.inr (by simp [p'];omega)) (setCells_same _ _ _ _)
   (by rw [setCells_size];exact Nat.le_refl _) (fun b _ hb=>setCells_other _ _ hb _ _ _) (.inl rfl) (by rw [setCells_size];exact hr.blk id p q1) (by
    show ObjRel (upd pl id p') M p' _ (w.setCells p.blk (len * i.size) news).heap[p.blk]?
    rw [setCells_heap p.blk t' (0,0) news (len * i.size) w c q3 hl]
    exact ⟨rfl,rfl,hlen.symm,by simp [p',over_size hl],rfl,q8,fun hh=>by (cases hh),hmem.mono hext (fun _ _ h=>h)⟩)
  refine ⟨_,_,_,hrun, .slice (upd_same _ _ _) (Nat.le_refl _) hroom (fun k hk=>by cases hk) (fun _=>⟨?_,by simpa [p'] using q14,by simp [p'],(fun _=>by simpa [p'] using hroom),(fun k hk=>by cases hk)⟩),r1,r2⟩
  right
  rw [had]
  simp [p']
 ·have hol:(cut c 0 (len * i.size)).length=(xs.take len).length * i.size:=by rw [cut_length];simp [q15]
  have hfit1:len * i.size≤c.size:=by
   have:=q10.fit
   have h9:len * i.size≤xs.length * i.size:=Nat.mul_le_mul_right _ q15
   omega
  have hoi:InMem pl M (cut c 0 (len * i.size)).toArray 0 i.size (xs.take len):=by
   refine ⟨by simp [cut_length];exact Nat.mul_le_mul_right _ (by omega),fun x hx=>q10.elem x (List.mem_of_mem_take hx),fun k x j y hk hj=>?_⟩
   have hkl:=(List.getElem?_eq_some_iff.1 hk).1
   have hkl2:k<len:=by simp at hkl;omega
   rw [List.getElem?_take_of_lt hkl2] at hk
   have hjj:=(List.getElem?_eq_some_iff.1 hj).1
   rw [(q10.elem x (List.mem_of_getElem? hk)).1] at hjj
   have h5:(k+1) * i.size≤len * i.size:=Nat.mul_le_mul_right _ hkl2
   rw [Nat.add_mul] at h5
   have h6:=q10.cell k x j y hk hj
   rw [Array.getD_eq_getD_getElem?,List.getElem?_toArray,cut_get (by omega),Option.getD_some]
   rw [Nat.zero_add]
   exact h6
  have hold:(Builtin.firstCells i.size len (.slice (some ad) len cap')).run P w.drew = .ok (cut c 0 (len * i.size)).toArray w.drew:=by
   by_cases h0:len=0
   ·subst h0
    simp [Builtin.firstCells,loadCells,loadCellsFrom,cut]
   ·have had:ad=⟨p.blk,0,none⟩:=by
     rcases q13 with h9 | h9
     ·omega
     ·exact h9
    refine run_firstCells_some w.drew i.size len ad len cap' _ (cut_length _ _ _) (fun j u hj=>?_)
    have hlt:=(List.getElem?_eq_some_iff.1 hj).1
    rw [cut_length] at hlt
    rw [cut_get hlt] at hj
    rw [had,Addr.add_lit,← hj]
    exact cell_of (w:=w.drew) q3 (by omega)
  obtain ⟨cap,w2,pl2,k1,k2,k3,k4,k5,cells,k6,k7,k8,k9,k10⟩:=grow_ok (P:=P) (tx:=tx) (ty:=ty) hr ht hi hz hzs q8 hol hoi (by simp [q15]) hold hs hk (by omega) hsm
  let p':Place:=⟨w.heap.size,ep+1,i.size,len+ys.length,cells.size⟩
  have hext:Ext pl (upd pl id p'):=by
   intro k q hq
   by_cases ek:k=id
   ·subst ek
    rw [q1] at hq
    have:p=q:=by simpa using hq
    subst this
    exact ⟨p',upd_same _ _ _,by simp [p'];omega,fun e2=>by simp [p'] at e2;omega⟩
   ·exact ⟨q,by rw [upd_other ek];exact hq,Nat.le_refl _,fun _=>rfl⟩
  obtain ⟨r1,r2⟩:=Rep.change (p':=p') (o':= .row i.size true (ep+1) (xs.take len++ys)) (w':=w2) hr q1 hg (.inr (by simp [p'];omega)) k10
   (by omega) (fun b hb _=>by rw [k6,push_old hb]) (.inr (Nat.le_refl _)) (by rw [k2];simp [p']) (by
    show ObjRel (upd pl id p') M p' _ w2.heap[w.heap.size]?
    rw [k6,push_new]
    exact ⟨rfl,rfl,hlen.symm,rfl,rfl,q8,fun hh=>by (cases hh),k9.mono hext (fun _ _ h=>h)⟩)
  refine ⟨_,_,_,k1, .slice (upd_same _ _ _) (Nat.le_refl _) (by rw [hlen] at k8;exact k8) (fun k hk=>by cases hk) (fun _=>⟨.inr (by simp [p']),by simp [p',k7],by simp [p'],(fun _=>by simp [p'];rw [hlen] at k8;exact k8),(fun k hk=>by cases hk)⟩),r1,r2⟩
theorem append_none {t tx e:TypeId} {ty:TypeId} {i:TypeInfo} (ht:P.underlying t=some (.slice e)) (hi:P.info? e=some i) {x:AV} {cx:Value} (hr:Rep pl M h w) (hx:VRel pl M x cx) (he:srcR h x=some [])
  (hk:(∃ e',P.underlying tx=some (.slice e'))∨P.underlying tx=some .string) {base:Option Addr} {len cap:Nat} (hl:len≤cap) :
  (Builtin.append_ #[t,tx] ty #[.slice base len cap,cx]).run P w = .ok (.slice base len cap) w:=by
 have h1:(∀ w',(Builtin.lenOf cx).run P w' = .ok 0 w')∧(∀ w',(Builtin.firstCells i.size 0 cx).run P w' = .ok #[] w'):=by
  unfold srcR at he
  split at he
  ·rename_i s
   simp at he
   subst he
   cases hx
   exact ⟨fun w'=>rfl,fun w'=>by simp [Builtin.firstCells]⟩
  ·rcases elems_src hr hx he with ⟨h1,_⟩ | ⟨ad,cap',news,sz,h1,_⟩
   ·subst h1;exact ⟨fun w'=>rfl,fun w'=>by simp [Builtin.firstCells]⟩
   ·subst h1;exact ⟨fun w'=>rfl,fun w'=>by simp [Builtin.firstCells,loadCells,loadCellsFrom]⟩
 obtain ⟨h2,h3⟩:=h1
 rcases hk with ⟨e',hk⟩ | hk <;> cases base <;> simp [Builtin.append_,run_underlying ht,run_underlying hk,sizeOf,typeInfo,hi,h2,h3,hl,storeCells]
theorem appendV_ok (hr:Rep pl M h w) {t tx e:TypeId} {ty:TypeId} {i:TypeInfo} {z:Value} (ht:P.underlying t=some (.slice e)) (hi:P.info? e=some i) (hz:i.zero=some z) (hzs:z.cells.size=i.size) (hs0:0<i.size)
  (hk:(∃ e',P.underlying tx=some (.slice e'))∨P.underlying tx=some .string) {s x:AV} {cs cx:Value} (hs:VRel pl M s cs) (hx:VRel pl M x cx) {r:AV × AHeap} (he:appendV i.size i.bytes h s x=some r) :
  ∃ cv w2 pl',(Builtin.append_ #[t,tx] ty #[cs,cx]).run P w = .ok cv w2∧VRel pl' M r.1 cv∧Rep pl' M r.2 w2∧Step h pl M w r.2 pl' M w2∧h.n≤r.2.n:=by
 unfold appendV at he
 cases hsrc:srcR h x with
 | none=>simp [hsrc] at he
 | some ys=>
  rw [hsrc] at he
  simp only [] at he
  unfold appendR at he
  split at he
  ·split at he <;> simp at he <;> subst he
   ·cases hs
    exact ⟨_,_,pl,append_none ht hi hr hx hsrc hk (Nat.le_refl _), .nils,hr,Step.refl _ _ _ _,Nat.le_refl _⟩
   ·have hs':=hs
    cases hs with
    | ps hl=>exact ⟨_,_,pl,append_none ht hi hr hx hsrc hk hl,hs',hr,Step.refl _ _ _ _,Nat.le_refl _⟩
   ·have hs':=hs
    cases hs with
    | lsn=>exact ⟨_,_,pl,append_none ht hi hr hx hsrc hk (Nat.le_refl _),hs',hr,Step.refl _ _ _ _,Nat.le_refl _⟩
    | lsp h1 _=>cases h1 with
     | ps hl=>exact ⟨_,_,pl,append_none ht hi hr hx hsrc hk hl,hs',hr,Step.refl _ _ _ _,Nat.le_refl _⟩
   ·have hs':=hs
    cases hs with
    | slice hp hle hl=>exact ⟨_,_,pl,append_none ht hi hr hx hsrc hk hl,hs',hr,Step.refl _ _ _ _,Nat.le_refl _⟩
  ·rename_i y0 yr
   have hne:y0::yr≠ []:=by simp
   split at he
   ·simp at he
   ·rename_i hfit
    obtain ⟨news,hsr⟩:=src_ok (P:=P) hr hx hsrc hne hfit
    have hpos:0<(y0::yr).length:=by simp
    generalize hys:y0::yr=ys at *
    split at he
    ·
     cases hs
     split at he
     ·rename_i hsm
      have:=newRowR_some he
      subst this
      obtain ⟨cap,w2,pl2,k1,k2,k3,k4,k5,_⟩:=grow_ok (P:=P) (t:=t) (tx:=tx) (ty:=ty) (base:=none) (sLen:=0) (sCap:=0) (xs:= []) (olds:= []) hr ht hi hz hzs hs0 (by simp) (inMem_nil _ _) rfl (by simp [Builtin.firstCells]) hsr hk (by omega) (by simpa using hsm)
      simp only [Nat.zero_add,List.nil_append] at k1 k3 k4
      exact ⟨_,_,_,k1,k3,k4,k5,by show h.n≤h.n+1;omega⟩
     ·simp at he
    ·
     rename_i xs
     split at he
     ·rename_i hsm
      simp at hsm
      have:=newRowR_some he
      subst this
      have hxf:=fits_ok hsm.2
      rcases elems_src (xs:=xs) hr hs rfl with ⟨h1,_⟩ | ⟨ad,cap',olds,sz,h1,h2,h3,h4,h5⟩
      ·subst h1;cases hs
      ·subst h1
       cases hs with
       | ps hl htt hm hs2 hc=>
        have hcap:=htt rfl
        subst hcap
        have hsz:xs = []∨sz=i.size:=by
         cases xs with
         | nil=>exact .inl rfl
         | cons y r=>right;rw [← (h5.elem y (by simp)).1];exact (hxf y (by simp)).1
        have hol:olds.length=xs.length * i.size:=by
         rcases hsz with h9 | h9
         ·subst h9;simpa using h2
         ·rw [← h9];exact h2
        have hoi:InMem pl M olds.toArray 0 i.size xs:=by
         rcases hsz with h9 | h9
         ·subst h9;exact inMem_nil _ _
         ·rw [← h9];exact h5
        have hold:(Builtin.firstCells i.size xs.length (.slice (some ad) xs.length xs.length)).run P w.drew = .ok olds.toArray w.drew:=
         run_firstCells_some w.drew i.size xs.length ad _ _ olds hol (fun j u hj=>by rw [World.cell?_drew];exact h3 j u hj)
        obtain ⟨cap,w2,pl2,k1,k2,k3,k4,k5,_⟩:=grow_ok (P:=P) (tx:=tx) (ty:=ty) hr ht hi hz hzs hs0 hol hoi rfl hold hsr hk (by omega) hsm.1
        refine ⟨_,_,_,k1,?_,k4,k5,by show h.n≤h.n+1;omega⟩
        exact k3
     ·simp at he
    ·
     rename_i id ep off len cap
     split at he
     ·rename_i sz' op ep' xs hg
      rw [beq_iff,beq_iff] at he
      split at he
      ·simp at he
      ·rename_i hc
       simp at hc
       obtain ⟨⟨c1,c2⟩,c3⟩:=hc
       subst c1
       subst c2
       obtain ⟨p,c,t',ad,cap',q1,rfl,q3,q4,q5,q6,q7,q8,q9,q10,q11,q12,q13,q14,q15,q16,q17⟩:=slice_at hr hs hg
       split at he
       ·rename_i k
        have hcap:=q12 k rfl
        subst hcap
        rw [ble_iff] at he
        split at he
        ·rename_i hroom
         simp at hroom
         rw [ble_iff] at he
         split at he
         ·rename_i hin
          simp at hin
          simp at he
          subst he
          obtain ⟨w2,k1,k2,k3,k4⟩:=room_ok (P:=P) (tx:=tx) (ty:=ty) hr ht hi hg q1 q3 q4 q5 q6 q7 q8 q9 q10 q11 q12 q13 q14 q16 q17 hsr hk (by rw [← hys];simp) hroom hin
          exact ⟨_,_,_,k1,k2,k3,k4,Nat.le_refl _⟩
         ·simp at he
        ·rename_i hroom
         simp at hroom
         have:=newRowR_some he
         subst this
         rcases elems_src (xs:=(xs.drop off).take len) hr hs (by simp [elemsR,hg,beq_iff]) with ⟨h1,_⟩ | ⟨ad2,cap2,olds,sz,h1,h2,h3,h4,h5⟩
         ·simp at h1
         ·have hlen2:((xs.drop off).take len).length=len:=by simp;omega
          simp at h1
          obtain ⟨rfl,_,rfl⟩:=h1
          have hsz:(xs.drop off).take len = []∨sz=i.size:=by
           cases hxs:(xs.drop off).take len with
           | nil=>exact .inl rfl
           | cons y r=>
            right
            have hmem:y∈(xs.drop off).take len:=by rw [hxs];simp
            rw [← (h5.elem y hmem).1]
            exact (q10.elem y (List.mem_of_mem_drop (List.mem_of_mem_take hmem))).1
          have hol:olds.length=((xs.drop off).take len).length * i.size:=by
           rcases hsz with h9 | h9
           ·rw [h9] at h2 ⊢;simpa using h2
           ·rw [← h9];exact h2
          have hoi:InMem pl M olds.toArray 0 i.size ((xs.drop off).take len):=by
           rcases hsz with h9 | h9
           ·rw [h9];exact inMem_nil _ _
           ·rw [← h9];exact h5
          have hold:(Builtin.firstCells i.size len (.slice (some ad) len cap')).run P w.drew = .ok olds.toArray w.drew:=
           run_firstCells_some w.drew i.size len ad _ _ olds (by rw [hol,hlen2]) (fun j u hj=>by rw [World.cell?_drew];exact h3 j u hj)
          obtain ⟨cap,w2,pl2,k1,k2,k3,k4,k5,_⟩:=grow_ok (P:=P) (tx:=tx) (ty:=ty) hr ht hi hz hzs hs0 hol hoi hlen2 hold hsr hk (by omega) c3
          refine ⟨_,_,_,k1,?_,k4,k5,by show h.n≤h.n+1;omega⟩
          exact k3
       ·rw [ble_iff] at he
        split at he
        ·rename_i hin
         simp at hin
         simp at he
         subst he
         have:=q16 rfl
         obtain ⟨w2,k1,k2,k3,k4⟩:=room_ok (P:=P) (tx:=tx) (ty:=ty) hr ht hi hg q1 q3 q4 q5 q6 q7 q8 q9 q10 q11 q12 q13 q14 q16 q17 hsr hk (by rw [← hys];simp) (by omega) hin
         exact ⟨_,_,_,k1,k2,k3,k4,Nat.le_refl _⟩
        ·split at he
         ·simp at he
          subst he
          obtain ⟨cv,w2,pl2,k1,k2,k3,k4⟩:=tip_ok (P:=P) (tx:=tx) (ty:=ty) hr ht hi hz hzs hg q1 q3 q4 q5 q6 q7 q8 q10 q11 (by simpa using q13) (by simpa using q14) (by omega) hsr hk (by rw [← hys];simp) c3
          exact ⟨_,_,_,k1,k2,k3,k4,Nat.le_refl _⟩
         ·simp at he
     ·simp at he
    ·simp at he
end
end Go.Ev

namespace Go.Ev
open Go
section
variable {P : Program} {G : Env} {pl : Pl} {M : Mem} {h h' : AHeap} {w w' : World} {v : AV} {A : Fr} {a : Act}
theorem write_ok (hr:Rep pl M h w) {id off sz:Nat} {op:Bool} {ep:Nat} {xs ys:List AV} {p:Place} {c:Array Value} {t':TypeId} {news:List Value}
  (hg:h.get id=some (.row sz op ep xs)) (q1:pl id=some p) (q3:w.heap[p.blk]? = some (.cells c t' (0,0))) (q4:p.ep=ep) (q5:p.sz=sz) (q6:p.n=xs.length) (q7:p.tot=c.size) (q8:0<sz)
  (q9:op=false→c.size=xs.length * sz) (q10:InMem pl M c 0 sz xs) (hn:InMem pl M news.toArray 0 sz ys) (hnl:news.length=ys.length * sz) (h1 : ∀ u∈news,u.oneCell'=true) (hin:off+ys.length≤xs.length) :
  (storeCells ⟨p.blk,off * sz,none⟩ news).run P w = .ok () (w.setCells p.blk (off * sz) news)∧
   Rep pl M (h.put id (.row sz op ep (writeAt xs off ys))) (w.setCells p.blk (off * sz) news)∧Step h pl M w (h.put id (.row sz op ep (writeAt xs off ys))) pl M (w.setCells p.blk (off * sz) news):=by
 have hfit0:(off+ys.length) * sz≤c.size:=by
  have:=q10.fit
  have h9:(off+ys.length) * sz≤xs.length * sz:=Nat.mul_le_mul_right _ hin
  omega
 obtain ⟨hl,hmem⟩:=q10.over hn hnl (k:=off) (ys:=writeAt xs off ys) hfit0 (by rw [writeAt_length hin];have:=q10.fit;omega) (fun i x hi=>writeAt_get hin hi)
 exact ⟨run_store_cells q3 hl h1,Rep.store (ys:=writeAt xs off ys) hr q1 hg q3 q4 q5 q6 q7 q8 q9 (writeAt_length hin) hl hmem⟩
theorem fits_bytes (l:List UInt8):fits 1 (l.map fun b=>AV.int .u8 (Int.ofNat b.toNat))=true:=by
 induction l with
 | nil=>rfl
 | cons b r ih=>simp only [List.map_cons,fits,AV.cells,flatB];exact ih
theorem copyO_ok (hr:Rep pl M h w) {t e ty:TypeId} {s:Nat} (ht:P.underlying t=some (.slice e)) (hsz:szOf P e=some s) {d x:AV} {cd cx:Value} (hd:VRel pl M d cd) (hx:VRel pl M x cx) {r:AV × AHeap}
  (he:copyO s h (some d) (some x)=some r) {ts:Array TypeId} (hts:ts[0]? = some t) :
  ∃ cv w2,(Builtin.copy_ ts ty #[cd,cx]).run P w = .ok cv w2∧VRel pl M r.1 cv∧Rep pl M r.2 w2∧Step h pl M w r.2 pl M w2∧h.n≤r.2.n:=by
 simp only [copyO] at he
 cases hsrc:srcR h x with
 | none=>simp [hsrc] at he
 | some ys=>
  rw [hsrc] at he
  simp only [copyR] at he
  split at he
  ·rename_i id ep off len cap
   split at he
   ·rename_i sz' op ep' xs hg
    rw [beq_iff,beq_iff] at he
    split at he
    ·rename_i hc
     simp at hc he
     obtain ⟨⟨c1,c2⟩,c3⟩:=hc
     subst c1;subst c2;subst he
     obtain ⟨p,c,t',ad,cap',q1,rfl,q3,q4,q5,q6,q7,q8,q9,q10,q11,q12,q13,q14,q15,q16,q17⟩:=slice_at hr hd hg
     by_cases hne:ys.take len = []
     ·have hmin:min ys.length len=0:=by
       have h9:(ys.take len).length=0:=by rw [hne];rfl
       rw [List.length_take] at h9
       omega
      have hw:writeAt xs off (ys.take len)=xs:=by rw [hne];simp [writeAt]
      have hl0:(∀ w',(Builtin.lenOf cx).run P w' = .ok ys.length w')∧(∀ w',(Builtin.firstCells s 0 cx).run P w' = .ok #[] w'):=by
       unfold srcR at hsrc
       split at hsrc
       ·rename_i l
        simp at hsrc
        subst hsrc
        cases hx
        exact ⟨fun w'=>by simp [Builtin.lenOf];rfl,fun w'=>by simp [Builtin.firstCells]⟩
       ·rcases elems_src hr hx hsrc with ⟨h1,h2⟩ | ⟨ad2,cap2,news,sz,h1,_⟩
        ·subst h1;subst h2;exact ⟨fun w'=>rfl,fun w'=>by simp [Builtin.firstCells]⟩
        ·subst h1;exact ⟨fun w'=>rfl,fun w'=>by simp [Builtin.firstCells,loadCells,loadCellsFrom]⟩
      refine ⟨.int .i64 (0:Int),w,?_,?_,?_,?_,Nat.le_refl _⟩
      ·have hm0:Nat.min ys.length len=0:=hmin
       simp [Builtin.copy_,hts,run_underlying ht,hl0.1,hm0,run_sizeOf hsz,hl0.2,storeCells,goInt]
      ·have:(Int.ofNat (min ys.length len))=0:=by rw [hmin];rfl
       show VRel pl M (.int .i64 (Int.ofNat (min ys.length len))) _
       rw [this];exact .int _ _
      ·show Rep pl M (h.put id _) w
       rw [hw]
       exact (hr.samePut q1 hg).1
      ·show Step h pl M w (h.put id _) pl M w
       rw [hw]
       exact (hr.samePut q1 hg).2
     ·have hys:ys≠ []:=by intro e;subst e;simp at hne
      have hlen0:len≠0:=by intro e;subst e;simp at hne
      have hfits : ∃ news,SrcRel P pl M w cx ys s news:=by
       unfold srcR at hsrc
       cases ys with
       | nil=>exact absurd rfl hys
       | cons y0 yr=>
        have hy0:y0.cells.length=s:=by
         cases len with
         | zero=>exact absurd rfl hlen0
         | succ n=>exact (fits_ok c3 y0 (by simp)).1
        split at hsrc
        ·rename_i l
         refine src_ok (h:=h) hr hx (by simp [srcR];simpa using hsrc) (by simp) ?_
         simp at hsrc
         have hs1:s=1:=by
          rw [← hy0]
          cases l with
          | nil=>simp at hsrc
          | cons b r=>simp at hsrc;rw [← hsrc.1];rfl
         rw [← hsrc,hs1]
         exact fits_bytes l
        ·refine src_ok (h:=h) hr hx (by unfold srcR;split <;> simp_all) (by simp) ?_
         rcases elems_src hr hx hsrc with ⟨_,h2⟩ | ⟨ad2,cap2,news,sz,h1,h2,h3,h4,h5⟩
         ·simp at h2
         ·have hs2:sz=s:=by rw [← hy0];exact ((h5.elem y0 (by simp)).1).symm
          subst hs2
          have : ∀ l:List AV,(∀ x,x∈l→x.cells.length=sz∧Sc x)→fits sz l=true:=by
           intro l
           induction l with
           | nil=>intro _;rfl
           | cons b r ih=>
            intro hl
            have hb:=hl b (by simp)
            have hfb:flatB b=true:=by
             cases b <;> first | rfl | (have:=hb.2 _ (by simp [AV.cells];rfl);simp [scalB] at this)
            simp [fits,beq_iff,hb.1,hfb,ih (fun x hx=>hl x (by simp [hx]))]
          exact this _ h5.elem
      obtain ⟨news,hsr⟩:=hfits
      have had:ad=⟨p.blk,off * s,none⟩:=by
       rcases q13 with h0 | h0
       ·omega
       ·exact h0
      have hn:Nat.min ys.length len=(ys.take len).length:=by rw [List.length_take];exact Nat.min_comm _ _
      have hle:(ys.take len).length≤ys.length:=by rw [List.length_take];exact Nat.min_le_right _ _
      have hcells:=hsr.cells (ys.take len).length hle w rfl
      have hnl:(news.take ((ys.take len).length * s)).length=(ys.take len).length * s:=by
       rw [List.length_take,hsr.newsLen]
       exact Nat.min_eq_left (Nat.mul_le_mul_right _ hle)
      have hin2:InMem pl M (news.take ((ys.take len).length * s)).toArray 0 s (ys.take len):=by
       refine ⟨by simp only [List.size_toArray];rw [hnl];omega,fun x hx=>hsr.mem.elem x (List.mem_of_mem_take hx),fun i x j y hi hj=>?_⟩
       have hil:=(List.getElem?_eq_some_iff.1 hi).1
       have hil2:i<len:=by simp at hil;omega
       rw [List.getElem?_take_of_lt hil2] at hi
       have hjj:=(List.getElem?_eq_some_iff.1 hj).1
       rw [(hsr.mem.elem x (List.mem_of_getElem? hi)).1] at hjj
       have h5:(i+1) * s≤(ys.take len).length * s:=Nat.mul_le_mul_right _ hil
       rw [Nat.add_mul] at h5
       have h6:=hsr.mem.cell i x j y hi hj
       rw [Array.getD_eq_getD_getElem?,List.getElem?_toArray] at h6 ⊢
       rw [List.getElem?_take_of_lt (by omega)]
       exact h6
      obtain ⟨k1,k2,k3⟩:=write_ok (P:=P) (off:=off) hr hg q1 q3 q4 q5 q6 q7 q8 q9 q10 hin2 hnl (fun u hu=>hsr.one u (List.mem_of_mem_take hu)) (by simp;omega)
      rw [← had] at k1
      refine ⟨.int .i64 ((ys.take len).length:Int),_,?_,?_,k2,k3,Nat.le_refl _⟩
      ·clear hin2 hnl k2 k3 hle
       generalize (ys.take len).length=n at hn hcells k1
       simp [Builtin.copy_,hts,run_underlying ht,hsr.len,hn,run_sizeOf hsz,hcells,k1,goInt]
      ·have:(Int.ofNat (min ys.length len))=((ys.take len).length:Int):=by rw [← hn];rfl
       show VRel pl M (.int .i64 (Int.ofNat (min ys.length len))) _
       rw [this];exact .int _ _
    ·simp at he
   ·simp at he
  ·simp at he
theorem clearR_ok (hr:Rep pl M h w) {t e ty:TypeId} {s:Nat} {z:AV} (ht:P.underlying t=some (.slice e)) (hz:zeroA P e=some z) {x:AV} {cx:Value} (hx:VRel pl M x cx) {r:AV × AHeap}
  (he:clearR s z h (some x)=some r) {ts:Array TypeId} (hts:ts[0]? = some t) :
  ∃ cv w2,(Builtin.clear_ ts ty #[cx]).run P w = .ok cv w2∧VRel pl M r.1 cv∧Rep pl M r.2 w2∧Step h pl M w r.2 pl M w2∧h.n≤r.2.n:=by
 unfold clearR at he
 split at he
 ·rename_i id ep off len cap e0
  simp at e0
  subst e0
  split at he
  ·rename_i sz' op ep' xs hg
   rw [beq_iff,beq_iff] at he
   split at he
   ·rename_i hc
    simp at hc he
    obtain ⟨⟨c1,c2⟩,c3⟩:=hc
    subst c1;subst c2;subst he
    obtain ⟨p,c,t',ad,cap',q1,rfl,q3,q4,q5,q6,q7,q8,q9,q10,q11,q12,q13,q14,q15,q16,q17⟩:=slice_at hr hx hg
    obtain ⟨zv,hz1,hz2⟩:=run_zero hz
    have hzr:=ofValue_ok (pl:=pl) (M:=M) hz2
    have hzf:=fits_ok c3 z (by simp)
    have hzc:=hzr.cells
    have hzsz:zv.cells.size=s:=by rw [← hzc.len];exact hzf.1
    by_cases h0:len=0
    ·subst h0
     have hw:writeAt xs off (List.replicate 0 z)=xs:=by simp [writeAt]
     refine ⟨.tuple #[],w,by simp [Builtin.clear_,hts,run_underlying ht], .tuple rfl (fun j y h=>by simp at h),?_,?_,Nat.le_refl _⟩
     ·show Rep pl M (h.put id _) w
      rw [hw]
      exact (hr.samePut q1 hg).1
     ·show Step h pl M w (h.put id _) pl M w
      rw [hw]
      exact (hr.samePut q1 hg).2
    ·have had:ad=⟨p.blk,off * s,none⟩:=by
      rcases q13 with h9 | h9
      ·omega
      ·exact h9
     have hin:=inMem_replicate hzr hzf.2 len hzf.1 q8
     have hzl:(Builtin.zeroCells zv.cells len).toList.toArray=(Array.range (len * s)).map (zv.cells[· % zv.cells.size]!):=by
      apply Array.ext'
      simp [Builtin.zeroCells,hzsz]
     have hnl:(Builtin.zeroCells zv.cells len).toList.length=(List.replicate len z).length * s:=by simp [Builtin.zeroCells,hzsz]
     obtain ⟨k1,k2,k3⟩:=write_ok (P:=P) (off:=off) (ys:=List.replicate len z) (news:=(Builtin.zeroCells zv.cells len).toList) hr hg q1 q3 q4 q5 q6 q7 q8 q9 q10 (by rw [hzl];exact hin) hnl (by
      have hs:SrcRel P pl M w (.nilIface) (List.replicate len z) s (Builtin.zeroCells zv.cells len).toList→True:=fun _=>trivial
      intro u hu
      simp only [Builtin.zeroCells,Array.toList_map,List.mem_map] at hu
      obtain ⟨k,_,rfl⟩:=hu
      have hmod:k % zv.cells.size<zv.cells.size:=Nat.mod_lt _ (by omega)
      have:zv.cells[k % zv.cells.size]! = zv.cells[k % zv.cells.size]:=by simp [hmod]
      rw [this]
      exact hzc.one (hzr.sc hzf.2) _ (by simp)) (by simp;omega)
     rw [← had] at k1
     refine ⟨.tuple #[],_,?_, .tuple rfl (fun j y h=>by simp at h),k2,k3,Nat.le_refl _⟩
     obtain ⟨m,rfl⟩:=Nat.exists_eq_succ_of_ne_zero h0
     simp [Builtin.clear_,hts,run_underlying ht,hz1,k1]
   ·simp at he
  ·simp at he
 ·simp at he
end
end Go.Ev

namespace Go.Ev
open Go
section
variable {P : Program} {G : Env} {pl : Pl} {M : Mem} {h h' : AHeap} {w w' : World} {v : AV} {A : Fr} {a : Act}
theorem retH_some {o:Option (AV × AHeap)} {r:ARes} (e:retH o=some r) : ∃ p,o=some p∧r = .val p.1 p.2:=by
 cases o with
 | none=>simp [retH] at e
 | some p=>obtain ⟨v,h⟩:=p;simp [retH] at e;exact ⟨_,rfl,e.symm⟩
theorem bind_some {α β:Type} {o:Option α} {f:α→Option β} {b:β} (e:o.bind f=some b) : ∃ a,o=some a∧f a=some b:=by
 cases o with
 | none=>simp at e
 | some a=>exact ⟨a,rfl,by simpa using e⟩
theorem out_builtin {b:Builtin} {ts:Array TypeId} {args:Array Operand} {dst:Option Tmp} {ty:TypeId} {pos:String} {after:Array Edge} {guard:Option (Nat × Bool)} {s:Sem Value} {cv:Value} {pl':Pl} {M':Mem}
  (hb : ∀ cs,builtin b ts ty cs (args.map a.eval)=(do pure (.value (← s)))) (hrun:s.run P w = .ok cv w') (hv:VRel pl' M' v cv) (hr:Rep pl' M' h' w') (hs:Step h pl M w h' pl' M' w') (hn:h.n≤h'.n) :
  Out pl M h w ((execOp a.eval ⟨dst, .call ⟨.builtin b,args,ts⟩,ty,pos,after,guard⟩).run P w) v h':=by
 refine ⟨pl',M',cv,w', .value cv,?_, .inl rfl,hv,hr,hs,hn⟩
 simp only [execOp,resolve,Sem.run_bind,Sem.run_pure,Result.andThen_ok,invoke,hb,hrun]
theorem toList_one {args:Array Operand} {x:Operand} (h:args.toList = [x]):args = #[x]:=by
 apply Array.ext';simpa using h
theorem toList_two {args:Array Operand} {x y:Operand} (h:args.toList = [x,y]):args = #[x,y]:=by
 apply Array.ext';simpa using h
def mm:Bool→Value→Value→Sem Value
 | true=>Builtin.max2
 | false=>Builtin.min2
theorem minF_ok (mx:Bool) {k:IntKind} : ∀ (l:List AV) (a0:Int) (cs:List Value),VRels pl M l cs.toArray→minF mx k a0 l=some v→∃ r,v = .int k r∧∀ w:World,(cs.foldlM (mm mx) (.int k a0)).run P w = .ok (.int k r) w
 | [],a0,cs,hc,e=>by
  simp [minF] at e
  have:cs = []:=List.eq_nil_of_length_eq_zero (by have:=hc.len;simpa using this.symm)
  subst this
  exact ⟨a0,e.symm,fun w=>rfl⟩
 | x::r,a0,cs,hc,e=>by
  cases x with
  | int kb b=>
   simp only [minF,mxI,mnI] at e
   cases cs with
   | nil=>have:=hc.len;simp at this
   | cons c cr=>
    have h0:=hc.at_ 0 _ rfl
    simp [Array.getD] at h0
    cases h0
    obtain ⟨rr,h1,h2⟩:=minF_ok mx r _ cr ⟨by have:=hc.len;simpa using this,fun j y hj=>by
     have:=hc.at_ (j+1) y (by simpa using hj)
     simpa [Array.getD_eq_getD_getElem?] using this⟩ e
    refine ⟨rr,h1,fun w=>?_⟩
    rw [List.foldlM_cons]
    cases mx
    ·simp only [mm,Sem.run_bind,Builtin.min2,Sem.run_pure,Result.andThen_ok]
     have:=h2 w
     simp only [ltI_eq] at this
     rw [← this]
     by_cases hh:b<a0 <;> simp [hh,mm]
    ·simp only [mm,Sem.run_bind,Builtin.max2,Sem.run_pure,Result.andThen_ok]
     have:=h2 w
     simp only [ltI_eq] at this
     rw [← this]
     by_cases hh:a0<b <;> simp [hh,mm]
  | _=>simp [minF] at e
theorem ok_builtin (b:Builtin) (args:Array Operand) (ts:Array TypeId):OkOp P G (.call ⟨.builtin b,args,ts⟩):=by
 intro pl M A h v h' a w dst ty pos after guard hg hr hf he
 simp only [opR] at he
 unfold builtinOp at he
 split at he
 ·
  rename_i x hargs
  have hargs:=toList_one hargs
  subst hargs
  split at he
  ·rename_i ht
   obtain ⟨t,ht0,ht1⟩:=bind_some ht
   obtain ⟨u,e1,e2⟩:=retV_some he
   simp at e2
   obtain ⟨rfl,rfl⟩:=e2
   cases hx:(opd G x).run A with
   | none=>simp [hx,lenStr] at e1
   | some xv=>
    have hxv:=opd_ok hg hf hx
    rw [hx] at e1
    cases xv <;> simp [lenStr] at e1
    subst e1
    generalize hq:a.eval x=cx at hxv
    cases hxv
    rename_i l
    refine out_builtin (s:=Builtin.len_ ts ty #[.string ⟨⟨l⟩⟩]) (cv:= .int .i64 (l.length:Int)) (fun cs=>by simp [builtin,hq]) ?_ (.int _ _) hr (Step.refl _ _ _ _) (Nat.le_refl _)
    simp [Builtin.len_,ht0,run_underlying ht1,goInt]
    rfl
  ·rename_i e' ht
   obtain ⟨t,ht0,ht1⟩:=bind_some ht
   obtain ⟨u,e1,e2⟩:=retV_some he
   simp at e2
   obtain ⟨rfl,rfl⟩:=e2
   cases hx:(opd G x).run A with
   | none=>simp [hx,lenSl] at e1
   | some xv=>
    have hxv:=opd_ok hg hf hx
    rw [hx] at e1
    have key : ∃ ad n c,a.eval x = .slice ad n c∧v = .int .i64 (Int.ofNat n):=by
     generalize a.eval x=cx at hxv
     cases xv <;> simp [lenSl] at e1
     case ls xs=>
      subst e1
      cases hxv with
      | lsn=>exact ⟨_,_,_,rfl,rfl⟩
      | lsp h _=>cases h;exact ⟨_,_,_,rfl,rfl⟩
     all_goals (subst e1;cases hxv;exact ⟨_,_,_,rfl,rfl⟩)
    obtain ⟨ad,n,c,hq,rfl⟩:=key
    refine out_builtin (s:=Builtin.len_ ts ty #[.slice ad n c]) (cv:= .int .i64 (Int.ofNat n)) (fun cs=>by simp [builtin,hq]) ?_ (.int _ _) hr (Step.refl _ _ _ _) (Nat.le_refl _)
    simp [Builtin.len_,ht0,run_underlying ht1,goInt]
  ·rename_i k' e' ht
   obtain ⟨t,ht0,ht1⟩:=bind_some ht
   obtain ⟨u,e1,e2⟩:=retV_some he
   simp at e2
   obtain ⟨rfl,rfl⟩:=e2
   cases hx:(opd G x).run A with
   | none=>simp [hx,lenMap] at e1
   | some xv=>
    have hxv:=opd_ok hg hf hx
    rw [hx] at e1
    unfold lenMap at e1
    split at e1
    ·rename_i q
     simp at q
     subst q
     simp at e1
     subst e1
     generalize hq:a.eval x=cx at hxv
     cases hxv
     refine out_builtin (s:=Builtin.len_ ts ty #[.map none]) (cv:= .int .i64 0) (fun cs=>by simp [builtin,hq]) ?_ (.int _ _) hr (Step.refl _ _ _ _) (Nat.le_refl _)
     simp [Builtin.len_,ht0,run_underlying ht1,goInt]
    ·rename_i id q
     simp at q
     subst q
     split at e1
     ·rename_i es clock hgo
      simp at e1
      subst e1
      generalize hq:a.eval x=cx at hxv
      cases hxv with
      | map hp ha=>
       rename_i r p
       have ho:=hr.obj id p _ hp hgo
       cases hb:w.heap[p.blk]? with
       | none=>rw [hb] at ho;simp [ObjRel] at ho
       | some ob=>
        rw [hb] at ho
        cases ob <;> simp only [ObjRel] at ho
        rename_i entries clock'
        obtain ⟨h1,h2,h3,h4⟩:=ho
        have hrb:=ha h1
        subst hrb
        refine out_builtin (s:=Builtin.len_ ts ty #[.map (some p.blk)]) (cv:= .int .i64 (Int.ofNat es.length)) (fun cs=>by simp [builtin,hq]) ?_ (.int _ _) hr (Step.refl _ _ _ _) (Nat.le_refl _)
        simp [Builtin.len_,ht0,run_underlying ht1,goInt,getObj,Sem.run,hb,h3]
     ·simp at e1
    ·simp at e1
  ·exact (fail_run he).elim
 ·
  rename_i x hargs
  have hargs:=toList_one hargs
  subst hargs
  split at he
  ·rename_i e' ht
   obtain ⟨t,ht0,ht1⟩:=bind_some ht
   obtain ⟨u,e1,e2⟩:=retV_some he
   simp at e2
   obtain ⟨rfl,rfl⟩:=e2
   cases hx:(opd G x).run A with
   | none=>simp [hx,capR] at e1
   | some xv=>
    have hxv:=opd_ok hg hf hx
    rw [hx] at e1
    have key : ∃ ad n c,a.eval x = .slice ad n c∧v = .int .i64 (Int.ofNat c):=by
     generalize a.eval x=cx at hxv
     unfold capR at e1
     split at e1 <;> simp at e1 <;> subst e1
     ·rename_i q;simp at q;subst q;cases hxv;exact ⟨_,_,_,rfl,rfl⟩
     ·rename_i q;simp at q;subst q
      cases hxv with
      | ps hl ht hm hs hc=>exact ⟨_,_,_,rfl,by rw [ht rfl];rfl⟩
     ·rename_i q;simp at q;subst q
      cases hxv with
      | slice hp hle hl hk ha=>exact ⟨_,_,_,rfl,by rw [hk _ rfl];rfl⟩
    obtain ⟨ad,n,c,hq,rfl⟩:=key
    refine out_builtin (s:=Builtin.cap_ ts ty #[.slice ad n c]) (cv:= .int .i64 (Int.ofNat c)) (fun cs=>by simp [builtin,hq]) ?_ (.int _ _) hr (Step.refl _ _ _ _) (Nat.le_refl _)
    simp [Builtin.cap_,ht0,run_underlying ht1,goInt]
  ·exact (fail_run he).elim
 ·
  rename_i s x hargs
  have hargs:=toList_two hargs
  subst hargs
  split at he
  ·rename_i e tx ht htx
   obtain ⟨t,ht0,ht1⟩:=bind_some ht
   obtain ⟨t2,ht2,ht3⟩:=bind_some htx
   have key : ∀ i:TypeInfo,P.info? e=some i→((∃ e',P.underlying t2=some (.slice e'))∨P.underlying t2=some .string)→
     (match i.size,zeroA P e with
      | sz+1,some z=>match Nat.beq z.cells.length (sz+1) with
       | true=>(⟨fun A h=>retH (appendO (sz+1) i.bytes h ((opd G s).run A) ((opd G x).run A))⟩:ROp)
       | false=>fail
      | _,_=>fail).run A h=some (.val v h')→Out pl M h w ((execOp a.eval ⟨dst, .call ⟨.builtin .append,#[s,x],ts⟩,ty,pos,after,guard⟩).run P w) v h':=by
    intro i hi hk he
    split at he
    ·rename_i sz z hsz hz
     rw [beq_iff] at he
     split at he
     ·rename_i hzl
      simp at hzl
      obtain ⟨p,e1,e2⟩:=retH_some he
      simp at e2
      obtain ⟨rfl,rfl⟩:=e2
      cases hs:(opd G s).run A with
      | none=>simp [hs,appendO] at e1
      | some sv=>
       cases hx:(opd G x).run A with
       | none=>simp [hs,hx,appendO] at e1
       | some xv=>
        rw [hs,hx] at e1
        simp only [appendO] at e1
        have hsz:i.size=sz+1:=hsz
        rw [← hsz] at e1 hzl
        obtain ⟨i2,zv,hz1,hz2,hz3⟩:=zeroA_info hz
        rw [hi] at hz1
        simp at hz1
        subst hz1
        have hzc:=(ofValue_ok (pl:=pl) (M:=M) hz3).cells.len
        obtain ⟨cv,w2,pl2,k1,k2,k3,k4,k5⟩:=appendV_ok (P:=P) (ty:=ty) hr (elemOf_some ht1) hi hz2 (by rw [← hzc];exact hzl) (by omega) hk (opd_ok hg hf hs) (opd_ok hg hf hx) e1
        refine out_builtin (s:=Builtin.append_ ts ty #[a.eval s,a.eval x]) (fun cs=>by simp [builtin]) (by rw [append_types ht0 ht2];exact k1) k2 k3 k4 k5
     ·exact (fail_run he).elim
    ·exact (fail_run he).elim
   cases hi:P.info? e with
   | none=>rw [hi] at he;cases tx <;> exact (fail_run he).elim
   | some i=>
    rw [hi] at he
    cases tx <;> try exact (fail_run he).elim
    case slice e'=>exact key i hi (.inl ⟨e',ht3⟩) he
    case string=>exact key i hi (.inr ht3) he
  ·exact (fail_run he).elim
 ·
  rename_i d s hargs
  have hargs:=toList_two hargs
  subst hargs
  split at he
  ·rename_i e ht
   obtain ⟨t,ht0,ht1⟩:=bind_some ht
   split at he
   ·rename_i n hsz
    obtain ⟨p,e1,e2⟩:=retH_some he
    simp at e2
    obtain ⟨rfl,rfl⟩:=e2
    cases hd:(opd G d).run A with
    | none=>simp [hd,copyO] at e1
    | some dv=>
     cases hs:(opd G s).run A with
     | none=>simp [hd,hs,copyO] at e1
     | some sv=>
      rw [hd,hs] at e1
      obtain ⟨cv,w2,k1,k2,k3,k4,k5⟩:=copyO_ok (P:=P) (ty:=ty) hr (elemOf_some ht1) hsz (opd_ok hg hf hd) (opd_ok hg hf hs) e1 ht0
      exact out_builtin (s:=Builtin.copy_ ts ty #[a.eval d,a.eval s]) (fun cs=>by simp [builtin]) k1 k2 k3 k4 k5
   ·exact (fail_run he).elim
  ·exact (fail_run he).elim
 ·
  rename_i x hargs
  have hargs:=toList_one hargs
  subst hargs
  split at he
  ·rename_i e ht
   obtain ⟨t,ht0,ht1⟩:=bind_some ht
   split at he
   ·rename_i n z hsz hz
    obtain ⟨p,e1,e2⟩:=retH_some he
    simp at e2
    obtain ⟨rfl,rfl⟩:=e2
    cases hx:(opd G x).run A with
    | none=>simp [hx,clearR] at e1
    | some xv=>
     rw [hx] at e1
     obtain ⟨cv,w2,k1,k2,k3,k4,k5⟩:=clearR_ok (P:=P) (ty:=ty) hr (elemOf_some ht1) hz (opd_ok hg hf hx) e1 ht0
     exact out_builtin (s:=Builtin.clear_ ts ty #[a.eval x]) (fun cs=>by simp [builtin]) k1 k2 k3 k4 k5
   ·exact (fail_run he).elim
  ·exact (fail_run he).elim
 ·
  simp only [] at he
  split at he
  ·rename_i l hl
   obtain ⟨u,e1,e2⟩:=retV_some he
   simp at e2
   obtain ⟨rfl,rfl⟩:=e2
   have hvs:=opds_ok hg hf _ _ hl
   unfold minR at e1
   split at e1
   ·rename_i k a0 r
    cases hargs:args.toList with
    | nil=>rw [hargs] at hvs;have:=hvs.len;simp at this
    | cons x xs=>
     rw [hargs] at hvs
     have h0:=hvs.at_ 0 _ rfl
     simp [Array.getD] at h0
     generalize hq:a.eval x=cx at h0
     cases h0
     obtain ⟨rr,h1,h2⟩:=minF_ok (P:=P) false r a0 (xs.map a.eval) ⟨by have:=hvs.len;simpa using this,fun j y hj=>by
      have:=hvs.at_ (j+1) y (by simpa using hj)
      simpa [Array.getD_eq_getD_getElem?] using this⟩ e1
     subst h1
     have hm:(args.map a.eval).toList = .int k a0::xs.map a.eval:=by simp [hargs,hq]
     refine out_builtin (s:=Builtin.min_ ts ty (args.map a.eval)) (cv:= .int k rr) (fun cs=>rfl) ?_ (.int _ _) hr (Step.refl _ _ _ _) (Nat.le_refl _)
     simp only [Builtin.min_,hm]
     exact h2 w
   ·simp at e1
  ·simp at he
 ·
  simp only [] at he
  split at he
  ·rename_i l hl
   obtain ⟨u,e1,e2⟩:=retV_some he
   simp at e2
   obtain ⟨rfl,rfl⟩:=e2
   have hvs:=opds_ok hg hf _ _ hl
   unfold minR at e1
   split at e1
   ·rename_i k a0 r
    cases hargs:args.toList with
    | nil=>rw [hargs] at hvs;have:=hvs.len;simp at this
    | cons x xs=>
     rw [hargs] at hvs
     have h0:=hvs.at_ 0 _ rfl
     simp [Array.getD] at h0
     generalize hq:a.eval x=cx at h0
     cases h0
     obtain ⟨rr,h1,h2⟩:=minF_ok (P:=P) true r a0 (xs.map a.eval) ⟨by have:=hvs.len;simpa using this,fun j y hj=>by
      have:=hvs.at_ (j+1) y (by simpa using hj)
      simpa [Array.getD_eq_getD_getElem?] using this⟩ e1
     subst h1
     have hm:(args.map a.eval).toList = .int k a0::xs.map a.eval:=by simp [hargs,hq]
     refine out_builtin (s:=Builtin.max_ ts ty (args.map a.eval)) (cv:= .int k rr) (fun cs=>rfl) ?_ (.int _ _) hr (Step.refl _ _ _ _) (Nat.le_refl _)
     simp only [Builtin.max_,hm]
     exact h2 w
   ·simp at e1
  ·simp at he
 ·exact (fail_run he).elim
end
end Go.Ev
