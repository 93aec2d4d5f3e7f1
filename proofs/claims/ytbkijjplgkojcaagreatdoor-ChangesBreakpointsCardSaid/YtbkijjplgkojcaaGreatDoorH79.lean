/- Functions walked: what each of them answers, for the law of the breakpoints. Conditions: those that each theorem names. -/
import Derived.Test.YtbkijjplgkojcaaGreatDoorH78
import Derived.Test.YtbkijjplgkojcaaGreatDoorMach6
namespace Go.Proofs.YtbkijjplgkojcaaGreatDoor
open Go Go.Ev
theorem idxA_none {n:Int} : ∀ {l:List PAct} {i:Nat},(∀ b,b∈l→b.number≠n)→∀ (w:PAct) (r:List PAct),w.number=n→idxA n (l++w::r) i=Int.ofNat (i+l.length)
  | [],i,_,w,r,hw=>idxA_y (by rw [hw];exact eqI_refl n)
  | a::t,i,h,w,r,hw=>by
    have ha:eqI a.number n=false:=by
      cases q:eqI a.number n with
      | false=>rfl
      | true=>exact absurd (eqI_t q) (h a (List.mem_cons_self ..))
    rw [List.cons_append,idxA_n ha,idxA_none (l:=t) (fun b hb=>h b (List.mem_cons_of_mem _ hb)) w r hw]
    congr 1;simp only [lC];omega
theorem idxA_some {n:Int} : ∀ {l:List PAct} {i:Nat} {b:PAct},b∈l→b.number=n→∀ (r:List PAct),idxA n (l++r) i<Int.ofNat (i+l.length)
  | a::t,i,b,hb,hn,r=>by
    cases q:eqI a.number n with
    | true=>rw [List.cons_append,idxA_y q];simp only [oN,lC];omega
    | false=>
      rw [List.cons_append,idxA_n q]
      rcases List.mem_cons.1 hb with e | e
      · rw [← e,hn,eqI_refl] at q;cases q
      · have:=idxA_some (i:=i+1) e hn r
        simp only [oN,lC] at *;omega
theorem getI_some {k:Int} {out:List PAct} {b:PAct} (hb:b∈out) (hk:b.number=k):getI k (numsOf out)≠none:=fun e=>getI_none e b hb hk
theorem getI_not {k:Int} : ∀ {out:List PAct},(∀ b,b∈out→b.number≠k)→getI k (numsOf out)=none
  | [],_=>rfl
  | c::r,h=>by
    have hc:eqI k c.number=false:=by
      cases q:eqI k c.number with
      | false=>rfl
      | true=>exact absurd (eqI_t q).symm (h c (List.mem_cons_self ..))
    have:=getI_not (out:=r) fun b hb=>h b (List.mem_cons_of_mem _ hb)
    simp only [numsOf,List.map_cons,getI,hc];exact this
theorem tells_num {n:Int} : ∀ (p out:List PAct),(∃ b,b∈p.foldl tell out∧b.number=n)↔((∃ b,b∈out∧b.number=n)∨∃ b,b∈p∧b.number=n)
  | [],out=>by simp
  | a::r,out=>by
    rw [List.foldl_cons,tells_num r (tell out a)]
    constructor
    · rintro (⟨b,h1,h2⟩ | ⟨b,h1,h2⟩)
      · unfold tell at h1
        split at h1
        · exact .inl ⟨b,h1,h2⟩
        · rcases List.mem_append.1 h1 with q | q
          · exact .inl ⟨b,q,h2⟩
          · exact .inr ⟨b,by rw [List.mem_singleton.1 q];exact List.mem_cons_self ..,h2⟩
      · exact .inr ⟨b,List.mem_cons_of_mem _ h1,h2⟩
    · rintro (⟨b,h1,h2⟩ | ⟨b,h1,h2⟩)
      · refine .inl ⟨b,?_,h2⟩
        unfold tell;split
        · exact h1
        · exact List.mem_append_left _ h1
      · rcases List.mem_cons.1 h1 with e | e
        · cases q:getI a.number (numsOf out) with
          | none=>
            refine .inl ⟨a,?_,by rw [← h2,e]⟩
            rw [tell_new (by rw [q];rfl)];exact List.mem_append_right _ (List.mem_singleton.2 rfl)
          | some v=>
            rw [tell_old (by rw [q];rfl)]
            by_cases c : ∃ b,b∈out∧b.number=a.number
            · obtain ⟨c0,c1,c2⟩:=c
              exact .inl ⟨c0,c1,by rw [c2,← h2,e]⟩
            · exfalso
              have:getI a.number (numsOf out)=none:=getI_not fun b hb hn=>c ⟨b,hb,hn⟩
              rw [this] at q;cases q
        · exact .inr ⟨b,e,h2⟩
/-- The acts that are told of so far, in legal order. -/
def ActI (L r out:List PAct):Prop:=∃ p,L=p++r∧out=sortB actLt (p.foldl tell [])
theorem ActI.start (L:List PAct):ActI L L []:=⟨[],rfl,rfl⟩
theorem ActI.idx {L r out:List PAct} {w:PAct} {i:Nat} (hd:L.drop i=w::r) : ∀ p,L=p++w::r→p.length=i:=fun p hp=>by
  have h1:=congrArg List.length hd
  have h2:=congrArg List.length hp
  rw [List.length_drop] at h1
  rw [lA] at h2
  simp only [lC] at h1 h2;omega
theorem ActI.old {L r out:List PAct} {w:PAct} {i:Nat} (h:ActI L (w::r) out) (hd:L.drop i=w::r) (hn:eqI (idxA w.number L 0) (Int.ofNat i)=false):ActI L r out:=by
  obtain ⟨p,hp,ho⟩:=h
  have hi:=ActI.idx (out:=out) hd p hp
  refine ⟨p++ [w],by rw [hp,List.append_assoc];rfl,?_⟩
  rw [List.foldl_append,List.foldl_cons,List.foldl_nil,ho]
  have hg : ∃ b,b∈p∧b.number=w.number:=by
    refine Classical.byContradiction fun c=>?_
    have e:=idxA_none (n:=w.number) (l:=p) (i:=0) (fun b hb hn=>c ⟨b,hb,hn⟩) w r rfl
    rw [← hp,Nat.zero_add,hi] at e
    rw [e,eqI_refl] at hn;cases hn
  obtain ⟨b,hb,hbn⟩:=(tells_num (n:=w.number) p []).2 (.inr hg)
  have hs:=getI_some hb hbn
  rw [tell_old (by cases q:getI w.number (numsOf (p.foldl tell [])) with | none=>exact absurd q hs | some v=>rfl)]
theorem ActI.new {L r out:List PAct} {w:PAct} {i:Nat} (h:ActI L (w::r) out) (hd:L.drop i=w::r) (hn:eqI (idxA w.number L 0) (Int.ofNat i)=true):ActI L r (insB actLt w out):=by
  obtain ⟨p,hp,ho⟩:=h
  have hi:=ActI.idx (out:=out) hd p hp
  refine ⟨p++ [w],by rw [hp,List.append_assoc];rfl,?_⟩
  rw [List.foldl_append,List.foldl_cons,List.foldl_nil,ho]
  have hg : ∀ b,b∈p.foldl tell []→b.number≠w.number:=by
    intro b hb hbn
    rcases (tells_num (n:=w.number) p []).1 ⟨b,hb,hbn⟩ with ⟨c,c1,_⟩ | ⟨c,c1,c2⟩
    · cases c1
    · have e:=idxA_some (i:=0) c1 c2 (w::r)
      rw [← hp,Nat.zero_add,hi,eqI_t hn] at e
      omega
  rw [tell_new (by rw [getI_not hg];rfl)]
  unfold sortB
  rw [List.foldl_append];rfl
theorem ActI.len {L r out:List PAct} (h:ActI L r out):out.length+r.length≤L.length:=by
  obtain ⟨p,hp,ho⟩:=h
  have h1 : ∀ (ys o:List PAct),(ys.foldl tell o).length≤o.length+ys.length:=by
    intro ys
    induction ys with
    | nil=>intro o;simp
    | cons a r ih=>intro o;simp only [List.foldl_cons,lC];have:=ih (tell o a);have:=(tell_len o a).2;omega
  have h2:=h1 p []
  rw [ho,(sortB_perm actTot _).length_eq,hp,lA]
  simp only [lN] at h2;omega
theorem ActI.done {gs:List PGaz} {out:List PAct} (h:ActI (allA gs) [] out):out=actsL gs:=by
  obtain ⟨p,hp,ho⟩:=h
  rw [List.append_nil] at hp
  rw [ho,← hp,← firsts_all];rfl
theorem ins_cut {w:PAct} {out:List PAct} {k:Nat} (hj : ∀ j,j<k→actLt (gD out j) w=true) (hk:k<out.length) (h:actLt (gD out k) w=false):insB actLt w out=(out.set k w).take (k+1)++out.drop k:=by
  rw [set_cut hk];exact insB_at hj (Nat.le_of_lt hk) fun _=>h
theorem ins_end {w:PAct} {out:List PAct} {k:Nat} (hj : ∀ j,j<k→actLt (gD out j) w=true) (hk:k≤out.length) (hl:out.length≤k):insB actLt w out=out++ [w]:=by
  rw [insB_at hj hk fun h=>absurd h (Nat.not_lt.2 hl),List.take_of_length_le hl,List.drop_eq_nil_of_le hl]
theorem lt_step {w:PAct} {out:List PAct} {k e:Nat} (hj : ∀ j,j<k→actLt (gD out j) w=true) (h:actLt (gD out k) w=true) (he:e=k+1) : ∀ j,j<e→actLt (gD out j) w=true:=fun j q=>by
  rcases Nat.lt_or_ge j k with c | c
  · exact hj j c
  · rw [show j=k by omega];exact h
def acts28_e0_0I (L:List PAct) (x0:Nat × List PAct × Unit):Prop:=(L).drop x0.1=x0.2.1∧ActI L x0.2.1 []
noncomputable def acts28_e0_0S (L:List PAct) (x0:Nat × List PAct × Unit):List AV × List AObj:=([AV.ls (List.map encAct L),AV.ps [] true,nA (x0.1)], [])
def acts28_e0_1I (L:List PAct) (x0:Nat × List PAct × Nat × Nat × List PAct):Prop:=(L).drop x0.1=x0.2.1∧x0.2.2.2.1=x0.2.2.2.2.length∧0<x0.2.2.2.2.length∧ActI L x0.2.1 x0.2.2.2.2
noncomputable def acts28_e0_1S (L:List PAct) (x0:Nat × List PAct × Nat × Nat × List PAct):List AV × List AObj:=([AV.ls (List.map encAct L),AV.slice 0 x0.2.2.1 0 x0.2.2.2.1 none,nA (x0.1)], [AObj.row 7 true x0.2.2.1 (List.map encAct x0.2.2.2.2)])
def acts28_e3I (L:List PAct) (x0:Nat × List PAct × Nat × Nat × List PAct) (w0:PAct) (x1:Nat):Prop:=x1≤x0.2.2.2.2.length∧∀ (j:Nat),j<x1→actLt (gD x0.2.2.2.2 j) w0=true
noncomputable def acts28_e3S (L:List PAct) (x0:Nat × List PAct × Nat × Nat × List PAct) (w0:PAct) (x1:Nat):List AV × List AObj:=([AV.ls (List.map encAct L),AV.slice 0 x0.2.2.1 0 x0.2.2.2.1 none,nA (x0.1),nA (x1)], [AObj.row 7 true x0.2.2.1 (List.map encAct x0.2.2.2.2)])
theorem acts28_ok (gs:List PGaz) (hg:gs.length<900) (hl:(allA gs).length<10000):HPure Tryz.prog G 43 [.ls (gs.map encGaz)] (.ls ((actsL gs).map encAct)):=by
  have ha:=all_ok gs hg hl
  have hdone : ∀ out,ActI (allA gs) [] out→out=actsL gs:=fun out h=>h.done
  generalize allA gs=L at *
  exact HPure.walk mixed gtop (ev 40) (by kernel_rfl) (by kernel_rfl) (fn:=Tryz.f43) Tryz.func43 (by kernel_rfl) rfl ⟨by kernel_rfl,by kernel_rfl⟩ (.go 1 (.pure (AV.ls (List.map encAct L)) (.go 3 (.loop2 (Nat × List PAct × Unit) (Nat × List PAct × Nat × Nat × List PAct) [3,4,5] (acts28_e0_0S L) (acts28_e0_1S L) (acts28_e0_0I L) (acts28_e0_1I L) (fun x=>x.2.1.length) (fun x=>x.2.1.length) (.inl (0,L,())) (fun x0=> .cs (PAct) x0.2.1 (.go 2 (.le 13 (nA (L.length)) (.go 0 (.ff (.go 1 .fin))))) (fun w0 r0=>(.go 2 (.le 13 (nA (L.length)) (.go 0 (.tt (.go 2 (.elem (encAct w0) (.go 1 (.pure (iA (idxA w0.number L 0)) (.go 1 (.br (.go 1 (.le 16 (nA ((x0.1+1))) (.go 0 .fin))) (.go 0 (.loop Unit [3,4,5,6] (fun _=>([AV.ls (List.map encAct L),AV.ps [] true,nA (x0.1),iA 0], [])) (fun _=>True) (fun _=>0) () (fun _=>(.go 17 (.elem (encAct w0) (.go 7 (.le 16 (nA ((x0.1+1))) (.go 0 .fin)))))))))))))))))))) (fun x0=> .cs (PAct) x0.2.1 (.go 2 (.le 13 (nA (L.length)) (.go 0 (.ff (.go 1 (.fsl 0 [] 2 (List.map encAct x0.2.2.2.2) (.le 2 (AV.ls (List.map encAct x0.2.2.2.2)) .fin))))))) (fun w0 r0=>(.go 2 (.le 13 (nA (L.length)) (.go 0 (.tt (.go 2 (.elem (encAct w0) (.go 1 (.pure (iA (idxA w0.number L 0)) (.go 1 (.br (.go 1 (.le 16 (nA ((x0.1+1))) (.go 0 .fin))) (.go 0 (.loop (Nat) [3,4,5,6] (acts28_e3S L x0 w0) (acts28_e3I L x0 w0) (fun x=>x0.2.2.2.2.length - x) (0) (fun x1=>(.go 4 (.br (.go 0 (.tt (.go 0 (.tt (.rix (.tt (.rld (encAct (gD x0.2.2.2.2 x1)) (.tt (.go 0 (.tt (.go 0 (.tt (.elem (encAct w0) (.tt (.go 0 (.tt (.pure (AV.bool (actLt (gD x0.2.2.2.2 x1) w0)) (.pk true (.br (.go 1 (.le 42 (nA ((x1+1))) (.go 0 .fin))) (.go 2 (.slc (.opv (AV.slice 1 0 0 (subO x0.2.2.2.1 x1) none) (mkH [AObj.row 7 true x0.2.2.1 (List.map encAct x0.2.2.2.2),AObj.row 7 true 0 (List.map encAct (List.drop x1 x0.2.2.2.2))]) (.go 2 (.slc (.go 1 (.elem (encAct w0) (.go 1 (.opv (AV.slice 0 x0.2.2.1 0 (x1+1) none) (AHeap.put (AHeap.mk 2 (onlyT (mkH [AObj.row 7 true x0.2.2.1 (List.map encAct x0.2.2.2.2),AObj.row 7 true 0 (List.map encAct (List.drop x1 x0.2.2.2.2))]) ([0]) Tr.nil)) 0 (AObj.row 7 true x0.2.2.1 (List.map encAct (x0.2.2.2.2.set x1 w0)))) (.go 0 (.opv (AV.slice 0 (x0.2.2.1+1) 0 (x1+1+(List.map encAct (List.drop x1 x0.2.2.2.2)).length) none) (AHeap.put (AHeap.mk 2 (onlyT (mkH [AObj.row 7 true x0.2.2.1 (List.map encAct (x0.2.2.2.2.set x1 w0)),AObj.row 7 true 0 (List.map encAct (List.drop x1 x0.2.2.2.2))]) ([0,1]) Tr.nil)) 0 (AObj.row 7 true (x0.2.2.1+1) (List.map encAct (List.take (x1+1) (x0.2.2.2.2.set x1 w0)++List.drop x1 x0.2.2.2.2)))) (.go 2 (.le 16 (nA ((x0.1+1))) (.go 0 (.frz 1 [3,4,5] .fin)))))))))))))))))))))))))))))))))) (.ff (.ff (.ff (.ff (.ff (.ff (.ff (.ff (.pk false (.go 3 (.slc (.opv (AV.ps [] true) (mkH [AObj.row 7 true x0.2.2.1 (List.map encAct x0.2.2.2.2)]) (.go 2 (.slc (.go 1 (.elem (encAct w0) (.go 1 (.apx (List.map encAct (x0.2.2.2.2++ [w0])) (.go 0 (.app (.go 2 (.le 16 (nA ((x0.1+1))) (.go 0 .fin)))))))))))))))))))))))))))))))))))))))))))) (et5 (ha) (Eq.refl ((acts28_e0_0S L) (0,L,()))) (et (rfl:List.drop 0 (L)=L) (by (exact ActI.start L):(ActI L L []))) (fun (x0:Nat × List PAct × Unit) (hx0:(acts28_e0_0I L) x0)=>et (fun (hr0:x0.2.1 = [])=>have lt0:=rng_nil hx0.1 hr0;have hj0:ActI L [] []:=rng_j0 (J:=fun r x=>ActI L r []) (a:=x0.2.2) hr0 hx0.2;(et3 (Le.len (f:=encAct) (l:=L)) lt0 ((Le.lsp (by (rw [← hdone _ hj0];rfl):(List.map encAct (actsL gs))=([])) (by rfl)):Le _ (AV.ps [] true)))) (fun (w0:PAct) (r0:List PAct) (hr0:x0.2.1=w0::r0)=>have lt0:=rng_lt hx0.1 hr0;have glt0:=ltI_true lt0;have nt0:=rng_nth (enc:=encAct) hx0.1 hr0;have hj0:ActI L (w0::r0) []:=rng_j1 (J:=fun r x=>ActI L r []) (a:=x0.2.2) hr0 hx0.2;(et6 (Le.len (f:=encAct) (l:=L)) lt0 nt0 (first_ok L (w0.number) (by (omega))) (fun (z:(bnot (eqI (idxA w0.number L 0) (Int.ofNat x0.1)))=true)=>have h1:(eqI (idxA w0.number L 0) (Int.ofNat x0.1))=false:=(of_bnotT z);(have gh1:=eqI_f h1;(et (Le.wn (x:=Int.ofNat x0.1+(1:Int)) (n:=x0.1+1) (by (simp only [oN,lM,lS] at *;omega))) (Nx.mk (I:=(Sum.elim (acts28_e0_0I L) (acts28_e0_1I L))) (m:=(Sum.elim (fun x=>x.2.1.length) (fun x=>x.2.1.length))) (S:=(Sum.elim (acts28_e0_0S L) (acts28_e0_1S L))) (x:=(.inl x0)) (.inl (x0.1+1,r0,())) (et (rng_succ hx0.1 hr0) (by exact hj0.old (hx0.1.trans hr0) (by assumption):(ActI L r0 []))) (rng_m hr0))))) (fun (z:(bnot (eqI (idxA w0.number L 0) (Int.ofNat x0.1)))=false)=>have h1:(eqI (idxA w0.number L 0) (Int.ofNat x0.1))=true:=(of_bnotF z);(have gh1:=eqI_t h1;(et3 (Eq.refl (([AV.ls (List.map encAct L),AV.ps [] true,nA (x0.1),iA 0], []):List AV × List AObj)) True.intro (fun (_:Unit) (_:True)=>(et3 nt0 (Le.wn (x:=Int.ofNat x0.1+(1:Int)) (n:=x0.1+1) (by (simp only [oN,lM,lS] at *;omega))) (Nx.mk (I:=(Sum.elim (acts28_e0_0I L) (acts28_e0_1I L))) (m:=(Sum.elim (fun x=>x.2.1.length) (fun x=>x.2.1.length))) (S:=(Sum.elim (acts28_e0_0S L) (acts28_e0_1S L))) (x:=(.inl x0)) (.inr (x0.1+1,r0,(0,1, [w0]))) (et (rng_succ hx0.1 hr0) (by exact ⟨rfl,by simp,hj0.new (hx0.1.trans hr0) (by assumption)⟩:(1 = [w0].length∧0 < [w0].length∧ActI L r0 [w0]))) (rng_m hr0)))))))))) (fun (x0:Nat × List PAct × Nat × Nat × List PAct) (hx0:(acts28_e0_1I L) x0)=>et (fun (hr0:x0.2.1 = [])=>have lt0:=rng_nil hx0.1 hr0;have hj0:x0.2.2.2.1=x0.2.2.2.2.length∧0<x0.2.2.2.2.length∧ActI L [] x0.2.2.2.2:=rng_j0 (J:=fun r x=>x.2.1=x.2.2.length∧0<x.2.2.length∧ActI L r x.2.2) (a:=x0.2.2) hr0 hx0.2;(et6 (Le.len (f:=encAct) (l:=L)) lt0 True.intro (et3 (Eq.refl (x0.2.2.1)) (takeAll (f:=encAct) (l:=x0.2.2.2.2) (n:=x0.2.2.2.1) (by (omega):(x0.2.2.2.2).length=x0.2.2.2.1)) (tops_map Go.Ev.encAct_top (x0.2.2.2.2))) (Le.ps (List.map encAct x0.2.2.2.2) false (tops_map Go.Ev.encAct_top (x0.2.2.2.2))) ((Le.lsl (by (rw [hdone _ hj0.2.2]):(List.map encAct (actsL gs))=(List.map encAct x0.2.2.2.2))):Le _ (AV.ls (List.map encAct x0.2.2.2.2))))) (fun (w0:PAct) (r0:List PAct) (hr0:x0.2.1=w0::r0)=>have lt0:=rng_lt hx0.1 hr0;have glt0:=ltI_true lt0;have nt0:=rng_nth (enc:=encAct) hx0.1 hr0;have hj0:x0.2.2.2.1=x0.2.2.2.2.length∧0<x0.2.2.2.2.length∧ActI L (w0::r0) x0.2.2.2.2:=rng_j1 (J:=fun r x=>x.2.1=x.2.2.length∧0<x.2.2.length∧ActI L r x.2.2) (a:=x0.2.2) hr0 hx0.2;(et6 (Le.len (f:=encAct) (l:=L)) lt0 nt0 (first_ok L (w0.number) (by (omega))) (fun (z:(bnot (eqI (idxA w0.number L 0) (Int.ofNat x0.1)))=true)=>have h2:(eqI (idxA w0.number L 0) (Int.ofNat x0.1))=false:=(of_bnotT z);(have gh2:=eqI_f h2;(et (Le.wn (x:=Int.ofNat x0.1+(1:Int)) (n:=x0.1+1) (by (simp only [oN,lM,lS] at *;omega))) (Nx.mk (I:=(Sum.elim (acts28_e0_0I L) (acts28_e0_1I L))) (m:=(Sum.elim (fun x=>x.2.1.length) (fun x=>x.2.1.length))) (S:=(Sum.elim (acts28_e0_0S L) (acts28_e0_1S L))) (x:=(.inr x0)) (.inr (x0.1+1,r0,(x0.2.2.1,x0.2.2.2.1,x0.2.2.2.2))) (et (rng_succ hx0.1 hr0) (by exact ⟨hj0.1,hj0.2.1,hj0.2.2.old (hx0.1.trans hr0) (by assumption)⟩:(x0.2.2.2.1=x0.2.2.2.2.length∧0<x0.2.2.2.2.length∧ActI L r0 x0.2.2.2.2))) (rng_m hr0))))) (fun (z:(bnot (eqI (idxA w0.number L 0) (Int.ofNat x0.1)))=false)=>have h2:(eqI (idxA w0.number L 0) (Int.ofNat x0.1))=true:=(of_bnotF z);(have gh2:=eqI_t h2;(et3 (Eq.refl ((acts28_e3S L x0 w0) (0))) (by exact ⟨Nat.zero_le _,fun j hj=>absurd hj (Nat.not_lt_zero _)⟩:0≤x0.2.2.2.2.length∧∀ (j:Nat),j<0→actLt (gD x0.2.2.2.2 j) w0=true) (fun (x1:Nat) (hx1:(acts28_e3I L x0 w0) x1)=>have hx1:x1≤x0.2.2.2.2.length∧∀ (j:Nat),j<x1→actLt (gD x0.2.2.2.2 j) w0=true:=hx1;(have z1:x0.2.2.2.2.length≤10000:=(by have z:=hj0.2.2.len;simp only [lC] at z;omega);(et (fun (h4:(ltI (Int.ofNat x1) (Int.ofNat x0.2.2.2.1))=true)=>(have gh4:=ltI_true h4;(et12 h4 h4 (et (Eq.refl (x0.2.2.1)) (by (simp only [oN,lM,lS] at *;omega):x1<x0.2.2.2.1)) h4 (et (Eq.refl (x0.2.2.1)) (nth_at encAct (by (simp only [oN,lM,lS] at *;omega):x1<(x0.2.2.2.2).length))) h4 h4 h4 nt0 h4 h4 (et4 (ahead_ok (gD x0.2.2.2.2 x1) w0) h4 (fun (h5:(actLt (gD x0.2.2.2.2 x1) w0)=true)=>(et (Le.wn (x:=Int.ofNat x1+(1:Int)) (n:=x1+1) (by (simp only [oN,lM,lS] at *;omega))) (Nx.mk (I:=(acts28_e3I L x0 w0)) (m:=(fun x=>x0.2.2.2.2.length - x)) (S:=(acts28_e3S L x0 w0)) (x:=x1) (x1+1) (by exact ⟨by (simp only [oN] at *;omega),lt_step hx1.2 (by assumption) rfl⟩:x1+1≤x0.2.2.2.2.length∧∀ (j:Nat),j<x1+1→actLt (gD x0.2.2.2.2 j) w0=true) (by (simp only [oN] at *;omega):x0.2.2.2.2.length - (x1+1)<x0.2.2.2.2.length - x1)))) (fun (h5:(actLt (gD x0.2.2.2.2 x1) w0)=false)=>(et12 (et3 (Eq.refl (x0.2.2.1)) (by omega:x1≤x0.2.2.2.1) (by (simp only [oN,lM,lS] at *;omega):x0.2.2.2.1≤(List.map encAct x0.2.2.2.2).length)) (app_rest (sz:=7) (b:=88) (id:=0) (ep:=x0.2.2.1) (off:=x1) (len:=subO x0.2.2.2.1 x1) (op:=true) (cap:=none) (h:=mkH [AObj.row 7 true x0.2.2.1 (List.map encAct x0.2.2.2.2)]) (xs:=List.map encAct x0.2.2.2.2) (ys:=List.map encAct (List.drop x1 x0.2.2.2.2)) (by kernel_rfl) ((by (simp only [Go.Ev.subO_eq] <;> (omega)):x1+subO x0.2.2.2.1 x1=(x0.2.2.2.2).length).trans (lM ..).symm) drop_map (fits_map (sz:=7) (f:=encAct) (fun _=>by rfl) (List.drop x1 x0.2.2.2.2)) (by (simp only [Go.Ev.subO_eq] <;> (simp only [oN,lM,lS] at *;omega)):0<subO x0.2.2.2.1 x1) (by (have z:=hj0.2.2.len;simp only [lC] at z;refine small_of (m:=20000) ?_ ?_ ?_ <;> first | (omega) | (simp only [lM,List.length_drop,lC,lN,subO_eq] <;> (omega))):small (subO x0.2.2.2.1 x1) 88=true)) (et3 (Eq.refl (x0.2.2.1)) (by omega:0≤x1) (by (simp only [oN,lM,lS] at *;omega):x1≤(List.map encAct x0.2.2.2.2).length)) nt0 (Eq.refl true) (andT (topRow (sz:=7) (op:=true) (ep:=x0.2.2.1) (n:=2) (tops_map Go.Ev.encAct_top (x0.2.2.2.2))) (Eq.refl true)) (app_in (sz:=7) (b:=88) (id:=0) (ep:=x0.2.2.1) (len:=x1) (op:=true) (h:=(AHeap.mk 2 (onlyT (mkH [AObj.row 7 true x0.2.2.1 (List.map encAct x0.2.2.2.2),AObj.row 7 true 0 (List.map encAct (List.drop x1 x0.2.2.2.2))]) ([0]) Tr.nil))) (xs:=List.map encAct x0.2.2.2.2) (new:= [encAct w0]) (xs':=List.map encAct (x0.2.2.2.2.set x1 w0)) (x:=AV.ps [encAct w0] true) (by kernel_rfl) (by kernel_rfl) (Eq.refl true) (List.cons_ne_nil _ _) (Nat.le_trans (by (simp only [oN,lM,lS] at *;omega):x1+1≤(x0.2.2.2.2).length) (Nat.le_of_eq (lM ..).symm)) (write_set (f:=encAct) (g:=encAct) (fun _=>rfl) (l:=x0.2.2.2.2) (k:=x1) (w:=w0) (by (simp only [oN,lM,lS] at *;omega):x1<(x0.2.2.2.2).length)) (by (have z:=hj0.2.2.len;simp only [lC] at z;refine small_of (m:=20000) ?_ ?_ ?_ <;> first | (omega) | (simp only [lM,List.length_drop,lC,lN,subO_eq] <;> (first | omega | (simp only [oN] at *;omega)))):small (x1+1) 88=true)) (Eq.refl true) (andT (topRow (sz:=7) (op:=true) (ep:=x0.2.2.1) (n:=2) (tops_map Go.Ev.encAct_top (x0.2.2.2.2.set x1 w0))) (andT (topRow (sz:=7) (op:=true) (ep:=0) (n:=2) (tops_map Go.Ev.encAct_top (List.drop x1 x0.2.2.2.2))) (Eq.refl true))) (app_over (sz:=7) (b:=88) (id:=0) (ep:=x0.2.2.1) (len:=x1+1) (h:=(AHeap.mk 2 (onlyT (mkH [AObj.row 7 true x0.2.2.1 (List.map encAct (x0.2.2.2.2.set x1 w0)),AObj.row 7 true 0 (List.map encAct (List.drop x1 x0.2.2.2.2))]) ([0,1]) Tr.nil))) (xs:=List.map encAct (x0.2.2.2.2.set x1 w0)) (new:=List.map encAct (List.drop x1 x0.2.2.2.2)) (xs':=List.map encAct (List.take (x1+1) (x0.2.2.2.2.set x1 w0)++List.drop x1 x0.2.2.2.2)) (x:=AV.slice 1 0 0 (subO x0.2.2.2.1 x1) none) (by kernel_rfl) (srcR_all (id:=1) (sz:=7) (op:=true) (ep:=0) (h:=(AHeap.mk 2 (onlyT (mkH [AObj.row 7 true x0.2.2.1 (List.map encAct (x0.2.2.2.2.set x1 w0)),AObj.row 7 true 0 (List.map encAct (List.drop x1 x0.2.2.2.2))]) ([0,1]) Tr.nil))) (xs:=List.map encAct (List.drop x1 x0.2.2.2.2)) (by kernel_rfl) ((by (simp only [lM,List.length_drop] <;> first | (first | omega | (simp only [oN,lM,lS] at *;omega) | (simp only [oN,lM,lS,lA,lR,lC,lN] at * <;> omega)) | (simp only [Go.Ev.subO_eq] <;> (omega))):subO x0.2.2.2.1 x1=(List.drop x1 x0.2.2.2.2).length).trans (lM ..).symm)) (fits_map (sz:=7) (f:=encAct) (fun _=>by rfl) (List.drop x1 x0.2.2.2.2)) (by exact map_ne (by (simp only [List.length_drop] <;> (simp only [oN] at *;omega))):List.map encAct (List.drop x1 x0.2.2.2.2)≠ []) (by (simp only [lM,List.length_drop,lS] <;> first | (omega) | (simp only [Go.Ev.subO_eq] <;> (first | omega | (simp only [oN,lM,lS] at *;omega) | (simp only [oN,lM,lS,lA,lR,lC,lN] at * <;> omega)))):(List.map encAct (x0.2.2.2.2.set x1 w0)).length<x1+1+(List.map encAct (List.drop x1 x0.2.2.2.2)).length) take_map (by (have z:=hj0.2.2.len;simp only [lC] at z;refine small_of (m:=20000) ?_ ?_ ?_ <;> first | (omega) | (simp only [lM,List.length_drop,lC,lN,subO_eq] <;> (omega))):small (x1+1+(List.map encAct (List.drop x1 x0.2.2.2.2)).length) 88=true)) (Le.wn (x:=Int.ofNat x0.1+(1:Int)) (n:=x0.1+1) (by (simp only [oN,lM,lS] at *;omega))) (et (et (topRow (sz:=7) (op:=true) (ep:=x0.2.2.1+1) (n:=1) (tops_map Go.Ev.encAct_top (List.take (x1+1) (x0.2.2.2.2.set x1 w0)++List.drop x1 x0.2.2.2.2))) True.intro) (Nx.mk (I:=(Sum.elim (acts28_e0_0I L) (acts28_e0_1I L))) (m:=(Sum.elim (fun x=>x.2.1.length) (fun x=>x.2.1.length))) (S:=(Sum.elim (acts28_e0_0S L) (acts28_e0_1S L))) (x:=(.inr x0)) (.inr (x0.1+1,r0,(x0.2.2.1+1,x1+1+(List.map encAct (List.drop x1 x0.2.2.2.2)).length,List.take (x1+1) (x0.2.2.2.2.set x1 w0)++List.drop x1 x0.2.2.2.2))) (et (rng_succ hx0.1 hr0) (by exact ⟨by (simp only [lA,lM,List.length_take,lS,List.length_drop] <;> (simp only [oN] at *;omega)),by (simp only [lA,List.length_take,lS,List.length_drop] <;> (omega)),by rw [← ins_cut hx1.2 (by (simp only [oN] at *;omega)) (by assumption)];exact hj0.2.2.new (hx0.1.trans hr0) (by assumption)⟩:(x1+1+(List.map encAct (List.drop x1 x0.2.2.2.2)).length=(List.take (x1+1) (x0.2.2.2.2.set x1 w0)++List.drop x1 x0.2.2.2.2).length∧0<(List.take (x1+1) (x0.2.2.2.2.set x1 w0)++List.drop x1 x0.2.2.2.2).length∧ActI L r0 (List.take (x1+1) (x0.2.2.2.2.set x1 w0)++List.drop x1 x0.2.2.2.2)))) (rng_m hr0))))))))) (fun (h4:(ltI (Int.ofNat x1) (Int.ofNat x0.2.2.2.1))=false)=>(have gh4:=ltI_false h4;(et12 h4 h4 h4 h4 h4 h4 h4 h4 h4 (et3 (Eq.refl (x0.2.2.1)) (by omega:x1≤x0.2.2.2.1) (by (simp only [oN,lM,lS] at *;omega):x0.2.2.2.1≤(List.map encAct x0.2.2.2.2).length)) (app_rest0 (sz:=7) (b:=88) (id:=0) (ep:=x0.2.2.1) (off:=x1) (len:=subO x0.2.2.2.1 x1) (op:=true) (cap:=none) (h:=mkH [AObj.row 7 true x0.2.2.1 (List.map encAct x0.2.2.2.2)]) (xs:=List.map encAct x0.2.2.2.2) (by kernel_rfl) (by (simp only [Go.Ev.subO_eq] <;> (simp only [oN,lM,lS] at *;omega)):subO x0.2.2.2.1 x1=0)) (et10 (et3 (Eq.refl (x0.2.2.1)) (by omega:0≤x1) (by (simp only [oN,lM,lS] at *;omega):x1≤(List.map encAct x0.2.2.2.2).length)) nt0 (Eq.refl true) (andT (topRow (sz:=7) (op:=true) (ep:=x0.2.2.1) (n:=1) (tops_map Go.Ev.encAct_top (x0.2.2.2.2))) (Eq.refl true)) (et (List.cons_ne_nil _ _:([encAct w0]:List AV)≠ []) (Eq.refl true)) (et (et3 (Eq.refl (x0.2.2.1)) (by (simp only [lM,lS];(simp only [oN] at *;omega)):x1=(List.map encAct x0.2.2.2.2).length) (by (have z:=hj0.2.2.len;simp only [lC] at z;refine small_of (m:=20000) ?_ ?_ ?_ <;> first | (omega) | (simp only [lM,List.length_drop,lC,lN,subO_eq] <;> (omega))):small (x1+([encAct w0]).length) 88=true)) (mapAppL (f:=encAct) (l:=x0.2.2.2.2) (ws:= [w0]))) (Eq.refl true) (andT (topRow (sz:=7) (op:=true) (ep:=x0.2.2.1+1) (n:=1) (tops_map Go.Ev.encAct_top (x0.2.2.2.2++ [w0]))) (Eq.refl true)) (Le.wn (x:=Int.ofNat x0.1+(1:Int)) (n:=x0.1+1) (by (simp only [oN,lM,lS] at *;omega))) (Nx.mk (I:=(Sum.elim (acts28_e0_0I L) (acts28_e0_1I L))) (m:=(Sum.elim (fun x=>x.2.1.length) (fun x=>x.2.1.length))) (S:=(Sum.elim (acts28_e0_0S L) (acts28_e0_1S L))) (x:=(.inr x0)) (.inr (x0.1+1,r0,(x0.2.2.1+1,x1+1,x0.2.2.2.2++ [w0]))) (et (rng_succ hx0.1 hr0) (by exact ⟨by (simp only [lA,lC,lN] <;> (simp only [oN] at *;omega)),by (simp only [lA,lC,lN] <;> (omega)),by rw [← ins_end hx1.2 hx1.1 (by (simp only [oN] at *;omega))];exact hj0.2.2.new (hx0.1.trans hr0) (by assumption)⟩:(x1+1=(x0.2.2.2.2++ [w0]).length∧0<(x0.2.2.2.2++ [w0]).length∧ActI L r0 (x0.2.2.2.2++ [w0])))) (rng_m hr0)))))))))))))))) (by kernel_rfl)
end Go.Proofs.YtbkijjplgkojcaaGreatDoor
