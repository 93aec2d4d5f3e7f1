/- Functions walked: what each of them answers, for the law of the breakpoints. Conditions: those that each theorem names. -/
import Derived.Test.YtbkijjplgkojcaaGreatDoorH83
namespace Go.Proofs.YtbkijjplgkojcaaGreatDoor
open Go Go.Ev
theorem getG_setG {k j:Int × Int} {v:PItem} : ∀ (m:Corr),getG eqII k (setG eqII j v m)=match eqII k j with | true=>some v | false=>getG eqII k m
  | []=>by simp only [setG,getG];cases eqII k j <;> rfl
  | (i,u)::r=>by
    simp only [setG]
    cases q:eqII j i with
    | true=>
      have:=keyII.t _ _ q;subst this
      simp only [getG]
      cases eqII k j <;> rfl
    | false=>
      simp only [getG]
      rw [getG_setG r]
      cases q2:eqII k i with
      | true=>
        have:=keyII.t _ _ q2;subst this
        have:eqII k j=false:=by
          cases q3:eqII k j with
          | false=>rfl
          | true=>rw [← keyII.t _ _ q3,keyII.refl] at q;cases q
        rw [this]
      | false=>rfl
theorem corr_step (n j:Int) (x:PItem) (m:Corr) (y:PItem):cstep n j ((getG eqII (n,j) m).getD x) y=(getG eqII (n,j) (corrOf m y)).getD x:=by
  unfold corrOf cstep corrB
  have e:eqII (n,j) (y.act,y.item)=(eqI y.act n && eqI y.item j):=by
    unfold eqII
    rw [eqI_iff,eqI_iff,eqI_iff,eqI_iff,Bool.eq_iff_iff]
    simp only [Bool.and_eq_true,decide_eq_true_eq]
    constructor <;> rintro ⟨h1,h2⟩ <;> exact ⟨h1.symm,h2.symm⟩
  by_cases c:(eqI y.kind 11 && ltI 0 (Int.ofNat y.by_.length) && amendB (gD y.by_ 0).kind)=true
  · rw [if_pos c,getG_setG,e]
    simp only [Bool.and_eq_true] at c
    rw [c.1.1,c.1.2,c.2]
    cases eqI y.act n <;> cases eqI y.item j <;> rfl
  · rw [if_neg c]
    have c':(eqI y.kind 11 && (eqI y.act n && (eqI y.item j && (ltI 0 (Int.ofNat y.by_.length) && amendB (gD y.by_ 0).kind))))=false:=by
      revert c
      cases eqI y.kind 11 <;> cases eqI y.act n <;> cases eqI y.item j <;> cases ltI 0 (Int.ofNat y.by_.length) <;> cases amendB (gD y.by_ 0).kind <;> simp
    rw [c']
theorem corr_items (n j:Int) (x:PItem) : ∀ (ys:List PItem) (m:Corr),ys.foldl (cstep n j) ((getG eqII (n,j) m).getD x)=(getG eqII (n,j) (ys.foldl corrOf m)).getD x
  | [],_=>rfl
  | y::r,m=>by rw [List.foldl_cons,List.foldl_cons,corr_step,corr_items n j x r]
theorem corr_acts (n j:Int) (x:PItem) : ∀ (L:List PAct) (m:Corr),corrR L n j ((getG eqII (n,j) m).getD x)=(getG eqII (n,j) (corrs L m)).getD x
  | [],_=>rfl
  | a::r,m=>by rw [corrR_cons,corr_items,corr_acts n j x r];rfl
theorem fix_q (L:List PAct) (n j d:Int) (x:PItem):fixD (corrs L []) ⟨n,j,d,x⟩=⟨n,j,d,corrQ L n j x⟩:=by
  have h:=corr_acts n j x L []
  have h0:(getG eqII (n,j) ([]:Corr)).getD x=x:=rfl
  rw [h0] at h
  unfold fixD hasC valI corrQ
  simp only []
  cases ha:amendB x.kind with
  | false=>rw [Bool.and_false];rfl
  | true=>
    rw [Bool.and_true]
    cases hg:getG eqII (n,j) (corrs L []) with
    | none=>rw [hg] at h;simp only [Option.getD_none] at h;simp only [Option.isSome_none,cond_true,h];rfl
    | some v=>rw [hg] at h;simp only [Option.getD_some] at h;simp only [Option.isSome_some,if_true,cond_true,h,Option.getD_some]
theorem deeds_q (L:List PAct) (a:PAct) : ∀ (l:List PItem) (i:Nat),(deedsOf a l i).map (fixD (corrs L []))=deedsQ L a l i
  | [],_=>rfl
  | x::r,i=>by rw [deedsOf,List.map_cons,fix_q,deeds_q L a r];rfl
theorem deeds_eq (L:List PAct) : ∀ (l:List PAct),itemsOf (corrs L []) l=deedsR L l
  | []=>rfl
  | a::r=>by rw [itemsOf_cons,deeds_q,deeds_eq L r];rfl
theorem getI_setI (k j:Int) (v:PStart) : ∀ (m:List (Int × PStart)),getI k (setI j v m)=match eqI k j with | true=>some v | false=>getI k m
  | []=>by simp only [setI,getI];cases eqI k j <;> rfl
  | (i,u)::r=>by
    simp only [setI]
    cases q:eqI j i with
    | true=>
      have:=eqI_t q;subst this
      simp only [getI]
      cases eqI k j <;> rfl
    | false=>
      simp only [getI]
      rw [getI_setI k j v r]
      cases q2:eqI k i with
      | true=>
        have:=eqI_t q2;subst this
        have:eqI k j=false:=by
          cases q3:eqI k j with
          | false=>rfl
          | true=>rw [← eqI_t q3,eqI_refl] at q;cases q
        rw [this]
      | false=>rfl
theorem st_none (k:Int) : ∀ (L:List PAct) (m:List (Int × PStart)),(∀ a,a∈L→a.number≠k)→getI k (stF L m)=getI k m
  | [],_,_=>rfl
  | a::r,m,h=>by
    rw [stF_cons,st_none k r _ fun b hb=>h b (List.mem_cons_of_mem _ hb),getI_setI]
    have:eqI k a.number=false:=by
      cases q:eqI k a.number with
      | false=>rfl
      | true=>exact absurd (eqI_t q).symm (h a (List.mem_cons_self ..))
    rw [this]
theorem st_eq (k:Int) : ∀ (L:List PAct) (m:List (Int × PStart)),L.Pairwise (fun a b=>a.number≠b.number)→(getI k (stF L m)).getD zeroS=match L.any (fun a=>eqI a.number k) with | true=>startR k L | false=>(getI k m).getD zeroS
  | [],_,_=>rfl
  | a::r,m,h=>by
    obtain ⟨h1,h2⟩:=List.pairwise_cons.1 h
    rw [stF_cons]
    cases q:eqI a.number k with
    | true=>
      have hk:=eqI_t q
      rw [st_none k r _ fun b hb e=>h1 b hb (by rw [hk,e]),getI_setI,hk,eqI_refl]
      rw [startR_y q]
      simp only [List.any_cons,q,Bool.true_or,Option.getD_some]
    | false=>
      rw [st_eq k r _ h2,startR_n q,getI_setI]
      have:eqI k a.number=false:=by
        cases q3:eqI k a.number with
        | false=>rfl
        | true=>rw [eqI_t q3,eqI_refl] at q;cases q
      rw [this]
      simp only [List.any_cons,q,Bool.false_or]
theorem startR_none {k:Int} : ∀ {L:List PAct},L.any (fun a=>eqI a.number k)=false→startR k L=zeroS
  | [],_=>rfl
  | a::r,h=>by
    simp only [List.any_cons,Bool.or_eq_false_iff] at h
    rw [startR_n h.1];exact startR_none h.2
theorem start_eq (gs:List PGaz) (k:Int):startAt (stF (actsL gs) []) k=startR k (actsL gs):=by
  have hd:(actsL gs).Pairwise fun a b=>a.number≠b.number:=by
    have hn:(firsts gs []).Pairwise fun a b=>a.number≠b.number:=by
      have key : ∀ (ys out:List PAct),out.Pairwise (fun a b=>a.number≠b.number)→(ys.foldl tell out).Pairwise fun a b=>a.number≠b.number:=by
        intro ys
        induction ys with
        | nil=>intro out h;exact h
        | cons a r ih=>
          intro out h
          refine ih _ ?_
          cases q:getI a.number (numsOf out) with
          | some v=>rw [tell_old (by rw [q];rfl)];exact h
          | none=>
            rw [tell_new (by rw [q];rfl)]
            refine List.pairwise_append.2 ⟨h,List.pairwise_singleton ..,fun b hb c hc=>?_⟩
            rw [List.mem_singleton.1 hc];exact getI_none q b hb
      rw [firsts_all];exact key _ _ .nil
    exact (actsL_perm gs).symm.pairwise hn fun h e=>h e.symm
  have h:=st_eq k (actsL gs) [] hd
  unfold startAt
  rw [h]
  cases q:(actsL gs).any (fun a=>eqI a.number k) with
  | true=>rfl
  | false=>exact (startR_none q).symm
theorem bnds_mem {z:Int} : ∀ {l:List PSpan},z∈bndsL l↔∃ s,s∈l∧(z=s.from_∨(z=s.to∧s.to<1048577))
  | []=>by simp [bndsL]
  | s::r=>by
    simp only [bndsL,List.mem_append,bnds_mem (l:=r),List.mem_cons]
    cases q:ltI s.to 1048577 with
    | true=>
      have:=ltI_true q
      rw [bndS_y q]
      constructor
      · rintro (h | ⟨t,h1,h2⟩)
        · simp only [List.mem_cons,List.not_mem_nil,or_false] at h
          rcases h with h | h
          · exact ⟨s, .inl rfl, .inl h⟩
          · exact ⟨s, .inl rfl, .inr ⟨h,this⟩⟩
        · exact ⟨t, .inr h1,h2⟩
      · rintro ⟨t,h1 | h1,h2⟩
        · subst h1;rcases h2 with h2 | h2
          · exact .inl (by simp [h2])
          · exact .inl (by simp [h2.1])
        · exact .inr ⟨t,h1,h2⟩
    | false=>
      have:=ltI_false q
      rw [bndS_n q]
      constructor
      · rintro (h | ⟨t,h1,h2⟩)
        · exact ⟨s, .inl rfl, .inl (List.mem_singleton.1 h)⟩
        · exact ⟨t, .inr h1,h2⟩
      · rintro ⟨t,h1 | h1,h2⟩
        · subst h1;rcases h2 with h2 | h2
          · exact .inl (by simp [h2])
          · omega
        · exact .inr ⟨t,h1,h2⟩
theorem brkF_mem {z:Int} {m:List (Int × PStart)} {ds:List PDeed} : ∀ {r:List PDeed},z∈brkF m ds r↔∃ d,d∈chgR r∧z∈bndsL (inForceL (startAt m d.act) d ds)
  | []=>by simp [brkF,chgR]
  | d::r=>by
    cases q:amendB d.it.kind with
    | true=>
      rw [brkF_y q,chgR_y q,List.mem_append,brkF_mem (r:=r)]
      simp only [List.mem_cons]
      constructor
      · rintro (h | ⟨t,h1,h2⟩)
        · exact ⟨d, .inl rfl,h⟩
        · exact ⟨t, .inr h1,h2⟩
      · rintro ⟨t,h1 | h1,h2⟩
        · subst h1;exact .inl h2
        · exact .inr ⟨t,h1,h2⟩
    | false=>rw [brkF_n q,chgR_n q];exact brkF_mem
theorem daysS_mem {z:Int} : ∀ {s:List PSpan} {l:List Int},z∈daysS s l↔z∈l∨z∈bndsL s
  | [],l=>by simp [daysS,bndsL]
  | s::r,l=>by
    rw [daysS,daysS_mem (s:=r)]
    simp only [bndsL,List.mem_append]
    have e:z∈putsS s l↔z∈l∨z∈bndS s:=by
      cases q:ltI s.to 1048577 with
      | true=>
        have:=ltI_true q
        rw [bndS_y q,putsS_n (ltI_f (by omega)),putZ_mem,putZ_mem]
        simp only [List.mem_cons,List.not_mem_nil,or_false]
        constructor
        · rintro (h | h | h) <;> simp [h]
        · rintro (h | h | h) <;> simp [h]
      | false=>
        have:=ltI_false q
        rw [bndS_n q,putsS_y (ltI_t (by omega)),putZ_mem]
        simp only [List.mem_singleton]
        constructor <;> rintro (h | h) <;> simp [h]
    rw [e,or_assoc]
theorem daysS_rise : ∀ {s:List PSpan} {l:List Int},l.Pairwise (· < ·)→(daysS s l).Pairwise (· < ·)
  | [],_,h=>h
  | s::r,l,h=>by
    refine daysS_rise (s:=r) ?_
    unfold putsS
    cases ltI 1048576 s.to
    · exact putZ_rise _ (putZ_rise _ h)
    · exact putZ_rise _ h
theorem daysR_mem {z:Int} {L:List PAct} {ds:List PDeed} : ∀ {r:List PDeed} {l:List Int},z∈daysR L ds r l↔z∈l∨∃ d,d∈r∧z∈bndsL (spansR L ds d)
  | [],l=>by simp [daysR]
  | d::r,l=>by
    rw [daysR,daysR_mem (r:=r),daysS_mem]
    simp only [List.mem_cons]
    constructor
    · rintro ((h | h) | ⟨t,h1,h2⟩)
      · exact .inl h
      · exact .inr ⟨d, .inl rfl,h⟩
      · exact .inr ⟨t, .inr h1,h2⟩
    · rintro (h | ⟨t,h1 | h1,h2⟩)
      · exact .inl (.inl h)
      · subst h1;exact .inl (.inr h2)
      · exact .inr ⟨t,h1,h2⟩
theorem daysR_rise {L:List PAct} {ds:List PDeed} : ∀ {r:List PDeed} {l:List Int},l.Pairwise (· < ·)→(daysR L ds r l).Pairwise (· < ·)
  | [],_,h=>h
  | d::r,l,h=>daysR_rise (r:=r) (daysS_rise h)
theorem rise_uniq {x y:List Int} (hx:x.Pairwise (· < ·)) (hy:y.Pairwise (· < ·)) (h : ∀ z,z∈x↔z∈y):x=y:=by
  have nx:x.Nodup:=hx.imp fun h=>Int.ne_of_lt h
  have ny:y.Nodup:=hy.imp fun h=>Int.ne_of_lt h
  refine pair_uniq (lt:=ltI) (hx.imp fun h=>ltI_f (by omega)) (hy.imp fun h=>ltI_f (by omega)) ((List.perm_ext_iff_of_nodup nx ny).2 h) fun u v _ _ h1 h2=>?_
  have:=ltI_false h1;have:=ltI_false h2;omega
theorem days_eq (gs:List PGaz) (ds:List PDeed):compactZ (sortZ ([0]++brkF (stF (actsL gs) []) ds ds))=daysR (actsL gs) ds (chgR ds) [0]:=by
  obtain ⟨h1,h2⟩:=compact_ok (sortZ_sorted ([0]++brkF (stF (actsL gs) []) ds ds))
  refine rise_uniq h1 (daysR_rise (List.pairwise_singleton ..)) fun z=>?_
  rw [h2,(sortZ_perm _).mem_iff,List.mem_append,brkF_mem,daysR_mem]
  have e : ∀ d:PDeed,inForceL (startAt (stF (actsL gs) []) d.act) d ds=spansR (actsL gs) ds d:=fun d=>by rw [start_eq];rfl
  simp only [e]
def sumA:List PAct→Nat
  | []=>0
  | a::r=>a.items.length+sumA r
theorem sumA_app : ∀ (l m:List PAct),sumA (l++m)=sumA l+sumA m
  | [],m=>by simp [sumA]
  | a::r,m=>by rw [List.cons_append,sumA,sumA,sumA_app r m,Nat.add_assoc]
theorem sumA_perm {l m:List PAct} (h:l.Perm m):sumA l=sumA m:=by
  induction h with
  | nil=>rfl
  | cons a _ ih=>rw [sumA,sumA,ih]
  | swap a b l=>simp only [sumA];omega
  | trans _ _ h1 h2=>exact h1.trans h2
theorem sumA_mem {a:PAct} : ∀ {l:List PAct},a∈l→a.items.length≤sumA l
  | b::r,h=>by
    rcases List.mem_cons.1 h with e | e
    · subst e;simp only [sumA];omega
    · have:=sumA_mem e;simp only [sumA];omega
theorem sumA_tells : ∀ (ys out:List PAct),sumA (ys.foldl tell out)≤sumA out+sumA ys∧(ys.foldl tell out).length≤out.length+ys.length
  | [],out=>by simp [sumA]
  | a::r,out=>by
    have h:=sumA_tells r (tell out a)
    have h2:sumA (tell out a)≤sumA out+a.items.length:=by
      unfold tell;split
      · omega
      · rw [sumA_app];simp [sumA]
    have h3:=(tell_len out a).2
    rw [List.foldl_cons]
    simp only [sumA,List.length_cons];omega
theorem allDeeds_sum : ∀ (l:List PAct),(allDeeds l).length=sumA l
  | []=>rfl
  | a::r=>by
    have:=allDeeds_sum r
    simp only [allDeeds,List.flatMap_cons,List.length_append,deedsOf_len,sumA] at *;omega
theorem cntA_eq : ∀ (l:List PAct) (n:Int),cntA l n=n+Int.ofNat l.length+Int.ofNat (sumA l)
  | [],n=>by simp [cntA,sumA]
  | a::r,n=>by rw [cntA,cntA_eq r];simp only [sumA,List.length_cons,Int.ofNat_eq_natCast];omega
theorem cntG_eq : ∀ (gs:List PGaz) (n:Int),cntG gs n=n+Int.ofNat (allA gs).length+Int.ofNat (sumA (allA gs))
  | [],n=>by simp [cntG,allA,sumA]
  | g::r,n=>by rw [cntG,cntG_eq r,cntA_eq,allA_cons,sumA_app,List.length_append];simp only [Int.ofNat_eq_natCast];omega
theorem few_gaz : ∀ {gs:List PGaz},gs.all goodG=true→∀ g,g∈gs→g.acts.length≤20
  | x::r,h,g,hg=>by
    simp only [List.all_cons,Bool.and_eq_true] at h
    rcases List.mem_cons.1 hg with e | e
    · subst e
      have h1:=h.1
      unfold goodG badG at h1
      simp only [Bool.and_eq_true] at h1
      have h2:=(Bool.or_eq_false_iff.1 (bnotT h1.1)).2
      have:=ltI_false h2
      simp only [Int.ofNat_eq_natCast] at this;omega
    · exact few_gaz h.2 g e
theorem brk_law (gs:List PGaz) (hf:fitGs gs) (hl:gs.length<2 ^ 47) (haw:HPure Tryz.prog G 4 [] (.bool true)):HPure Tryz.prog G 3 [.ls (gs.map encGaz)] (.bool true):=by
  have hw:=few31p_ok gs [] hf hl
  have hq:few31p gs []=few31 gs:=by unfold few31p;exact Bool.and_true _
  rw [hq] at hw
  cases h:few31 gs with
  | false=>rw [h] at hw;exact law31_no gs hw haw
  | true=>
    rw [h] at hw
    unfold few31 at h
    simp only [Bool.and_eq_true] at h
    obtain ⟨h1,h2,h3⟩:=h
    have c1:=ltI_false (bnotT h2)
    have c2:=ltI_false (bnotT h3)
    rw [cntG_eq] at c1
    simp only [Int.ofNat_eq_natCast] at c1 c2
    have hb:=few_gaz h1
    obtain ⟨t1,t2⟩:=sumA_tells (allA gs) []
    rw [← firsts_all] at t1 t2
    simp only [sumA,List.length_nil] at t1 t2
    have hp:=actsL_perm gs
    have e1:=sumA_perm hp
    have e2:=hp.length_eq
    have hi : ∀ a,a∈actsL gs→a.items.length<10000:=fun a ha=>by have:=sumA_mem ha;omega
    have hd:=allDeeds_sum (actsL gs)
    have a1:=acts_ok gs hf (fun g hg=>by have:=hb g hg;omega) (by omega) (by omega)
    have a2:=items_ok gs hf (fun g hg=>by have:=hb g hg;omega) (by omega) (by omega) hi (by omega)
    have hds:(itemsOf (corrs (actsL gs) []) (actsL gs)).length=sumA (actsL gs):=by unfold itemsOf;rw [List.length_map,hd]
    have b1:=bp_ok gs (actsL gs) _ (by omega) (by omega) a1 a2
    have r1:=acts28_ok gs (by omega) (by omega)
    have hq2:=deeds_eq (actsL gs) (actsL gs)
    have r2:=deeds28_ok gs (actsL gs) r1 (by omega) hi (by rw [← hq2,hds];omega)
    rw [← hq2] at r2
    rw [days_eq] at b1
    have hcl:(chgR (itemsOf (corrs (actsL gs) []) (actsL gs))).length≤(itemsOf (corrs (actsL gs) []) (actsL gs)).length:=List.length_filter_le ..
    generalize itemsOf (corrs (actsL gs) []) (actsL gs)=ds at *
    have r3:=chg29_ok gs ds r2 (by omega)
    have r4:=fun d=>of29_ok gs (actsL gs) ds d (fun k=>start29_ok gs (actsL gs) k r1 (by omega)) r2 (by omega)
    have r5:=days29_ok gs (actsL gs) ds r3 r4 (by omega)
    have hB:(daysR (actsL gs) ds (chgR ds) [0]).length<2 ^ 40:=by
      have key : ∀ (r:List PDeed) (l:List Int),(daysR (actsL gs) ds r l).length≤l.length+2097154 * r.length:=by
        intro r
        induction r with
        | nil=>intro l;simp [daysR]
        | cons d r ih=>
          intro l
          have:=ih (daysS (spansR (actsL gs) ds d) l)
          have:=daysS_len (spansR (actsL gs) ds d) l
          have:=spansR_len (actsL gs) ds d
          simp only [daysR,List.length_cons];omega
      have:=key (chgR ds) [0]
      simp only [List.length_cons,List.length_nil] at this;omega
    exact law31_ok gs _ hB hw haw (cbp_ok gs _ b1) r5
end Go.Proofs.YtbkijjplgkojcaaGreatDoor
