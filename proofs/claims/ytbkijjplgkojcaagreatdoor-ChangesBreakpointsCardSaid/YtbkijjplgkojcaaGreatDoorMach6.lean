/- An abstract machine for closed runs and for walks, proved sound against the model: part 6 of 6. No conditions. -/
import Derived.Test.YtbkijjplgkojcaaGreatDoorMach5
import GoSem.ClaimJoined

namespace Go.Ev
open Go
theorem cmpI_lt (a b:Int):ltI (cmpI a b) 0=ltI a b:=by
 unfold cmpI
 cases h:ltI a b with
 | true=>rfl
 | false=>cases h2:ltI b a <;> rfl
noncomputable def cntS (l:List PSpan) (d:Int):Nat:=(l.takeWhile fun s=>ltI s.from_ d).length
theorem cntS_le (l:List PSpan) (d:Int):cntS l d≤l.length:=by
 induction l with
 | nil=>simp [cntS]
 | cons a r ih=>unfold cntS at *;rw [List.takeWhile_cons];split <;> simp at * <;> omega
def SortS (l:List PSpan):Prop:=l.Pairwise fun a b=>a.from_≤b.from_
theorem cntS_iff {d:Int} : ∀ {l:List PSpan},SortS l→∀ k,k<l.length→(ltI (gD l k).from_ d=true↔k<cntS l d)
 | [],_,k,h=>by simp at h
 | a::r,hs,k,h=>by
  obtain ⟨h1,h2⟩:=List.pairwise_cons.1 hs
  unfold cntS
  rw [List.takeWhile_cons]
  cases q:ltI a.from_ d with
  | true=>
   simp only [if_true,List.length_cons]
   cases k with
   | zero=>simp [gD,q]
   | succ k=>
    have:=cntS_iff (d:=d) h2 k (by simpa using h)
    rw [show gD (a::r) (k+1)=gD r k from rfl,this]
    unfold cntS;omega
  | false=>
   simp only [Bool.false_eq_true,if_false,List.length_nil,Nat.not_lt_zero,iff_false,Bool.not_eq_true]
   have hd:=ltI_false q
   cases k with
   | zero=>exact q
   | succ k=>
    have h3:gD r k∈r:=gD_mem (by simpa using h)
    have:=h1 _ h3
    exact ltI_f (a:=(gD r k).from_) (b:=d) (by omega)
noncomputable def isAt (l:List PSpan) (d:Int):Bool:=ltI (Int.ofNat (cntS l d)) (Int.ofNat l.length) && eqI (cmpI (gD l (cntS l d)).from_ d) 0
theorem NrmS_sort {l:List PSpan} (h:l.Pairwise fun a b=>a.to<b.from_) (h2 : ∀ s,s∈l→s.from_<s.to):SortS l:=by
 induction l with
 | nil=>exact .nil
 | cons a r ih=>
  obtain ⟨h3,h4⟩:=List.pairwise_cons.1 h
  refine List.pairwise_cons.2 ⟨fun b hb=>?_,ih h4 fun s hs=>h2 s (List.mem_cons_of_mem _ hs)⟩
  have:=h3 b hb
  have:=h2 a (List.mem_cons_self ..)
  omega
structure NrmS (l:List PSpan):Prop where
 gap:l.Pairwise fun a b=>a.to<b.from_
 ok : ∀ s,s∈l→0≤s.from_∧s.from_<s.to∧s.to≤1048577
theorem NrmS.sort {l:List PSpan} (h:NrmS l):SortS l:=NrmS_sort h.gap fun s hs=>(h.ok s hs).2.1
theorem NrmS_len : ∀ {l:List PSpan} {b:Int},l.Pairwise (fun a b=>a.to<b.from_)→(∀ s,s∈l→b≤s.from_∧s.from_<s.to∧s.to≤1048577)→b≤1048577→Int.ofNat l.length≤1048577 - b
 | [],b,_,_,hb=>by simp;omega
 | a::r,b,h,h2,hb=>by
  obtain ⟨h3,h4⟩:=List.pairwise_cons.1 h
  have h5:=h2 a (List.mem_cons_self ..)
  have:=NrmS_len (l:=r) (b:=b+1) h4 (fun s hs=>by
   have:=h3 s hs
   have:=h2 s (List.mem_cons_of_mem _ hs)
   omega) (by omega)
  simp only [List.length_cons,Int.ofNat_eq_natCast] at *
  omega
theorem NrmS.len {l:List PSpan} (h:NrmS l):l.length≤1048577:=by
 have:=NrmS_len (b:=0) h.gap h.ok (by omega)
 simp only [Int.ofNat_eq_natCast] at this;omega
noncomputable def memS (l:List PSpan) (d:Int):Bool:=isAt l d || (ltI 0 (Int.ofNat (cntS l d)) && ltI d (gD l (cntS l d - 1)).to)
theorem mxI_eq (a b:Int):mxI a b=max a b:=by
 unfold mxI
 cases h:ltI a b with
 | true=>have:=ltI_true h;simp only [];omega
 | false=>have:=ltI_false h;simp only [];omega
theorem mnI_eq (a b:Int):mnI a b=min a b:=by
 unfold mnI
 cases h:ltI b a with
 | true=>have:=ltI_true h;simp only [];omega
 | false=>have:=ltI_false h;simp only [];omega
noncomputable abbrev clipS (s:PSpan):PSpan:=⟨mxI s.from_ 0,mnI s.to 1048577⟩
noncomputable abbrev okS (s:PSpan):Bool:=ltI (mxI s.from_ 0) (mnI s.to 1048577)
noncomputable def clipL:List PSpan→List PSpan
 | []=> []
 | s::r=>match okS s with | true=>clipS s::clipL r | false=>clipL r
theorem clipL_y {s:PSpan} {r:List PSpan} (h:okS s=true):clipL (s::r)=clipS s::clipL r:=by simp only [clipL,h]
theorem clipL_n {s:PSpan} {r:List PSpan} (h:okS s=false):clipL (s::r)=clipL r:=by simp only [clipL,h]
theorem clipL_len : ∀ (l:List PSpan),(clipL l).length≤l.length
 | []=>by simp [clipL]
 | s::r=>by
  have:=clipL_len r
  cases h:okS s with
  | true=>rw [clipL_y h];simp;omega
  | false=>rw [clipL_n h];simp;omega
theorem clipL_ok : ∀ {l:List PSpan} {s:PSpan},s∈clipL l→0≤s.from_∧s.from_<s.to∧s.to≤1048577
 | a::r,s,hs=>by
  cases h:okS a with
  | true=>
   rw [clipL_y h] at hs
   rcases List.mem_cons.1 hs with e | e
   ·subst e
    have h2:=ltI_true h
    simp only [mxI_eq,mnI_eq] at *
    omega
   ·exact clipL_ok e
  | false=>rw [clipL_n h] at hs;exact clipL_ok hs
def memB (l:List PSpan) (d:Int):Bool:=l.any fun s=>decide (s.from_≤d∧d<s.to)
def inR (d:Int):Bool:=decide (0≤d∧d<1048577)
theorem memB_nil (d:Int):memB [] d=false:=rfl
theorem memB_cons (a:PSpan) (l:List PSpan) (d:Int):memB (a::l) d=(decide (a.from_≤d∧d<a.to) || memB l d):=rfl
theorem memB_app (l r:List PSpan) (d:Int):memB (l++r) d=(memB l d || memB r d):=by simp [memB]
theorem memB_iff {l:List PSpan} {d:Int} : memB l d=true↔∃ s,s∈l∧s.from_≤d∧d<s.to:=by simp [memB]
theorem memB_perm {l r:List PSpan} (h:l.Perm r) (d:Int):memB l d=memB r d:=by
 rw [Bool.eq_iff_iff,memB_iff,memB_iff]
 exact ⟨fun ⟨s,h1,h2⟩=>⟨s,h.mem_iff.1 h1,h2⟩,fun ⟨s,h1,h2⟩=>⟨s,h.mem_iff.2 h1,h2⟩⟩
theorem clipL_mem : ∀ (l:List PSpan) (d:Int),memB (clipL l) d=(inR d && memB l d)
 | [],d=>by simp [clipL,memB]
 | a::r,d=>by
  have ih:=clipL_mem r d
  have e : ∀ b:Bool,(b=decide (0≤d∧d<1048577∧a.from_≤d∧d<a.to))→(b || (inR d && memB r d))=(inR d && memB (a::r) d):=fun b hb=>by
   rw [memB_cons,hb];unfold inR
   by_cases h1:0≤d∧d<1048577
   ·by_cases h2:a.from_≤d∧d<a.to
    ·simp [h1,h2]
    ·simp [h1,h2]
   ·have : ¬ (0≤d∧d<1048577∧a.from_≤d∧d<a.to):=fun h=>h1 ⟨h.1,h.2.1⟩
    simp [h1,this]
  cases h:okS a with
  | true=>
   rw [clipL_y h,memB_cons,ih]
   refine e _ ?_
   simp only [mxI_eq,mnI_eq]
   congr 1
   refine propext ⟨fun h=>?_,fun h=>?_⟩ <;> omega
  | false=>
   rw [clipL_n h,ih]
   have h2:=ltI_false h
   simp only [mxI_eq,mnI_eq] at h2
   rw [← e false ?_,Bool.false_or]
   symm
   rw [decide_eq_false_iff_not]
   omega
theorem NrmS.tail {a:PSpan} {r:List PSpan} (h:NrmS (a::r)):NrmS r:=⟨(List.pairwise_cons.1 h.gap).2,fun s hs=>h.ok s (List.mem_cons_of_mem _ hs)⟩
theorem NrmS.low {a x:PSpan} {r:List PSpan} (h:NrmS (a::r)) (hx:x∈r):a.to<x.from_:=(List.pairwise_cons.1 h.gap).1 x hx
theorem NrmS.head {a:PSpan} {r:List PSpan} (h:NrmS (a::r)):0≤a.from_∧a.from_<a.to∧a.to≤1048577:=h.ok a (List.mem_cons_self ..)
theorem nrm_nil:NrmS []:=⟨.nil,fun s h=>by cases h⟩
theorem nrm_first {a:PSpan} {r:List PSpan} (h:NrmS (a::r)):memB (a::r) a.from_=true:=by
 have:=h.head
 rw [memB_cons];simp;omega
theorem nrm_from {a:PSpan} {r:List PSpan} (h:NrmS (a::r)) {d:Int} (hd:memB (a::r) d=true):a.from_≤d:=by
 obtain ⟨s,h1,h2,h3⟩:=memB_iff.1 hd
 rcases List.mem_cons.1 h1 with e | e
 ·rw [← e];exact h2
 ·have:=h.low e
  have:=h.head
  omega
theorem nrm_to {a:PSpan} {r:List PSpan} (h:NrmS (a::r)):memB (a::r) a.to=false:=by
 cases q:memB (a::r) a.to with
 | false=>rfl
 | true=>
  obtain ⟨s,h1,h2,h3⟩:=memB_iff.1 q
  rcases List.mem_cons.1 h1 with e | e
  ·rw [e] at h3;omega
  ·have:=h.low e;omega
theorem nrm_rest {a:PSpan} {r:List PSpan} (h:NrmS (a::r)) (d:Int):memB r d=(decide (a.to≤d) && memB (a::r) d):=by
 rw [memB_cons]
 by_cases h1:a.to≤d
 ·have : ¬ (a.from_≤d∧d<a.to):=by omega
  simp [h1,this]
 ·have:memB r d=false:=by
   cases q:memB r d with
   | false=>rfl
   | true=>
    obtain ⟨s,h2,h3,h4⟩:=memB_iff.1 q
    have:=h.low h2;omega
  simp [h1,this]
theorem nrm_unique : ∀ {r s:List PSpan},NrmS r→NrmS s→(∀ d,memB r d=memB s d)→r=s
 | [], [],_,_,_=>rfl
 | [],b::s,_,hs,h=>by have:=h b.from_;rw [nrm_first hs,memB_nil] at this;cases this
 | a::r, [],hr,_,h=>by have:=h a.from_;rw [nrm_first hr,memB_nil] at this;cases this
 | a::r,b::s,hr,hs,h=>by
  have h1:b.from_≤a.from_:=nrm_from hs (by rw [← h];exact nrm_first hr)
  have h2:a.from_≤b.from_:=nrm_from hr (by rw [h];exact nrm_first hs)
  have ha:=hr.head
  have hb:=hs.head
  have h3 : ¬ a.to<b.to:=fun q=>by
   have e:memB (b::s) a.to=true:=by rw [memB_cons];simp;left;omega
   rw [← h,nrm_to hr] at e;cases e
  have h4 : ¬ b.to<a.to:=fun q=>by
   have e:memB (a::r) b.to=true:=by rw [memB_cons];simp;left;omega
   rw [h,nrm_to hs] at e;cases e
  have e:a=b:=by
   obtain ⟨a1,a2⟩:=a
   obtain ⟨b1,b2⟩:=b
   simp only [PSpan.mk.injEq] at *
   omega
  subst e
  rw [nrm_unique hr.tail hs.tail fun d=>by rw [nrm_rest hr,nrm_rest hs,h]]
def addDay (f:Int→Bool) (d:Int) (l:List PSpan):List PSpan:=match f d with
 | false=>l
 | true=>match l with
  | []=> [⟨d,d+1⟩]
  | s::r=>if s.from_=d+1 then ⟨d,s.to⟩::r else ⟨d,d+1⟩::s::r
def runsD (f:Int→Bool):Nat→List PSpan
 | 0=> []
 | k+1=>addDay f (1048577 - Int.ofNat (k+1)) (runsD f k)
theorem addDay_ok {f:Int→Bool} {d:Int} {l:List PSpan} (h0:0≤d) (h1:d+1≤1048577) (hl:NrmS l) (hf : ∀ s,s∈l→d+1≤s.from_) :
  NrmS (addDay f d l)∧(∀ s,s∈addDay f d l→d≤s.from_)∧∀ e,memB (addDay f d l) e=((decide (e=d) && f e) || memB l e):=by
 unfold addDay
 cases hfd:f d with
 | false=>
  refine ⟨hl,fun s hs=>by have:=hf s hs;omega,fun e=>?_⟩
  by_cases q:e=d
  ·subst q;simp [hfd]
  ·simp [q]
 | true=>
  match l,hl,hf with
  | [],_,_=>
   refine ⟨⟨by simp,fun s hs=>by simp at hs;subst hs;exact ⟨h0,by simp only [];omega,h1⟩⟩,fun s hs=>by simp at hs;subst hs;exact Int.le_refl _,fun e=>?_⟩
   simp only [memB_cons,memB_nil,Bool.or_false]
   by_cases q:e=d
   ·subst q;simp [hfd];omega
   ·simp [q];omega
  | s::r,hl,hf=>
   have hs:=hl.head
   have hs2:=hf s (List.mem_cons_self ..)
   simp only []
   by_cases q:s.from_=d+1
   ·rw [if_pos q]
    refine ⟨⟨List.pairwise_cons.2 ⟨fun x hx=>hl.low hx,hl.tail.gap⟩,fun x hx=>?_⟩,fun x hx=>?_,fun e=>?_⟩
    ·rcases List.mem_cons.1 hx with e | e
     ·subst e;simp only [];omega
     ·exact hl.tail.ok x e
    ·rcases List.mem_cons.1 hx with e | e
     ·subst e;exact Int.le_refl _
     ·have:=hl.low e;omega
    ·simp only [memB_cons]
     by_cases q2:e=d
     ·subst q2;simp [hfd];left;omega
     ·have e1:decide (d≤e∧e<s.to)=decide (s.from_≤e∧e<s.to):=by
       congr 1;refine propext ⟨fun h=>?_,fun h=>?_⟩ <;> omega
      rw [e1];simp [q2]
   ·rw [if_neg q]
    refine ⟨⟨List.pairwise_cons.2 ⟨fun x hx=>?_,hl.gap⟩,fun x hx=>?_⟩,fun x hx=>?_,fun e=>?_⟩
    ·have:=hf x hx
     rcases List.mem_cons.1 hx with e | e
     ·subst e;simp only [];omega
     ·have:=hl.low e;simp only [];omega
    ·rcases List.mem_cons.1 hx with e | e
     ·subst e;simp only [];omega
     ·exact hl.ok x e
    ·rcases List.mem_cons.1 hx with e | e
     ·subst e;exact Int.le_refl _
     ·have:=hf x e;omega
    ·rw [memB_cons]
     by_cases q2:e=d
     ·subst q2;simp [hfd];left;omega
     ·have e1:decide (d≤e∧e<d+1)=false:=by rw [decide_eq_false_iff_not];omega
      simp only [e1,q2,decide_false,Bool.false_and]
theorem runsD_ok (f:Int→Bool) : ∀ k,k≤1048577→NrmS (runsD f k)∧(∀ s,s∈runsD f k→1048577 - Int.ofNat k≤s.from_)∧∀ e,memB (runsD f k) e=(decide (1048577 - Int.ofNat k≤e∧e<1048577) && f e)
 | 0,_=>by
  refine ⟨nrm_nil,fun s h=>(by cases h),fun e=>?_⟩
  have:decide (1048577 - Int.ofNat 0≤e∧e<1048577)=false:=by rw [decide_eq_false_iff_not];simp only [Int.ofNat_eq_natCast];omega
  rw [this];rfl
 | k+1,hk=>by
  obtain ⟨h1,h2,h3⟩:=runsD_ok f k (by omega)
  simp only [Int.ofNat_eq_natCast] at *
  have:=addDay_ok (f:=f) (d:=1048577 - ((k+1:Nat):Int)) (l:=runsD f k) (by omega) (by omega) h1 (fun s hs=>by have:=h2 s hs;omega)
  have h5:runsD f (k+1)=addDay f (1048577 - ((k+1:Nat):Int)) (runsD f k):=by rw [runsD];simp only [Int.ofNat_eq_natCast]
  rw [h5]
  refine ⟨this.1,this.2.1,fun e=>?_⟩
  rw [this.2.2 e,h3]
  by_cases q:e=1048577 - ((k+1:Nat):Int)
  ·have e1:decide (1048577 - (k:Int)≤e∧e<1048577)=false:=by rw [decide_eq_false_iff_not];omega
   have e2:decide (1048577 - ((k+1:Nat):Int)≤e∧e<1048577)=true:=by rw [decide_eq_true_eq];omega
   rw [e1,e2];simp [q]
  ·have e1:decide (1048577 - (k:Int)≤e∧e<1048577)=decide (1048577 - ((k+1:Nat):Int)≤e∧e<1048577):=decide_eq_decide.2 ⟨fun h=>by omega,fun h=>by omega⟩
   rw [e1,decide_eq_false q,Bool.false_and,Bool.false_or]
theorem nf_ex (f:Int→Bool) : ∃ l:List PSpan,NrmS l∧∀ d,memB l d=(inR d && f d):=by
 obtain ⟨h1,_,h3⟩:=runsD_ok f 1048577 (Nat.le_refl _)
 exact ⟨_,h1,fun d=>by rw [h3];unfold inR;simp only [Int.ofNat_eq_natCast];congr 2⟩
noncomputable def nf (f:Int→Bool):List PSpan:=Classical.choose (nf_ex f)
theorem nf_nrm (f:Int→Bool):NrmS (nf f):=(Classical.choose_spec (nf_ex f)).1
theorem nf_mem (f:Int→Bool) (d:Int):memB (nf f) d=(inR d && f d):=(Classical.choose_spec (nf_ex f)).2 d
theorem nf_eq {f:Int→Bool} {r:List PSpan} (h:NrmS r) (hm : ∀ d,memB r d=(inR d && f d)):r=nf f:=nrm_unique h (nf_nrm f) fun d=>by rw [hm,nf_mem]
theorem nf_congr {f g:Int→Bool} (h : ∀ d,inR d=true→f d=g d):nf f=nf g:=nf_eq (nf_nrm f) fun d=>by
 rw [nf_mem]
 cases q:inR d with
 | false=>rfl
 | true=>rw [h d q]
theorem nf_self {l:List PSpan} (h:NrmS l):l=nf (memB l):=nf_eq h fun d=>by
 cases q:memB l d with
 | false=>rw [Bool.and_false]
 | true=>
  obtain ⟨s,h1,h2,h3⟩:=memB_iff.1 q
  have:=h.ok s h1
  have:inR d=true:=by unfold inR;rw [decide_eq_true_eq];omega
  rw [this];rfl
theorem take_gD {α:Type} [Inhabited α] {l:List α} {n:Nat} (h:n<l.length):l.take (n+1)=l.take n++ [gD l n]:=by
 rw [List.take_add_one,List.getElem?_eq_getElem h]
 simp [gD,List.getD,List.getElem?_eq_getElem h]
theorem drop_gD {α:Type} [Inhabited α] {l:List α} {n:Nat} (h:n<l.length):l.drop n=gD l n::l.drop (n+1):=by
 rw [List.drop_eq_getElem_cons h]
 simp [gD,List.getD,List.getElem?_eq_getElem h]
theorem set_take {α:Type} {l:List α} {n m:Nat} {x:α} (h:n≤m):(l.set m x).take n=l.take n:=by
 apply List.ext_getElem?
 intro i
 rw [List.getElem?_take,List.getElem?_take,List.getElem?_set]
 by_cases q:i<n
 ·rw [if_pos q,if_pos q,if_neg (by omega)]
 ·rw [if_neg q,if_neg q]
theorem gD_set {α:Type} [Inhabited α] {l:List α} {i k:Nat} {x:α} (h:i<l.length):gD (l.set i x) k=if k=i then x else gD l k:=by
 unfold gD List.getD
 rw [List.getElem?_set]
 by_cases e:i=k
 ·subst e;simp [h]
 ·simp [e,Ne.symm e]
theorem SortS.at {l:List PSpan} (h:SortS l) {i k:Nat} (hik:i≤k) (hk:k<l.length):(gD l i).from_≤(gD l k).from_:=by
 rcases Nat.lt_or_ge i k with q | q
 ·have:=List.pairwise_iff_getElem.1 h i k (by omega) hk q
  simpa [gD,List.getD,List.getElem?_eq_getElem hk,List.getElem?_eq_getElem (show i<l.length by omega)] using this
 ·have:i=k:=by omega
  subst this;exact Int.le_refl _
structure MergeI (l cur:List PSpan) (n i:Nat):Prop where
 len:cur.length=l.length
 le:n≤i
 il:i≤l.length
 pos:0<i→0<n
 rest : ∀ k,i≤k→k<l.length→gD cur k=gD l k
 gap : ∀ j k,j<k→k<n→(gD cur j).to<(gD cur k).from_
 ok : ∀ k,k<n→0≤(gD cur k).from_∧(gD cur k).from_<(gD cur k).to∧(gD cur k).to≤1048577
 last:0<n→∀ k,i≤k→k<l.length→(gD cur (n - 1)).from_≤(gD l k).from_
 mem : ∀ d,(memB (cur.take n) d || memB (l.drop i) d)=memB l d
theorem MergeI.start (l:List PSpan):MergeI l l 0 0:=
 ⟨rfl,Nat.le_refl _,Nat.zero_le _,fun h=>absurd h (Nat.lt_irrefl _),fun _ _ _=>rfl,fun _ _ _ h=>absurd h (Nat.not_lt_zero _),fun _ h=>absurd h (Nat.not_lt_zero _),fun h=>absurd h (Nat.lt_irrefl _),fun d=>by simp [memB]⟩
theorem MergeI.copy {l cur:List PSpan} {n i:Nat} (h:MergeI l cur n i) (hi:i<l.length) (hs:SortS l) (hok : ∀ k,k<l.length→0≤(gD l k).from_∧(gD l k).from_<(gD l k).to∧(gD l k).to≤1048577)
  (hn:n=0∨(gD cur (n - 1)).to<(gD cur i).from_):MergeI l (cur.set n (gD cur i)) (n+1) (i+1):=by
 rw [h.rest i (Nat.le_refl _) hi] at hn ⊢
 have hl:=h.le
 have hcl:=h.len
 have hg : ∀ k,gD (cur.set n (gD l i)) k=if k=n then gD l i else gD cur k:=fun k=>gD_set (by omega)
 refine ⟨by simp [hcl],by omega,by omega,fun _=>by omega,fun k h1 h2=>?_,fun j k h1 h2=>?_,fun k h1=>?_,fun _ k h1 h2=>?_,fun d=>?_⟩
 ·rw [hg,if_neg (by omega)];exact h.rest k (by omega) h2
 ·rw [hg,hg,if_neg (by omega)]
  by_cases e:k=n
  ·rw [if_pos e]
   rcases hn with hn | hn
   ·omega
   ·by_cases e2:j=n - 1
    ·subst e2;exact hn
    ·have h3:=h.gap j (n - 1) (by omega) (by omega)
     have h4:=h.ok (n - 1) (by omega)
     omega
  ·rw [if_neg e];exact h.gap j k h1 (by omega)
 ·rw [hg]
  by_cases e:k=n
  ·rw [if_pos e];exact hok i hi
  ·rw [if_neg e];exact h.ok k (by omega)
 ·rw [hg,if_pos (by omega)];exact hs.at (by omega) h2
 ·rw [take_gD (by simp;omega),hg,if_pos rfl,set_take (Nat.le_refl _),memB_app,← h.mem d,drop_gD hi,memB_cons,memB_cons,memB_nil]
  simp [Bool.or_assoc]
theorem MergeI.join {l cur:List PSpan} {n i:Nat} (h:MergeI l cur n i) (hi:i<l.length) (hs:SortS l) (hok : ∀ k,k<l.length→0≤(gD l k).from_∧(gD l k).from_<(gD l k).to∧(gD l k).to≤1048577)
  (hn:0<n) (hle:(gD cur i).from_≤(gD cur (n - 1)).to) (x:Int) (hx:x=mxI (gD cur (n - 1)).to (gD cur i).to):MergeI l (cur.set (n - 1) ⟨(gD cur (n - 1)).from_,x⟩) n (i+1):=by
 rw [h.rest i (Nat.le_refl _) hi] at hle
 rw [h.rest i (Nat.le_refl _) hi,mxI_eq] at hx
 have hl:=h.le
 have hcl:=h.len
 have hg : ∀ k,gD (cur.set (n - 1) ⟨(gD cur (n - 1)).from_,x⟩) k=if k=n - 1 then ⟨(gD cur (n - 1)).from_,x⟩ else gD cur k:=fun k=>gD_set (by omega)
 have h4:=h.ok (n - 1) (by omega)
 have h5:=hok i hi
 have h6:=h.last hn i (Nat.le_refl _) hi
 refine ⟨by simp [hcl],by omega,by omega,fun _=>hn,fun k h1 h2=>?_,fun j k h1 h2=>?_,fun k h1=>?_,fun _ k h1 h2=>?_,fun d=>?_⟩
 ·rw [hg,if_neg (by omega)];exact h.rest k (by omega) h2
 ·rw [hg,hg,if_neg (by omega)]
  by_cases e:k=n - 1
  ·rw [if_pos e];subst e;exact h.gap j (n - 1) h1 h2
  ·rw [if_neg e];exact h.gap j k h1 (by omega)
 ·rw [hg]
  by_cases e:k=n - 1
  ·rw [if_pos e];simp only [];omega
  ·rw [if_neg e];exact h.ok k (by omega)
 ·rw [hg,if_pos rfl];exact h.last hn k (by omega) h2
 ·obtain ⟨m,rfl⟩ : ∃ m,n=m+1:=⟨n - 1,by omega⟩
  simp only [Nat.add_sub_cancel] at *
  rw [take_gD (by simp;omega),hg,if_pos rfl,set_take (Nat.le_refl _),memB_app,← h.mem d,drop_gD hi,memB_cons (gD l i),take_gD (by omega),memB_app,memB_cons,memB_cons,memB_nil,Bool.or_false,Bool.or_false]
  have e:decide ((gD cur m).from_≤d∧d<x)=(decide ((gD cur m).from_≤d∧d<(gD cur m).to) || decide ((gD l i).from_≤d∧d<(gD l i).to)):=by
   rw [← Bool.decide_or]
   congr 1;refine propext ⟨fun h=>?_,fun h=>?_⟩ <;> omega
  show (memB (cur.take m) d || decide ((gD cur m).from_≤d∧d<x) || memB (l.drop (i+1)) d)=_
  rw [e]
  cases memB (cur.take m) d <;> cases decide ((gD cur m).from_≤d∧d<(gD cur m).to) <;> cases decide ((gD l i).from_≤d∧d<(gD l i).to) <;> cases memB (l.drop (i+1)) d <;> rfl
theorem MergeI.nrm {l cur:List PSpan} {n i:Nat} (h:MergeI l cur n i):NrmS (cur.take n):=by
 have hl:=h.le
 have hcl:=h.len
 have hil:=h.il
 have hlen:(cur.take n).length=n:=by rw [List.length_take];omega
 have hg : ∀ k (hk:k<(cur.take n).length),(cur.take n)[k]=gD cur k:=fun k hk=>by
  rw [List.getElem_take];unfold gD List.getD;rw [List.getElem?_eq_getElem (by omega)];rfl
 refine ⟨?_,fun s hs=>?_⟩
 ·rw [List.pairwise_iff_getElem]
  intro j k hj hk hjk
  rw [hg j hj,hg k hk]
  exact h.gap j k hjk (by omega)
 ·obtain ⟨k,hk,e⟩:=List.getElem_of_mem hs
  rw [← e,hg k hk]
  exact h.ok k (by omega)
theorem MergeI.done {l cur:List PSpan} {n i:Nat} (h:MergeI l cur n i) (hi:l.length≤i) (d:Int):memB (cur.take n) d=memB l d:=by
 rw [← h.mem d,List.drop_eq_nil_of_le hi,memB_nil,Bool.or_false]
theorem clipL_at {l l':List PSpan} (hp:l'.Perm (clipL l)) : ∀ k,k<l'.length→0≤(gD l' k).from_∧(gD l' k).from_<(gD l' k).to∧(gD l' k).to≤1048577:=fun k hk=>clipL_ok (hp.mem_iff.1 (gD_mem hk))
noncomputable def normL (l:List PSpan):List PSpan:=nf (memB l)
theorem normL_eq {l r:List PSpan} (h:NrmS r) (hm : ∀ d,memB r d=memB (clipL l) d):r=normL l:=nf_eq h fun d=>by rw [hm,clipL_mem]
theorem normL_nil {l:List PSpan} (h:clipL l = []) : []=normL l:=normL_eq nrm_nil fun d=>by rw [h]
end Go.Ev

namespace Go.Ev
open Go
theorem compact_ok {zs:List Int} (hs:zs.Pairwise fun a b=>a≤b):(compactZ zs).Pairwise (fun a b=>a<b)∧∀ z,z∈compactZ zs↔z∈zs:=by
 generalize hd:zs.toArray=d
 have hsz:d.size=zs.length:=by rw [← hd];simp
 have hx : ∀ j (hj:j<zs.length),d[j]! = zs[j]:=fun j hj=>by rw [getElem!_pos d j (by omega)];subst hd;simp
 have mono : ∀ i j,i≤j→j<zs.length→d[i]!≤d[j]!:=fun i j hij hj=>by
  rcases Nat.lt_or_ge i j with q | q
  ·rw [hx i (by omega),hx j hj];exact List.pairwise_iff_getElem.1 hs i j (by omega) hj q
  ·have:i=j:=by omega
   subst this;exact Int.le_refl _
 have key : ∀ m,m≤zs.length→(Lib.compactUpTo d m).Pairwise (fun a b=>a<b)∧(∀ z,z∈Lib.compactUpTo d m→∃ j,j<m∧z=d[j]!)∧∀ j,j<m→d[j]!∈Lib.compactUpTo d m:=by
  intro m
  induction m with
  | zero=>intro _;refine ⟨?_,?_,?_⟩ <;> simp [Lib.compactUpTo]
  | succ m ih=>
   intro hm
   obtain ⟨h1,h2,h3⟩:=ih (by omega)
   rw [Lib.compactUpTo_succ]
   cases hk:Lib.keeps d m with
   | true=>
    simp only [if_true]
    have hk':m=0∨d[m]!≠d[m - 1]!:=by simpa [Lib.keeps] using hk
    refine ⟨List.pairwise_append.2 ⟨h1,by simp,fun a ha b hb=>?_⟩,fun z hz=>?_,fun j hj=>?_⟩
    ·obtain ⟨j,hj,rfl⟩:=h2 a ha
     have hb:b=d[m]!:=by simpa using hb
     subst hb
     have e1:=mono j (m - 1) (by omega) (by omega)
     have e2:=mono (m - 1) m (by omega) (by omega)
     rcases hk' with e | e
     ·omega
     ·have:d[m]!≠d[m - 1]!:=e
      omega
    ·rcases List.mem_append.1 hz with h | h
     ·obtain ⟨j,hj,e⟩:=h2 z h;exact ⟨j,by omega,e⟩
     ·exact ⟨m,by omega,by simpa using h⟩
    ·rcases Nat.lt_or_ge j m with q | q
     ·exact List.mem_append_left _ (h3 j q)
     ·have:j=m:=by omega
      subst this;simp
   | false=>
    simp only [Bool.false_eq_true,if_false,List.append_nil]
    have hk' : ¬ (m=0∨d[m]!≠d[m - 1]!):=by
     intro h;rw [Lib.keeps,decide_eq_true h] at hk;cases hk
    have hm0:m≠0:=fun e=>hk' (.inl e)
    have e:d[m]! = d[m - 1]!:=Classical.byContradiction fun e=>hk' (.inr e)
    refine ⟨h1,fun z hz=>?_,fun j hj=>?_⟩
    ·obtain ⟨j,hj,e⟩:=h2 z hz;exact ⟨j,by omega,e⟩
    ·rcases Nat.lt_or_ge j m with q | q
     ·exact h3 j q
     ·have:j=m:=by omega
      subst this;rw [e];exact h3 _ (by omega)
 obtain ⟨h1,h2,h3⟩:=key zs.length (Nat.le_refl _)
 have e:compactZ zs=Lib.compactUpTo d zs.length:=by unfold compactZ Lib.compact;rw [hd]
 rw [e]
 refine ⟨h1,fun z=>⟨fun hz=>?_,fun hz=>?_⟩⟩
 ·obtain ⟨j,hj,rfl⟩:=h2 z hz
  rw [hx j hj];exact List.getElem_mem _
 ·obtain ⟨j,hj,rfl⟩:=List.getElem_of_mem hz
  rw [← hx j hj];exact h3 j hj
theorem NrmS.at {l:List PSpan} (h:NrmS l) {j k:Nat} (hjk:j<k) (hk:k<l.length):(gD l j).to<(gD l k).from_:=by
 have:=List.pairwise_iff_getElem.1 h.gap j k (by omega) hk hjk
 simpa [gD,List.getD,List.getElem?_eq_getElem hk,List.getElem?_eq_getElem (show j<l.length by omega)] using this
theorem NrmS.okAt {l:List PSpan} (h:NrmS l) {k:Nat} (hk:k<l.length):0≤(gD l k).from_∧(gD l k).from_<(gD l k).to∧(gD l k).to≤1048577:=h.ok _ (gD_mem hk)
theorem memB_at {l:List PSpan} {d:Int} : memB l d=true↔∃ k,k<l.length∧(gD l k).from_≤d∧d<(gD l k).to:=by
 rw [memB_iff]
 constructor
 ·rintro ⟨s,h1,h2⟩
  obtain ⟨k,hk,e⟩:=List.getElem_of_mem h1
  have:gD l k=s:=by rw [← e];simp [gD,List.getD,List.getElem?_eq_getElem hk]
  exact ⟨k,hk,by rw [this];exact h2⟩
 ·rintro ⟨k,hk,h2⟩
  exact ⟨_,gD_mem hk,h2⟩
theorem cmpI_zero {a b:Int} : eqI (cmpI a b) 0=true↔a=b:=by
 unfold cmpI
 cases h:ltI a b with
 | true => have:=ltI_true h;constructor
           ·intro h;cases h
           ·intro h;omega
 | false=>
  have:=ltI_false h
  cases h2:ltI b a with
  | true => have:=ltI_true h2;constructor
            ·intro h;cases h
            ·intro h;omega
  | false=>have:=ltI_false h2;exact ⟨fun _=>by omega,fun _=>rfl⟩
theorem memS_eq {l:List PSpan} (h:NrmS l) (d:Int):memS l d=memB l d:=by
 have hi:=cntS_iff (d:=d) h.sort
 have hc:=cntS_le l d
 rw [Bool.eq_iff_iff,memB_at]
 unfold memS isAt
 simp only [Bool.or_eq_true,Bool.and_eq_true]
 constructor
 ·rintro (⟨h1,h2⟩ | ⟨h1,h2⟩)
  ·have h1:=ltI_true h1
   simp only [Int.ofNat_eq_natCast] at h1
   have h2:=cmpI_zero.1 h2
   have:=h.okAt (k:=cntS l d) (by omega)
   exact ⟨cntS l d,by omega,by omega,by omega⟩
  ·have h1:=ltI_true h1
   have h2:=ltI_true h2
   simp only [Int.ofNat_eq_natCast] at h1
   have h3:=ltI_true ((hi (cntS l d - 1) (by omega)).2 (by omega))
   exact ⟨cntS l d - 1,by omega,by omega,h2⟩
 ·rintro ⟨k,hk,h1,h2⟩
  by_cases e:(gD l k).from_=d
  ·left
   have e1 : ¬ k<cntS l d:=fun q=>by have:=ltI_true ((hi k hk).2 q);omega
   have e2 : ¬ cntS l d<k:=fun q=>by
    have h3:=h.at q hk
    have h4:=h.okAt (k:=cntS l d) (by omega)
    have:=(hi (cntS l d) (by omega)).1 (ltI_t (by omega))
    omega
   have e3:cntS l d=k:=by omega
   rw [e3]
   exact ⟨ltI_t (by simp only [Int.ofNat_eq_natCast];omega),cmpI_zero.2 e⟩
  ·right
   have e1:k<cntS l d:=(hi k hk).1 (ltI_t (by omega))
   have e2 : ¬ k+1<cntS l d:=fun q=>by
    have h3:=h.at (j:=k) (k:=k+1) (by omega) (by omega)
    have:=ltI_true ((hi (k+1) (by omega)).2 q)
    omega
   have e3:cntS l d - 1=k:=by omega
   rw [e3]
   exact ⟨ltI_t (by simp only [Int.ofNat_eq_natCast];omega),ltI_t h2⟩
def ends (l:List PSpan):List Int:=l.flatMap fun s=> [s.from_,s.to]
theorem ends_cons (s:PSpan) (r:List PSpan):ends (s::r) = [s.from_,s.to]++ends r:=by simp [ends]
theorem ends_len : ∀ (l:List PSpan),(ends l).length=2 * l.length
 | []=>rfl
 | s::r=>by rw [ends_cons];simp [ends_len r];omega
theorem ends_mem {l:List PSpan} {s:PSpan} (h:s∈l):s.from_∈ends l∧s.to∈ends l:=by
 unfold ends
 simp only [List.mem_flatMap,List.mem_cons,List.not_mem_nil,or_false]
 exact ⟨⟨s,h, .inl rfl⟩,⟨s,h, .inr rfl⟩⟩
def segs (g:Int→Bool):List Int→List PSpan
 | []=> []
 | a::r=>match r with
  | []=> []
  | b::_=>match g a with
   | true=>⟨a,b⟩::segs g r
   | false=>segs g r
theorem segs_two (g:Int→Bool) (a b:Int) (r:List Int):segs g (a::b::r)=match g a with | true=>⟨a,b⟩::segs g (b::r) | false=>segs g (b::r):=by
 rw [segs]
def lastI:Int→List Int→Int
 | a, []=>a
 | _,b::r=>lastI b r
theorem lastI_ge : ∀ {r:List Int} {a:Int},(a::r).Pairwise (fun a b=>a<b)→a≤lastI a r∧∀ z,z∈r→z≤lastI a r
 | [],a,_=>⟨Int.le_refl _,fun z h=>by cases h⟩
 | b::r,a,h=>by
  obtain ⟨h1,h2⟩:=List.pairwise_cons.1 h
  have h3:=h1 b (List.mem_cons_self ..)
  obtain ⟨k1,k2⟩:=lastI_ge h2
  refine ⟨by rw [lastI];omega,fun z hz=>?_⟩
  rw [lastI]
  rcases List.mem_cons.1 hz with e | e
  ·rw [e];exact k1
  ·exact k2 z e
theorem segs_mem {g:Int→Bool} {C:List Int} (hg : ∀ x y,(∀ z,z∈C→z≤x∨y≤z)→∀ d,x≤d→d<y→g d=g x) :
  ∀ (r:List Int) (a:Int),(a::r).Pairwise (fun a b=>a<b)→(∀ z,z∈C→z≤a∨z∈r)→∀ d,memB (segs g (a::r)) d=(decide (a≤d∧d<lastI a r) && g d)
 | [],a,_,_,d=>by
  have:decide (a≤d∧d<lastI a [])=false:=by rw [decide_eq_false_iff_not];simp only [lastI];omega
  rw [this];rfl
 | b::r,a,hp,hC,d=>by
  obtain ⟨h1,h2⟩:=List.pairwise_cons.1 hp
  have hab:=h1 b (List.mem_cons_self ..)
  obtain ⟨hb2,h3⟩:=List.pairwise_cons.1 h2
  have hl:=(lastI_ge h2).1
  have ih:=segs_mem hg r b h2 (fun z hz=>by
   rcases hC z hz with e | e
   ·exact .inl (by omega)
   ·rcases List.mem_cons.1 e with e | e
    ·exact .inl (by omega)
    ·exact .inr e) d
  have hc : ∀ d,a≤d→d<b→g d=g a:=hg a b fun z hz=>by
   rcases hC z hz with e | e
   ·exact .inl e
   ·rcases List.mem_cons.1 e with e | e
    ·exact .inr (by omega)
    ·have:=hb2 z e;exact .inr (by omega)
  have e0:memB (segs g (a::b::r)) d=((g a && decide (a≤d∧d<b)) || memB (segs g (b::r)) d):=by
   rw [segs_two]
   cases g a with
   | true=>rw [memB_cons,Bool.true_and]
   | false=>rw [Bool.false_and,Bool.false_or]
  rw [e0,ih,show lastI a (b::r)=lastI b r from rfl]
  by_cases q1:a≤d∧d<b
  ·have e1:decide (b≤d∧d<lastI b r)=false:=by rw [decide_eq_false_iff_not];omega
   have e2:decide (a≤d∧d<lastI b r)=true:=by rw [decide_eq_true_eq];omega
   rw [decide_eq_true q1,e1,e2,hc d q1.1 q1.2];simp
  ·have e2:decide (a≤d∧d<lastI b r)=decide (b≤d∧d<lastI b r):=decide_eq_decide.2 ⟨fun h=>by omega,fun h=>by omega⟩
   rw [decide_eq_false q1,e2];simp
def cutsOf (A:List PSpan):List Int:=compactZ (sortZ (ends A))
theorem cuts_ok (A:List PSpan):(cutsOf A).Pairwise (fun a b=>a<b)∧∀ z,z∈cutsOf A↔z∈ends A:=by
 obtain ⟨h1,h2⟩:=compact_ok (sortZ_sorted (ends A))
 exact ⟨h1,fun z=>(h2 z).trans (sortZ_perm (ends A)).mem_iff⟩
theorem memB_const {A l:List PSpan} (hl : ∀ s,s∈l→s∈A) {x y:Int} (hz : ∀ z,z∈cutsOf A→z≤x∨y≤z) {d:Int} (h1:x≤d) (h2:d<y):memB l d=memB l x:=by
 have key : ∀ s,s∈l→((s.from_≤d∧d<s.to)↔(s.from_≤x∧x<s.to)):=fun s hs=>by
  obtain ⟨k1,k2⟩:=ends_mem (hl s hs)
  have:=hz _ (((cuts_ok A).2 _).2 k1)
  have:=hz _ (((cuts_ok A).2 _).2 k2)
  omega
 rw [Bool.eq_iff_iff,memB_iff,memB_iff]
 exact ⟨fun ⟨s,h3,h4⟩=>⟨s,h3,(key s h3).1 h4⟩,fun ⟨s,h3,h4⟩=>⟨s,h3,(key s h3).2 h4⟩⟩
theorem segs_both {op:Bool→Bool→Bool} (h0:op false false=false) (A B:List PSpan) (d:Int):memB (segs (fun d=>op (memB A d) (memB B d)) (cutsOf (A++B))) d=op (memB A d) (memB B d):=by
 obtain ⟨h1,h2⟩:=cuts_ok (A++B)
 have out : ∀ (z1 z2:Int),(∀ z,z∈cutsOf (A++B)→z1≤z∧z≤z2)→¬ (z1≤d∧d<z2)→op (memB A d) (memB B d)=false:=fun z1 z2 hz hd=>by
  have no : ∀ l:List PSpan,(∀ s,s∈l→s∈A++B)→memB l d=false:=fun l hl=>by
   cases q:memB l d with
   | false=>rfl
   | true=>
    obtain ⟨s,k1,k2,k3⟩:=memB_iff.1 q
    obtain ⟨k4,k5⟩:=ends_mem (hl s k1)
    have:=hz _ ((h2 _).2 k4)
    have:=hz _ ((h2 _).2 k5)
    omega
  rw [no A fun s hs=>List.mem_append_left _ hs,no B fun s hs=>List.mem_append_right _ hs,h0]
 cases hC:cutsOf (A++B) with
 | nil=>
  rw [segs,memB_nil]
  exact (out (d+1) d (fun z hz=>by rw [hC] at hz;cases hz) (by omega)).symm
 | cons a r=>
  rw [hC] at h1
  have hl:=lastI_ge h1
  have hp:=(List.pairwise_cons.1 h1).1
  rw [segs_mem (C:=cutsOf (A++B)) (fun x y hz d h3 h4=>by
   show op (memB A d) (memB B d)=op (memB A x) (memB B x)
   rw [memB_const (A:=A++B) (fun s hs=>List.mem_append_left _ hs) hz h3 h4,memB_const (A:=A++B) (fun s hs=>List.mem_append_right _ hs) hz h3 h4]) r a h1 (fun z hz=>by
   rw [hC] at hz
   rcases List.mem_cons.1 hz with e | e
   ·exact .inl (by omega)
   ·exact .inr e) d]
  by_cases q:a≤d∧d<lastI a r
  ·rw [decide_eq_true q,Bool.true_and]
  ·rw [decide_eq_false q,Bool.false_and]
   refine (out a (lastI a r) (fun z hz=>?_) q).symm
   rw [hC] at hz
   rcases List.mem_cons.1 hz with e | e
   ·rw [e];exact ⟨Int.le_refl _,hl.1⟩
   ·have:=hp z e;exact ⟨by omega,hl.2 z e⟩
theorem cutsOf_len (A:List PSpan):(cutsOf A).length≤2 * A.length:=by
 have:=compactZ_le (sortZ (ends A))
 have h2:=(sortZ_perm (ends A)).length_eq
 rw [ends_len] at h2
 unfold cutsOf;omega
theorem gD_appL {α:Type} [Inhabited α] {l z:List α} {k:Nat} (h:k<l.length):gD (l++z) k=gD l k:=by
 simp [gD,List.getD,List.getElem?_append_left h]
theorem segs_drop {g:Int→Bool} {C:List Int} {x:Nat} (h1:1≤x) (h2:x<C.length):segs g (C.drop (x - 1))=match g (gD C (x - 1)) with | true=>⟨gD C (x - 1),gD C x⟩::segs g (C.drop (x+1 - 1)) | false=>segs g (C.drop (x+1 - 1)):=by
 have e1:=drop_gD (l:=C) (n:=x - 1) (by omega)
 rw [show x - 1+1=x from by omega] at e1
 have e2:=drop_gD (l:=C) (n:=x) h2
 rw [e1,e2,segs_two,← e2,Nat.add_sub_cancel]
theorem segs_drop_y {g:Int→Bool} {C Z:List Int} {x:Nat} (h1:1≤x) (h2:x<C.length) (hg:g (gD (C++Z) (x - 1))=true):segs g (C.drop (x - 1))=⟨gD (C++Z) (x - 1),gD (C++Z) x⟩::segs g (C.drop (x+1 - 1)):=by
 rw [gD_appL (by omega)] at hg
 rw [segs_drop h1 h2,hg,gD_appL (by omega),gD_appL h2]
theorem segs_drop_n {g:Int→Bool} {C Z:List Int} {x:Nat} (h1:1≤x) (h2:x<C.length) (hg:g (gD (C++Z) (x - 1))=false):segs g (C.drop (x - 1))=segs g (C.drop (x+1 - 1)):=by
 rw [gD_appL (by omega)] at hg
 rw [segs_drop h1 h2,hg]
theorem segs_drop_end {g:Int→Bool} {C:List Int} {x:Nat} (h1:1≤x) (h2:C.length≤x):segs g (C.drop (x - 1)) = []:=by
 have:(C.drop (x - 1)).length≤1:=by rw [List.length_drop];omega
 match C.drop (x - 1),this with
 | [],_=>rfl
 | [_],_=>rfl
 | _::_::_,h=>simp at h
noncomputable def bothL (op:Bool→Bool→Bool) (a b:List PSpan):List PSpan:=nf fun d=>op (memB a d) (memB b d)
theorem normL_nrm (l:List PSpan):NrmS (normL l):=nf_nrm _
theorem normL_mem (l:List PSpan) (d:Int):memB (normL l) d=(inR d && memB l d):=nf_mem _ d
theorem both_done {op:Bool→Bool→Bool} (h0:op false false=false) {a b A B:List PSpan} (hA:normL a=A) (hB:normL b=B):normL (segs (fun d=>op (memS A d) (memS B d)) (cutsOf (A++B)))=bothL op a b:=by
 have nA:NrmS A:=hA ▸ normL_nrm a
 have nB:NrmS B:=hB ▸ normL_nrm b
 have e:(fun d=>op (memS A d) (memS B d))=fun d=>op (memB A d) (memB B d):=funext fun d=>by rw [memS_eq nA,memS_eq nB]
 rw [e]
 unfold normL bothL
 refine nf_congr fun d hd=>?_
 rw [segs_both h0,← hA,← hB,normL_mem,normL_mem,hd,Bool.true_and,Bool.true_and]
end Go.Ev

namespace Go.Ev
open Go
section
variable {H : Type} {enc : TypeId × Value → H} {P : Program} {w : World} {base : Nat} {spare : Nat → Bool} {held : Bool}
inductive VL (M:Mem):List AV→List Value→Prop
 | nil:VL M [] []
 | cons {x:AV} {v:Value} {xs:List AV} {vs:List Value} (h:VRel (fun _=>none) M x v) (t:VL M xs vs):VL M (x::xs) (v::vs)
theorem VL.append {M:Mem} {xs ys:List AV} {a b:List Value} (h:VL M xs a) (k:VL M ys b):VL M (xs++ys) (a++b):=by
 induction h with
 | nil=>exact k
 | cons h _ ih=>exact .cons h ih
theorem VL.len {M:Mem} {xs:List AV} {a:List Value} (h:VL M xs a):xs.length=a.length:=by
 induction h with
 | nil=>rfl
 | cons _ _ ih=>simp [ih]
theorem VL.at_ {M:Mem} {xs:List AV} {a:List Value} (h:VL M xs a) : ∀ (j:Nat) (y:AV),xs[j]? = some y→∃ v,a[j]? = some v∧VRel (fun _=>none) M y v:=by
 induction h with
 | nil=>intro j y hj;simp at hj
 | cons h _ ih=>
  intro j y hj
  cases j with
  | zero=>simp at hj;subst hj;exact ⟨_,rfl,h⟩
  | succ j=>simp at hj;simpa using ih j y hj
theorem VL.one {M:Mem} {x:AV} {cs:List Value} (h:VL M [x] cs) : ∃ v,cs = [v]∧VRel (fun _=>none) M x v:=by
 cases h with
 | cons h t=>cases t;exact ⟨_,rfl,h⟩
def Wt (P:Program) (t:TypeId) (d:DataW H):Prop:=∀ m,m∈d.weights P t→m≤reachBytes
theorem weightsAll_mem {e:TypeId} {d:DataW H} {m:Nat} (hm:m∈d.weights P e) : ∀ {l:List (DataW H)},d∈l→m∈DataW.weightsAll P e l
 | [],h=>by cases h
 | a::r,h=>by
  unfold DataW.weightsAll
  rcases List.mem_cons.1 h with rfl | h
  ·exact List.mem_append_left _ hm
  ·exact List.mem_append_right _ (weightsAll_mem hm h)
theorem weightsEach_mem {t:TypeId} {d:DataW H} {m:Nat} (hm:m∈d.weights P t) : ∀ {ts:List TypeId} {l:List (DataW H)} (i:Nat),ts[i]? = some t→l[i]? = some d→m∈DataW.weightsEach P ts l
 | [],_,i,h,_=>by simp at h
 | _::_, [],i,_,h=>by simp at h
 | u::ts,a::r,i,h1,h2=>by
  unfold DataW.weightsEach
  cases i with
  | zero=>simp at h1 h2;subst h1;subst h2;exact List.mem_append_left _ hm
  | succ i=>exact List.mem_append_right _ (weightsEach_mem hm i (by simpa using h1) (by simpa using h2))
def consec (P:Program):List Field→Nat→Nat→Bool
 | [],off,n=>Nat.beq off n
 | f::r,off,n=>Nat.beq f.offset off && consec P r (off+P.cellsOf f.type) n
def VF (M:Mem) (P:Program) (cs:List Value):List Field→List (List AV)→Prop
 | [], []=>True
 | f::fs,xs::xss=>VL M xs ((cs.drop f.offset).take (P.cellsOf f.type))∧VF M P cs fs xss
 | _,_=>False
theorem VF.vl {M:Mem} {cs:List Value} : ∀ {fs:List Field} {xss:List (List AV)} {off:Nat},consec P fs off cs.length=true→VF M P cs fs xss→VL M xss.flatten (cs.drop off)
 | [], [],off,h,_=>by
  have:=Nat.eq_of_beq_eq_true h
  rw [this,List.drop_length];exact .nil
 | [],_::_,_,_,h=>h.elim
 | _::_, [],_,_,h=>h.elim
 | f::fs,xs::xss,off,h,k=>by
  unfold consec at h
  rw [Bool.and_eq_true] at h
  have ho:=Nat.eq_of_beq_eq_true h.1
  have h1:=k.1
  rw [ho] at h1
  have h2:=VF.vl h.2 k.2
  have e:cs.drop off=(cs.drop off).take (P.cellsOf f.type)++cs.drop (off+P.cellsOf f.type):=by
   rw [← List.drop_drop,List.take_append_drop]
  rw [List.flatten_cons,e]
  exact h1.append h2
def TF (enc:TypeId × Value→H) (P:Program) (w:World) (base:Nat) (spare:Nat→Bool) (held:Bool) (n:Nat) (cs:List Value):List Field→Prop
 | []=>True
 | f::fs=>(∃ d p,DataW.trod enc P w base spare held n f.type ((cs.drop f.offset).take (P.cellsOf f.type))=some (d,p)∧Wt P f.type d)∧TF enc P w base spare held n cs fs
theorem TF_of {n:Nat} {cs:List Value} : ∀ (fs:List Field),(∀ (i:Nat) (f:Field),fs[i]? = some f→∃ d p,DataW.trod enc P w base spare held n f.type ((cs.drop f.offset).take (P.cellsOf f.type))=some (d,p)∧Wt P f.type d)→TF enc P w base spare held n cs fs
 | [],_=>trivial
 | f::fs,h=>⟨h 0 f rfl,TF_of fs fun i g hg=>h (i+1) g (by simpa using hg)⟩
theorem struct_vl {t:TypeId} {fs:Array Field} {fuel:Nat} {cs:List Value} {d:DataW H} {p:List MemPlace} (hu:P.underlying t=some (.struct fs)) (hc:consec P fs.toList 0 (P.cellsOf t)=true)
  (h:DataW.trod enc P w base spare held fuel t cs=some (d,p)) (hw:Wt P t d) :
  ∃ n,fuel=n+1∧TF enc P w base spare held n cs fs.toList∧∀ xss,VF (memOf w) P cs fs.toList xss→VL (memOf w) xss.flatten cs:=by
 obtain ⟨xs,n,rfl,h1,h2,h3,h4⟩:=DataW.trod_struct hu h
 simp only [Prod.mk.injEq] at h1
 obtain ⟨rfl,_⟩:=h1
 refine ⟨n,rfl,TF_of _ fun i f hf=>?_,fun xss hx=>?_⟩
 ·have hf':fs[i]? = some f:=by simpa using hf
  have hi:i<xs.length:=by rw [h3];exact (Array.getElem?_eq_some_iff.1 hf').1
  have e:=h4 i f hf'
  rw [List.getElem?_eq_getElem hi] at e
  refine ⟨xs[i].1,xs[i].2,e,fun m hm=>hw m ?_⟩
  unfold DataW.weights
  rw [hu]
  exact weightsEach_mem hm i (by rw [List.getElem?_map,hf];rfl) (by rw [List.getElem?_map,List.getElem?_eq_getElem hi];rfl)
 ·have:=VF.vl (off:=0) (by rw [h2];exact hc) hx
  simpa using this
theorem int_vl {t:TypeId} {fuel:Nat} {cs:List Value} {d:DataW H} {p:List MemPlace} (hu:P.underlying t=some (.int .i64)) (h:DataW.trod enc P w base spare held fuel t cs=some (d,p)) : ∃ x,VL (memOf w) [.int .i64 x] cs:=by
 obtain ⟨x,rfl,_⟩:=DataW.trod_int hu h
 exact ⟨x, .cons (.int _ _) .nil⟩
theorem str_vl {t:TypeId} {fuel:Nat} {cs:List Value} {d:DataW H} {p:List MemPlace} (hu:P.underlying t=some .string) (h:DataW.trod enc P w base spare held fuel t cs=some (d,p)) : ∃ s,VL (memOf w) [.str s] cs:=by
 obtain ⟨⟨⟨s⟩⟩,rfl,_⟩:=DataW.trod_string hu h
 exact ⟨s, .cons (.str _) .nil⟩
theorem list_of {α:Type} {Q:Nat→α→Prop} : ∀ (n:Nat),(∀ i,i<n→∃ x,Q i x)→∃ l:List α,l.length=n∧∀ i x,l[i]? = some x→Q i x
 | 0,_=>⟨[],rfl,fun i x h=>by simp at h⟩
 | n+1,h=>by
  obtain ⟨l,h1,h2⟩:=list_of n fun i hi=>h i (by omega)
  obtain ⟨y,hy⟩:=h n (by omega)
  refine ⟨l++ [y],by simp [h1],fun i x hx=>?_⟩
  by_cases hi:i<l.length
  ·rw [List.getElem?_append_left hi] at hx;exact h2 i x hx
  ·rw [List.getElem?_append_right (by omega)] at hx
   have:i - l.length=0:=by
    cases hq:i - l.length with
    | zero=>rfl
    | succ k=>rw [hq] at hx;simp at hx
   rw [this] at hx;simp at hx;subst hx
   have:i=n:=by omega
   rw [this];exact hy
theorem Sc_of {x:AV} (h:x.cells.all scalB=true):Sc x:=fun y hy=>List.all_eq_true.1 h y hy
theorem slice_vl47 {α:Type} (el:α→AV) (fit:α→Prop) {t e:TypeId} {fuel:Nat} {cs:List Value} {d:DataW H} {p:List MemPlace} (hu:P.underlying t=some (.slice e)) (hsz:Nat.blt 0 (P.cellsOf e)=true) (hby:Nat.blt 0 (P.bytesOf e)=true)
  (hel : ∀ x,(el x).cells.length=P.cellsOf e) (hsc : ∀ x,(el x).cells.all scalB=true) (htop : ∀ x,(el x).top=0)
  (hrec : ∀ m,m<fuel→∀ cs d p,DataW.trod enc P w base spare held m e cs=some (d,p)→Wt P e d→∃ x,fit x∧VL (memOf w) (el x).cells cs)
  (h:DataW.trod enc P w base spare held fuel t cs=some (d,p)) (hw:Wt P t d) :
  ∃ l:List α,l.length<2 ^ 47∧(∀ x,x∈l→fit x)∧VL (memOf w) [.ls (l.map el)] cs:=by
 rw [blt_iff] at hsz hby
 simp only [decide_eq_true_eq] at hsz hby
 rcases DataW.trod_slice hu h with ⟨rfl,_⟩ | ⟨a,len,cap,elems,rest,n,rfl,rfl,h1,h2,h3,h4,h5,h6,_,_⟩
 ·exact ⟨[],Nat.two_pow_pos 47,fun x h=>absurd h (List.not_mem_nil), .cons .lsn .nil⟩
 ·simp only [Prod.mk.injEq] at h1
  obtain ⟨rfl,_⟩:=h1
  have hwl:len<2 ^ 47:=by
   have:=hw ((elems.length+rest.length) * P.bytesOf e) (by
    unfold DataW.weights
    rw [hu]
    simp)
   have h7:elems.length≤(elems.length+rest.length) * P.bytesOf e:=Nat.le_trans (Nat.le_add_right _ _) (Nat.le_mul_of_pos_right _ hby)
   have:elems.length≤reachBytes:=Nat.le_trans h7 this
   rw [h5] at this
   exact Nat.lt_of_le_of_lt this (by decide)
  have el0 : ∀ i,i<len→∃ x,fit x∧∃ cs:List Value,cs.length=P.cellsOf e∧(∀ j,j<P.cellsOf e→w.cell? ((a.add (i * P.cellsOf e)).add j)=cs[j]?)∧VL (memOf w) (el x).cells cs:=by
   intro i hi
   have k5:=h6 i hi
   have hi':i<elems.length:=by omega
   rw [List.getElem?_eq_getElem hi'] at k5
   simp only [Option.bind_eq_some_iff] at k5
   obtain ⟨cs,c1,c2⟩:=k5
   obtain ⟨z1,z2⟩:=cells?_at c1
   obtain ⟨x,f1,f2⟩:=hrec n (by omega) cs elems[i].1 elems[i].2 c2 (fun m hm=>hw m (by
    unfold DataW.weights
    rw [hu]
    exact List.mem_cons_of_mem _ (List.mem_append_left _ (weightsAll_mem hm (List.mem_map.2 ⟨elems[i],List.getElem_mem hi',rfl⟩)))))
   exact ⟨x,f1,cs,z1,z2,f2⟩
  obtain ⟨l,q1,q2⟩:=list_of len el0
  refine ⟨l,by omega,fun x hx=>?_, .cons ?_ .nil⟩
  ·obtain ⟨i,hi⟩:=List.mem_iff_getElem?.1 hx
   exact (q2 i x hi).1
  ·have q1':(l.map el).length=len:=by rw [List.length_map,q1]
   generalize hys:l.map el=ys at *
   have q3 : ∀ i y,ys[i]? = some y→∃ cs:List Value,cs.length=P.cellsOf e∧(∀ j,j<P.cellsOf e→w.cell? ((a.add (i * P.cellsOf e)).add j)=cs[j]?)∧VL (memOf w) y.cells cs:=by
    intro i y hy
    rw [← hys,List.getElem?_map,Option.map_eq_some_iff] at hy
    obtain ⟨x,hx,rfl⟩:=hy
    exact (q2 i x hx).2
   have q4 : ∀ y,y∈ys→y.cells.length=P.cellsOf e∧Sc y:=by
    intro y hy
    rw [← hys,List.mem_map] at hy
    obtain ⟨x,_,rfl⟩:=hy
    exact ⟨hel x,Sc_of (hsc x)⟩
   have q5:AV.tops ys=0:=by rw [← hys];exact tops_map htop l
   have addadd : ∀ i j:Nat,a.spot=none→(a.add i).add j=⟨a.block,a.off+i+j,none⟩:=by
    intro i j hs
    obtain ⟨blk,off,spot⟩:=a
    simp at hs
    subst hs
    by_cases hi:i=0 <;> by_cases hj:j=0 <;> simp [Addr.add,hi,hj]
   have spot:ys≠ []→a.spot=none:=by
    intro hne
    obtain ⟨x,hx⟩ : ∃ x,ys[0]? = some x:=by
     cases ys with
     | nil=>exact absurd rfl hne
     | cons x r=>exact ⟨x,rfl⟩
    obtain ⟨cs,c1,c2,_⟩:=q3 0 x hx
    have:=c2 0 hsz
    rw [List.getElem?_eq_getElem (by omega)] at this
    simp only [Nat.zero_mul] at this
    have:=(cell?_mem this).1
    simpa [Addr.add] using this
   have cell : ∀ (i j:Nat) (x:AV),ys[i]? = some x→j<P.cellsOf e→∃ c v,memOf w a.block=some c∧c[a.off+i * P.cellsOf e+j]? = some v∧∀ y,x.cells[j]? = some y→VRel (fun _=>none) (memOf w) y v:=by
    intro i j x hx hj
    obtain ⟨cs,c1,c2,c3⟩:=q3 i x hx
    have:=c2 j hj
    rw [List.getElem?_eq_getElem (by omega),addadd _ _ (spot (by intro h;rw [h] at hx;simp at hx))] at this
    obtain ⟨_,c,m1,m2⟩:=cell?_mem this
    refine ⟨c,_,m1,m2,fun y hy=>?_⟩
    obtain ⟨v,g1,g2⟩:=c3.at_ j y hy
    rw [List.getElem?_eq_getElem (by omega)] at g1
    cases g1
    exact g2
   refine .lsp ?_ q5
   by_cases hne:ys = []
   ·subst hne
    simp at q1'
    subst q1'
    exact .ps (sz:=P.cellsOf e) (c:=#[]) (by simp) (fun h=>by cases h) (fun h=>absurd rfl h) (fun x h=>by simp at h) (fun i x j y h=>by simp at h)
   ·have hlen:0<ys.length:=List.length_pos_iff.2 hne
    obtain ⟨x0,hx0⟩ : ∃ x,ys[ys.length - 1]? = some x:=⟨ys[ys.length - 1],by simp⟩
    obtain ⟨c,v0,m1,m2,_⟩:=cell (ys.length - 1) (P.cellsOf e - 1) x0 hx0 (by omega)
    have hc:=(Array.getElem?_eq_some_iff.1 m2).1
    have hfit:a.off+ys.length * P.cellsOf e≤c.size:=by
     have h1:(ys.length - 1) * P.cellsOf e+P.cellsOf e=ys.length * P.cellsOf e:=by
      rw [← Nat.succ_mul];congr 1;omega
     omega
    have:=VRel.ps (pl:=fun _=>none) (M:=memOf w) (xs:=ys) (tight:=false) (a:=a) (cap:=cap) (sz:=P.cellsOf e) (c:=c) (by omega) (fun h=>by cases h) (fun _=>⟨spot hne,m1,hfit,hsz⟩) q4
     (fun i x j y hx hy=>by
      obtain ⟨r1,_⟩:=q4 x (List.mem_of_getElem? hx)
      have hj:j<P.cellsOf e:=by rw [← r1];exact (List.getElem?_eq_some_iff.1 hy).1
      obtain ⟨c',v,n1,n2,n3⟩:=cell i j x hx hj
      rw [m1] at n1
      cases n1
      rw [Array.getD_eq_getD_getElem?,n2]
      exact n3 y hy)
    rw [q1'] at this
    exact this
theorem slice_vl {α:Type} (el:α→AV) (fit:α→Prop) {t e:TypeId} {fuel:Nat} {cs:List Value} {d:DataW H} {p:List MemPlace} (hu:P.underlying t=some (.slice e)) (hsz:Nat.blt 0 (P.cellsOf e)=true) (hby:Nat.blt 0 (P.bytesOf e)=true)
  (hel : ∀ x,(el x).cells.length=P.cellsOf e) (hsc : ∀ x,(el x).cells.all scalB=true) (htop : ∀ x,(el x).top=0)
  (hrec : ∀ m,m<fuel→∀ cs d p,DataW.trod enc P w base spare held m e cs=some (d,p)→Wt P e d→∃ x,fit x∧VL (memOf w) (el x).cells cs)
  (h:DataW.trod enc P w base spare held fuel t cs=some (d,p)) (hw:Wt P t d) :
  ∃ l:List α,l.length<2 ^ 60∧(∀ x,x∈l→fit x)∧VL (memOf w) [.ls (l.map el)] cs:=by
 have ⟨l,h1,h2⟩:=slice_vl47 el fit hu hsz hby hel hsc htop hrec h hw
 exact ⟨l,Nat.lt_trans h1 (by decide),h2⟩
end
end Go.Ev

namespace Go.Ev
open Go
theorem small_le {n b m:Nat} (h1:n≤m) (h2:m≤2 ^ 40) (h3:m * b≤2 ^ 40):small n b=true:=by
 unfold small
 have h4:n * b≤m * b:=Nat.mul_le_mul_right b h1
 simp only [Bool.and_eq_true]
 exact ⟨Nat.ble_eq_true_of_le (Nat.le_trans h1 h2),Nat.ble_eq_true_of_le (Nat.le_trans h4 h3)⟩
def putZ (d:Int):List Int→List Int
 | []=> [d]
 | x::r=>bif ltI x d then x::putZ d r else bif eqI x d then x::r else d::x::r
theorem putZ_len (d:Int) : ∀ (l:List Int),(putZ d l).length≤l.length+1
 | []=>Nat.le_refl _
 | x::r=>by
  unfold putZ
  have:=putZ_len d r
  cases ltI x d <;> cases eqI x d <;> simp only [cond_true,cond_false,List.length_cons] <;> omega
theorem putZ_mem (d k:Int) : ∀ (l:List Int),k∈putZ d l↔k=d∨k∈l
 | []=>by simp [putZ]
 | x::r=>by
  unfold putZ
  cases h1:ltI x d
  ·cases h2:eqI x d
   ·simp
   ·have:=eqI_t h2
    subst this
    simp
  ·simp only [cond_true,List.mem_cons,putZ_mem d k r]
   constructor
   ·rintro (h | h | h) <;> simp [h]
   ·rintro (h | h | h) <;> simp [h]
theorem putZ_rise (d:Int) : ∀ {l:List Int},l.Pairwise (· < ·)→(putZ d l).Pairwise (· < ·)
 | [],_=>by simp [putZ]
 | x::r,h=>by
  unfold putZ
  cases h1:ltI x d
  ·cases h2:eqI x d
   ·have a1:=ltI_false h1
    have a2:=eqI_f h2
    simp only [cond_false]
    refine List.pairwise_cons.2 ⟨fun y hy=>?_,h⟩
    rcases List.mem_cons.1 hy with rfl | hy
    ·omega
    ·have:=(List.pairwise_cons.1 h).1 y hy;omega
   ·simpa using h
  ·simp only [cond_true]
   obtain ⟨q1,q2⟩:=List.pairwise_cons.1 h
   refine List.pairwise_cons.2 ⟨fun y hy=>?_,putZ_rise d q2⟩
   rcases (putZ_mem d y r).1 hy with rfl | hy
   ·exact ltI_true h1
   ·exact q1 y hy
theorem gD_cons0 {α:Type} [Inhabited α] (x:α) (r:List α):gD (x::r) 0=x:=rfl
theorem gD_consS {α:Type} [Inhabited α] (x:α) (r:List α) (i:Nat):gD (x::r) (i+1)=gD r i:=rfl
theorem putZ_new {d:Int} : ∀ {l:List Int} {i:Nat},(∀ j,j<i→gD l j<d)→i≤l.length→(i<l.length→d<gD l i)→putZ d l=l.take i++d::l.drop i
 | [],i,_,hi,_=>by
  have:i=0:=by simpa using hi
  subst this;rfl
 | x::r,0,_,_,h=>by
  have h:=h (Nat.zero_lt_succ _)
  rw [gD_cons0] at h
  unfold putZ
  rw [ltI_f (by omega),show eqI x d=false from by rw [eqI_iff];exact decide_eq_false (by omega)]
  rfl
 | x::r,i+1,hj,hi,h=>by
  have h0:=hj 0 (Nat.zero_lt_succ _)
  rw [gD_cons0] at h0
  unfold putZ
  rw [ltI_t h0,putZ_new (l:=r) (i:=i) (fun j q=>by simpa [gD_consS] using hj (j+1) (by omega)) (by simpa using hi) (fun q=>by simpa [gD_consS] using h (by simpa using q))]
  rfl
theorem putZ_same {d:Int} : ∀ {l:List Int} {i:Nat},(∀ j,j<i→gD l j<d)→i<l.length→gD l i=d→putZ d l=l
 | [],i,_,hi,_=>absurd hi (Nat.not_lt_zero _)
 | x::r,0,_,_,h=>by
  rw [gD_cons0] at h
  unfold putZ
  rw [ltI_f (by omega),show eqI x d=true from by rw [eqI_iff];exact decide_eq_true h]
  rfl
 | x::r,i+1,hj,hi,h=>by
  have h0:=hj 0 (Nat.zero_lt_succ _)
  rw [gD_cons0] at h0
  unfold putZ
  rw [ltI_t h0,putZ_same (l:=r) (i:=i) (fun j q=>by simpa [gD_consS] using hj (j+1) (by omega)) (by simpa using hi) (by simpa [gD_consS] using h)]
  rfl
theorem below_step {l:List Int} {i:Nat} {d:Int} (h : ∀ j,j<i→gD l j<d) (h1:gD l i<d) : ∀ j,j<i+1→gD l j<d:=fun j hj=>by
 rcases Nat.lt_or_ge j i with q | q
 ·exact h j q
 ·have:j=i:=by omega
  subst this;exact h1
def actsL (ws:List PWord) (l:List Int):List Int:=ws.foldl (fun l w=>putZ w.act l) l
end Go.Ev

namespace Go.Ev
open Go
theorem subO_eq (h l:Nat):subO h l=h - l:=by unfold subO;split <;> omega
section
variable {α : Type}
structure TotB (lt:α→α→Bool):Prop where
 trans : ∀ x y z,lt y x=false→lt z y=false→lt z x=false
 asym : ∀ x y,lt x y=true→lt y x=false
variable {lt : α → α → Bool}
theorem TotB.refl (T:TotB lt) (x:α):lt x x=false:=by
 cases h:lt x x with
 | false=>rfl
 | true=>rw [T.asym x x h] at h;cases h
theorem TotB.down (T:TotB lt) {x y z:α} (h1:lt z y=false) (h2:lt z x=true):lt y x=true:=by
 cases h:lt y x with
 | true=>rfl
 | false=>rw [T.trans x y z h h1] at h2;cases h2
theorem TotB.up (T:TotB lt) {x y z:α} (h1:lt x y=true) (h2:lt z y=false):lt x z=true:=by
 cases h:lt x z with
 | true=>rfl
 | false=>rw [T.trans y z x h2 h] at h1;cases h1
end
section
variable {α : Type} [Inhabited α] {lt : α → α → Bool} {l x y z w : List α} {a b m n i j k s e p d : Nat}
theorem gD_out (h:l.length≤i):gD l i=default:=by simp [gD,List.getD,List.getElem?_eq_none h]
theorem gD_put {v:α} (h:i<l.length):gD (l.set i v) k=if k=i then v else gD l k:=by
 unfold gD
 rw [List.getD_eq_getElem?_getD,List.getD_eq_getElem?_getD,List.getElem?_set]
 by_cases c:i=k
 ·subst c;simp [h]
 ·rw [if_neg c,if_neg (fun e=>c e.symm)]
theorem swap_perm (hi:i<l.length) (hj:j<l.length):((l.set i (gD l j)).set j (gD l i)).Perm l:=by
 have e1:gD l j=l[j]:=by simp [gD,hj]
 have e2:gD l i=l[i]:=by simp [gD,hi]
 rw [e1,e2];exact List.set_set_perm hi hj
theorem swap_at (hi:i<l.length) (hj:j<l.length) (q:Nat):gD ((l.set i (gD l j)).set j (gD l i)) q=if q=j then gD l i else if q=i then gD l j else gD l q:=by
 rw [gD_put (by rw [List.length_set];exact hj),gD_put hi]
def SegS (lt:α→α→Bool) (l:List α) (a b:Nat):Prop:=∀ i j,a≤i→i<j→j<b→lt (gD l j) (gD l i)=false
structure SSeg (lt:α→α→Bool) (l x:List α) (a b:Nat):Prop where
 perm:x.Perm l
 out : ∀ i,i<a∨b≤i→gD x i=gD l i
 src : ∀ i,a≤i→i<b→∃ j,a≤j∧j<b∧gD x i=gD l j
 srt:SegS lt x a b
theorem SSeg.len (h:SSeg lt l x a b):x.length=l.length:=h.perm.length_eq
theorem SSeg.self (h:SegS lt l a b):SSeg lt l l a b:=⟨.refl _,fun _ _=>rfl,fun i h1 h2=>⟨i,h1,h2,rfl⟩,h⟩
theorem SSeg.cast {p q:Nat} (h:SSeg lt l x p q) (hp:p=a) (hq:q=b):SSeg lt l x a b:=by subst hp hq;exact h
theorem SegS.nil (h:b≤a+1):SegS lt l a b:=fun i j _ _ _=>by omega
theorem SegS.sub (h:SegS lt l a b) (h1:a≤i) (h2:j≤b):SegS lt l i j:=fun p q e1 e2 e3=>h p q (by omega) e2 (by omega)
theorem SegS.le (T:TotB lt) (h:SegS lt l a b) (h1:a≤i) (h2:i≤j) (h3:j<b):lt (gD l j) (gD l i)=false:=by
 rcases Nat.lt_or_ge i j with q | q
 ·exact h i j h1 q h3
 ·rw [show j=i by omega];exact T.refl _
structure InsI (lt:α→α→Bool) (l x:List α) (a i j:Nat):Prop where
 perm:x.Perm l
 out : ∀ q,q<a∨i+1≤q→gD x q=gD l q
 src : ∀ q,a≤q→q<i+1→∃ p,a≤p∧p<i+1∧gD x q=gD l p
 mid : ∀ p q,a≤p→p<q→q≤i→q≠j→lt (gD x q) (gD x p)=false
theorem InsI.start (h:SSeg lt l x a (min i b)) (h1:i<b):InsI lt l x a i i:=by
 rw [show min i b=i by omega] at h
 refine ⟨h.perm,fun q hq=>h.out q (by omega),fun q h1 h2=>?_,fun p q h1 h2 h3 h4=>h.srt p q h1 h2 (by omega)⟩
 rcases Nat.lt_or_ge q i with h3 | h3
 ·obtain ⟨p,e1,e2,e3⟩:=h.src q h1 h3
  exact ⟨p,e1,by omega,e3⟩
 ·exact ⟨q,h1,h2,h.out q (.inr h3)⟩
theorem InsI.step (T:TotB lt) (h:InsI lt l x a i j) (hi:i<l.length) (h1:a<j) (h2:j≤i) (hk:k+1=j) (hl:lt (gD x j) (gD x k)=true):InsI lt l ((x.set j (gD x k)).set k (gD x j)) a i k:=by
 have hx:x.length=l.length:=h.perm.length_eq
 have hj:j<x.length:=by omega
 have hkx:k<x.length:=by omega
 have g:=swap_at hj hkx
 refine ⟨(swap_perm hj hkx).trans h.perm,fun q hq=>?_,fun q q1 q2=>?_,fun p q h3 h4 h5 h6=>?_⟩
 ·rw [g,if_neg (by omega),if_neg (by omega)];exact h.out q hq
 ·rw [g]
  split
  ·obtain ⟨p,e⟩:=h.src j (by omega) (by omega);exact ⟨p,e⟩
  ·split
   ·obtain ⟨p,e⟩:=h.src k (by omega) (by omega);exact ⟨p,e⟩
   ·exact h.src q q1 q2
 ·rw [g,g]
  rw [if_neg (show ¬ q=k by omega)]
  by_cases c1:q=j
  ·rw [if_pos c1]
   by_cases c2:p=k
   ·rw [if_pos c2];exact T.asym _ _ hl
   ·rw [if_neg c2,if_neg (show ¬ p=j by omega)];exact h.mid p k h3 (by omega) (by omega) (by omega)
  ·rw [if_neg c1]
   by_cases c2:p=k
   ·rw [if_pos c2];exact h.mid j q (by omega) (by omega) h5 c1
   ·rw [if_neg c2]
    by_cases c3:p=j
    ·rw [if_pos c3];exact h.mid k q (by omega) (by omega) h5 c1
    ·rw [if_neg c3];exact h.mid p q h3 h4 h5 c1
theorem InsI.stop (T:TotB lt) (h:InsI lt l x a i j) (ha:a≤j) (h2:j≤i) (hb:i<b) (hs:s=i+1) (hl:j=a∨∃ k,k+1=j∧lt (gD x j) (gD x k)=false):SSeg lt l x a (min s b):=by
 rw [show min s b=i+1 by omega]
 refine ⟨h.perm,h.out,h.src,fun p q h3 h4 h5=>?_⟩
 by_cases c:q=j
 ·subst c
  rcases hl with hl | ⟨k,hk,hl⟩
  ·omega
  ·by_cases c2:p=k
   ·rw [c2];exact hl
   ·exact T.trans _ _ _ (h.mid p k h3 (by omega) (by omega) (by omega)) hl
 ·exact h.mid p q h3 h4 (by omega) c
theorem ins_first (hab:a≤b):SSeg lt l l a (min (a+1) b):=SSeg.self (SegS.nil (by omega))
theorem ins_last (h:SSeg lt l x a (min i b)) (hi:b≤i):SSeg lt l x a b:=by
 rw [show min i b=b by omega] at h;exact h
def sw (a b m i:Nat):Nat:=if a≤i∧i<a+m then i - a+b else if b≤i∧i<b+m then i - b+a else i
structure SwP (l x:List α) (a b m:Nat):Prop where
 perm:x.Perm l
 at_ : ∀ i,i<l.length→gD x i=gD l (sw a b m i)
theorem SwP.len (h:SwP l x a b m):x.length=l.length:=h.perm.length_eq
theorem SwP.start:SwP l l a b 0:=⟨.refl _,fun i _=>by
 unfold sw;rw [if_neg (by omega),if_neg (by omega)]⟩
theorem SwP.step (h:SwP l x a b k) (hk:k<m) (ha:a+m≤b) (hb:b+m≤l.length) (hi:i=a+k) (hj:j=b+k) (hs:s=k+1):SwP l ((x.set i (gD x j)).set j (gD x i)) a b s:=by
 subst hi hj hs
 have hx:x.length=l.length:=h.perm.length_eq
 have h1:a+k<x.length:=by omega
 have h2:b+k<x.length:=by omega
 refine ⟨(swap_perm h1 h2).trans h.perm,fun q hq=>?_⟩
 rw [swap_at h1 h2]
 by_cases c1:q=b+k
 ·rw [if_pos c1,h.at_ _ (by omega)]
  congr 1;unfold sw
  rw [if_neg (by omega),if_neg (by omega),if_neg (by omega),if_pos (by omega)];omega
 ·rw [if_neg c1]
  by_cases c2:q=a+k
  ·rw [if_pos c2,h.at_ _ (by omega)]
   congr 1;unfold sw
   rw [if_neg (by omega),if_neg (by omega),if_pos (by omega)];omega
  ·rw [if_neg c2,h.at_ _ (by omega)]
   congr 1;unfold sw
   by_cases d1:a≤q∧q<a+k
   ·rw [if_pos d1,if_pos (by omega)]
   ·rw [if_neg d1,if_neg (show ¬ (a≤q∧q<a+(k+1)) by omega)]
    by_cases d2:b≤q∧q<b+k
    ·rw [if_pos d2,if_pos (by omega)]
    ·rw [if_neg d2,if_neg (by omega)]
theorem SwP.done (h:SwP l x a b k) (hk:k=m):SwP l x a b m:=hk ▸ h
def ro (a m b i:Nat):Nat:=if a≤i∧i<a+(b - m) then i - a+m else if a+(b - m)≤i∧i<b then i - (b - m) else i
structure RoP (l x:List α) (a m b:Nat):Prop where
 perm:x.Perm l
 at_ : ∀ q,q<l.length→gD x q=gD l (ro a m b q)
theorem RoP.len (h:RoP l x a m b):x.length=l.length:=h.perm.length_eq
theorem RoP.cast {p q r:Nat} (h:RoP l x p q r) (hp:p=a) (hq:q=m) (hr:r=b):RoP l x a m b:=by subst hp hq hr;exact h
structure RoI (l x:List α) (a m b i j:Nat):Prop where
 perm:x.Perm l
 i0:0<i
 j0:0<j
 im:i≤m
 jn:m+j≤l.length
 at_ : ∀ q,q<l.length→gD x (ro (m - i) m (m+j) q)=gD l (ro a m b q)
theorem RoI.len (h:RoI l x a m b i j):x.length=l.length:=h.perm.length_eq
theorem RoI.start (ha:a<m) (hm:m<b) (hb:b≤l.length) (hi:i=m - a) (hj:j=b - m):RoI l l a m b i j:=by
 subst hi hj
 refine ⟨.refl _,by omega,by omega,by omega,by omega,fun q _=>?_⟩
 rw [show m - (m - a)=a by omega,show m+(b - m)=b by omega]
theorem ro_lt (ham:a≤m) (hmb:m≤b) (hb:b≤n) (hi:i<n):ro a m b i<n:=by
 unfold ro
 split
 ·omega
 ·split <;> omega
theorem RoI.left {p q r:Nat} (h:RoI l x a m b i j) (hs:SwP x y p q r) (hp:p=m - i) (hq:q=m) (hr:r=j) (hij:j<i) (hk:k=i - j):RoI l y a m b k j:=by
 subst hk;subst hp;have hq:=hq.symm;subst hq;have hr:=hr.symm;subst hr
 have hi:=h.im;have hj:=h.jn;have h0:=h.j0
 refine ⟨hs.perm.trans h.perm,by omega,h0,by omega,hj,fun q hq=>?_⟩
 rw [hs.at_ _ (by rw [h.len];exact ro_lt (by omega) (by omega) hj hq),← h.at_ q hq]
 congr 1
 unfold sw ro
 by_cases c1:m - i≤q∧q<m - i+j
 ·rw [if_neg (show ¬ (m - (i - j)≤q∧q<m - (i - j)+(m+j - m)) by omega),if_neg (show ¬ (m - (i - j)+(m+j - m)≤q∧q<m+j) by omega),if_pos c1,if_pos (show m - i≤q∧q<m - i+(m+j - m) by omega)]
 ·by_cases c2:m - (i - j)≤q∧q<m - (i - j)+(m+j - m)
  ·rw [if_pos c2,if_neg (by omega),if_pos (by omega),if_neg (by omega),if_pos (by omega)];omega
  ·rw [if_neg c2]
   by_cases c3:m - (i - j)+(m+j - m)≤q∧q<m+j
   ·rw [if_pos c3,if_neg (by omega),if_neg (by omega),if_neg (by omega),if_pos (by omega)]
   ·rw [if_neg c3,if_neg (by omega),if_neg (by omega),if_neg (by omega),if_neg (by omega)]
theorem RoI.right {p q r:Nat} (h:RoI l x a m b i j) (hs:SwP x y p q r) (hp:p=m - i) (hq:q=m+j - i) (hr:r=i) (hij:i<j) (hk:k=j - i):RoI l y a m b i k:=by
 subst hk;subst hp;have hq:=hq.symm;subst hq;have hr:=hr.symm;subst hr
 have hi:=h.im;have hj:=h.jn;have h0:=h.i0
 refine ⟨hs.perm.trans h.perm,h0,by omega,hi,by omega,fun q hq=>?_⟩
 rw [hs.at_ _ (by rw [h.len];exact ro_lt (by omega) (by omega) (by omega) hq),← h.at_ q hq]
 congr 1
 unfold sw ro
 by_cases c1:m - i≤q∧q<m - i+(m+(j - i) - m)
 ·rw [if_pos c1,if_neg (by omega),if_neg (by omega),if_pos (by omega)]
 ·rw [if_neg c1]
  by_cases c2:m - i+(m+(j - i) - m)≤q∧q<m+(j - i)
  ·rw [if_pos c2,if_pos (by omega),if_pos (by omega)];omega
  ·rw [if_neg c2]
   by_cases c3:m+(j - i)≤q∧q<m+j
   ·rw [if_neg (by omega),if_pos (by omega),if_neg (by omega),if_pos (by omega)];omega
   ·rw [if_neg (by omega),if_neg (by omega),if_neg (by omega),if_neg (by omega)]
theorem RoI.stop {p q r:Nat} (h:RoI l x a m b i j) (hs:SwP x y p q r) (hp:p=m - i) (hq:q=m) (hr:r=i) (hij:i=j):RoP l y a m b:=by
 subst hij;subst hp;have hq:=hq.symm;subst hq;have hr:=hr.symm;subst hr
 have hi:=h.im;have hj:=h.jn
 refine ⟨hs.perm.trans h.perm,fun q hq=>?_⟩
 rw [hs.at_ _ (by rw [h.len];exact hq),← h.at_ q hq]
 congr 1
 unfold sw ro
 by_cases c1:m - i≤q∧q<m - i+i
 ·rw [if_pos c1,if_pos (by omega)]
 ·rw [if_neg c1,if_neg (show ¬ (m - i≤q∧q<m - i+(m+i - m)) by omega)]
  by_cases c2:m≤q∧q<m+i
  ·rw [if_pos c2,if_pos (by omega)];omega
  ·rw [if_neg c2,if_neg (by omega)]
theorem RoP.none (h:m≤a∨b≤m) (ham:a≤m) (hmb:m≤b):RoP l l a m b:=⟨.refl _,fun q _=>by
 congr 1;unfold ro
 rcases h with h | h
 ·by_cases c:a≤q∧q<a+(b - m)
  ·rw [if_pos c];omega
  ·rw [if_neg c,if_neg (by omega)]
 ·rw [if_neg (by omega)]
  by_cases c:a+(b - m)≤q∧q<b
  ·rw [if_pos c];omega
  ·rw [if_neg c]⟩
structure FstI (lt:α→α→Bool) (l:List α) (a m b i j:Nat):Prop where
 mi:m≤i
 ij:i≤j
 jb:j≤b
 lo : ∀ q,m≤q→q<i→lt (gD l q) (gD l a)=true
 hi : ∀ q,j≤q→q<b→lt (gD l q) (gD l a)=false
theorem FstI.start (h:m≤b):FstI lt l a m b m b:=⟨by omega,by omega,by omega,fun q _ _=>by omega,fun q _ _=>by omega⟩
theorem FstI.more (T:TotB lt) (h:FstI lt l a m b i j) (hs:SegS lt l m b) (hl:lt (gD l k) (gD l a)=true) (h1:i≤k) (h2:k<j) (hk:e=k+1):FstI lt l a m b e j:=by
 subst hk
 have:=h.mi;have:=h.jb
 refine ⟨by omega,by omega,h.jb,fun q q1 q2=>?_,h.hi⟩
 exact T.down (hs.le T q1 (by omega) (by omega)) hl
theorem FstI.less (T:TotB lt) (h:FstI lt l a m b i j) (hs:SegS lt l m b) (hl:lt (gD l k) (gD l a)=false) (h1:i≤k) (h2:k<j):FstI lt l a m b i k:=by
 have:=h.mi;have:=h.jb
 refine ⟨h.mi,by omega,by omega,h.lo,fun q q1 q2=>?_⟩
 exact T.trans _ _ _ hl (hs.le T (by omega) q1 q2)
structure UpI (l x:List α) (a k:Nat):Prop where
 perm:x.Perm l
 at_ : ∀ q,q<l.length→gD x q=gD l (if a≤q∧q<k then q+1 else if q=k then a else q)
theorem UpI.len (h:UpI l x a k):x.length=l.length:=h.perm.length_eq
theorem UpI.start:UpI l l a a:=⟨.refl _,fun q _=>by
 rw [if_neg (by omega)];split
 ·rename_i h;rw [h]
 ·rfl⟩
theorem UpI.step (h:UpI l x a k) (hk:a≤k) (hn:k+1<l.length) (he:e=k+1):UpI l ((x.set k (gD x e)).set e (gD x k)) a e:=by
 subst he
 have hx:=h.len
 have h1:k<x.length:=by omega
 have h2:k+1<x.length:=by omega
 refine ⟨(swap_perm h1 h2).trans h.perm,fun q hq=>?_⟩
 rw [swap_at h1 h2]
 by_cases c1:q=k+1
 ·rw [if_pos c1,h.at_ _ (by omega),if_neg (by omega),if_pos rfl,if_neg (by omega),if_pos c1]
 ·rw [if_neg c1]
  by_cases c2:q=k
  ·rw [if_pos c2,h.at_ _ (by omega),if_neg (by omega),if_neg (by omega),if_pos (by omega),c2]
  ·rw [if_neg c2,h.at_ _ hq]
   congr 1
   by_cases c3:a≤q∧q<k
   ·rw [if_pos c3,if_pos (by omega)]
   ·rw [if_neg c3,if_neg c2,if_neg (by omega),if_neg c1]
theorem UpI.stop (T:TotB lt) (h:UpI l x a k) (hf:FstI lt l a m b i j) (hs:SegS lt l m b) (hma:m=a+1) (hij:j≤i) (hk:k+1=i) (hb:b≤l.length):SSeg lt l x a b:=by
 have q1:=hf.mi;have q2:=hf.ij;have q3:=hf.jb
 refine ⟨h.perm,fun q hq=>?_,fun q h1 h2=>?_,fun p q h1 h2 h3=>?_⟩
 ·rcases Nat.lt_or_ge q l.length with c | c
  ·rw [h.at_ q c,if_neg (by omega),if_neg (by omega)]
  ·rw [gD_out (by rw [h.len];exact c),gD_out c]
 ·rw [h.at_ q (by omega)]
  split
  ·exact ⟨q+1,by omega,by omega,rfl⟩
  ·split
   ·exact ⟨a,by omega,by omega,rfl⟩
   ·exact ⟨q,h1,h2,rfl⟩
 ·rw [h.at_ p (by omega),h.at_ q (by omega)]
  by_cases c1:p<k
  ·rw [if_pos (show a≤p∧p<k by omega)]
   by_cases c2:q<k
   ·rw [if_pos (show a≤q∧q<k by omega)];exact hs _ _ (by omega) (by omega) (by omega)
   ·rw [if_neg (show ¬ (a≤q∧q<k) by omega)]
    by_cases c3:q=k
    ·rw [if_pos c3];exact T.asym _ _ (hf.lo _ (by omega) (by omega))
    ·rw [if_neg c3];exact hs _ _ (by omega) (by omega) (by omega)
  ·rw [if_neg (show ¬ (a≤p∧p<k) by omega),if_neg (show ¬ (a≤q∧q<k) by omega),if_neg (show ¬ q=k by omega)]
   by_cases c3:p=k
   ·rw [if_pos c3];exact hf.hi _ (by omega) (by omega)
   ·rw [if_neg c3];exact hs _ _ (by omega) (by omega) (by omega)
structure LstI (lt:α→α→Bool) (l:List α) (a m i j:Nat):Prop where
 ai:a≤i
 ij:i≤j
 jm:j≤m
 lo : ∀ q,a≤q→q<i→lt (gD l m) (gD l q)=false
 hi : ∀ q,j≤q→q<m→lt (gD l m) (gD l q)=true
theorem LstI.start (h:a≤m):LstI lt l a m a m:=⟨by omega,by omega,by omega,fun q _ _=>by omega,fun q _ _=>by omega⟩
theorem LstI.more (T:TotB lt) (h:LstI lt l a m i j) (hs:SegS lt l a m) (hl:lt (gD l m) (gD l k)=false) (h1:i≤k) (h2:k<j) (hk:e=k+1):LstI lt l a m e j:=by
 subst hk
 have:=h.ai;have:=h.jm
 refine ⟨by omega,by omega,h.jm,fun q q1 q2=>?_,h.hi⟩
 exact T.trans _ _ _ (hs.le T q1 (by omega) (by omega)) hl
theorem LstI.less (T:TotB lt) (h:LstI lt l a m i j) (hs:SegS lt l a m) (hl:lt (gD l m) (gD l k)=true) (h1:i≤k) (h2:k<j):LstI lt l a m i k:=by
 have:=h.ai;have:=h.jm
 refine ⟨h.ai,by omega,by omega,h.lo,fun q q1 q2=>?_⟩
 exact T.up hl (hs.le T (by omega) q1 q2)
structure DnI (l x:List α) (m k:Nat):Prop where
 perm:x.Perm l
 at_ : ∀ q,q<l.length→gD x q=gD l (if k<q∧q≤m then q - 1 else if q=k then m else q)
theorem DnI.len (h:DnI l x m k):x.length=l.length:=h.perm.length_eq
theorem DnI.start:DnI l l m m:=⟨.refl _,fun q _=>by
 rw [if_neg (by omega)];split
 ·rename_i h;rw [h]
 ·rfl⟩
theorem DnI.step (h:DnI l x m k) (hk:k≤m) (hn:m<l.length) (he:e+1=k):DnI l ((x.set k (gD x e)).set e (gD x k)) m e:=by
 subst he
 have hx:=h.len
 have h1:e+1<x.length:=by omega
 have h2:e<x.length:=by omega
 refine ⟨(swap_perm h1 h2).trans h.perm,fun q hq=>?_⟩
 rw [swap_at h1 h2]
 by_cases c1:q=e
 ·rw [if_pos c1,h.at_ _ (by omega),if_neg (by omega),if_pos rfl,if_neg (by omega),if_pos c1]
 ·rw [if_neg c1]
  by_cases c2:q=e+1
  ·rw [if_pos c2,h.at_ _ (by omega),if_neg (by omega),if_neg (by omega),if_pos (by omega)]
   congr 1;omega
  ·rw [if_neg c2,h.at_ _ hq]
   congr 1
   by_cases c3:e+1<q∧q≤m
   ·rw [if_pos c3,if_pos (by omega)]
   ·rw [if_neg c3,if_neg c2,if_neg (by omega),if_neg c1]
theorem DnI.stop (T:TotB lt) (h:DnI l x m k) (hf:LstI lt l a m i j) (hs:SegS lt l a m) (hmb:b=m+1) (hij:j≤i) (hk:k=i) (hb:b≤l.length):SSeg lt l x a b:=by
 have q1:=hf.ai;have q2:=hf.ij;have q3:=hf.jm
 refine ⟨h.perm,fun q hq=>?_,fun q h1 h2=>?_,fun p q h1 h2 h3=>?_⟩
 ·rcases Nat.lt_or_ge q l.length with c | c
  ·rw [h.at_ q c,if_neg (by omega),if_neg (by omega)]
  ·rw [gD_out (by rw [h.len];exact c),gD_out c]
 ·rw [h.at_ q (by omega)]
  split
  ·exact ⟨q - 1,by omega,by omega,rfl⟩
  ·split
   ·exact ⟨m,by omega,by omega,rfl⟩
   ·exact ⟨q,h1,h2,rfl⟩
 ·rw [h.at_ p (by omega),h.at_ q (by omega)]
  by_cases c1:q≤k
  ·rw [if_neg (show ¬ (k<q∧q≤m) by omega),if_neg (show ¬ (k<p∧p≤m) by omega),if_neg (show ¬ p=k by omega)]
   by_cases c3:q=k
   ·rw [if_pos c3];exact hf.lo _ h1 (by omega)
   ·rw [if_neg c3];exact hs _ _ h1 h2 (by omega)
  ·rw [if_pos (show k<q∧q≤m by omega)]
   by_cases c2:k<p
   ·rw [if_pos (show k<p∧p≤m by omega)];exact hs _ _ (by omega) (by omega) (by omega)
   ·rw [if_neg (show ¬ (k<p∧p≤m) by omega)]
    by_cases c3:p=k
    ·rw [if_pos c3];exact T.asym _ _ (hf.hi _ (by omega) (by omega))
    ·rw [if_neg c3];exact hs _ _ h1 (by omega) (by omega)
structure CutI (lt:α→α→Bool) (l:List α) (lo hi p i j:Nat):Prop where
 li:lo≤i
 ij:i≤j
 jh:j≤hi
 low : ∀ c,lo≤c→c<i→lt (gD l (p - c)) (gD l c)=false
 high : ∀ c,j≤c→c<hi→lt (gD l (p - c)) (gD l c)=true
variable {lo hi : Nat}
theorem CutI.start (h:lo≤hi):CutI lt l lo hi p lo hi:=⟨by omega,by omega,by omega,fun q _ _=>by omega,fun q _ _=>by omega⟩
theorem CutI.more (T:TotB lt) (h:CutI lt l lo hi p i j) (hA:SegS lt l a m) (hB:SegS lt l m b) (hl:lt (gD l s) (gD l k)=false) (b1:a≤lo) (b2:hi≤m) (b3:m+hi≤p+1) (b4:p<b+lo) (h1:i≤k) (h2:k<j) (hk:e=k+1) (hs:s=p - k):CutI lt l lo hi p e j:=by
 subst hk hs
 have:=h.li;have:=h.jh
 refine ⟨by omega,by omega,h.jh,fun c c1 c2=>?_,h.high⟩
 exact T.trans _ _ _ (hA.le T (i:=c) (j:=k) (by omega) (by omega) (by omega)) (T.trans _ _ _ hl (hB.le T (i:=p - k) (j:=p - c) (by omega) (by omega) (by omega)))
theorem CutI.less (T:TotB lt) (h:CutI lt l lo hi p i j) (hA:SegS lt l a m) (hB:SegS lt l m b) (hl:lt (gD l s) (gD l k)=true) (b1:a≤lo) (b2:hi≤m) (b3:m+hi≤p+1) (b4:p<b+lo) (h1:i≤k) (h2:k<j) (hs:s=p - k):CutI lt l lo hi p i k:=by
 subst hs
 have:=h.li;have:=h.jh
 refine ⟨h.li,by omega,by omega,h.low,fun c c1 c2=>?_⟩
 exact T.down (hB.le T (i:=p - c) (j:=p - k) (by omega) (by omega) (by omega)) (T.up hl (hA.le T (i:=k) (j:=c) (by omega) (by omega) (by omega)))
theorem cut_cross (T:TotB lt) (h:CutI lt l lo hi p s s) (hA:SegS lt l a m) (hB:SegS lt l m b) (hr:RoP l y s m e) (hab:b≤l.length)
  (d1:d+m=p+1) (e1:e+s=p+1) (f1:a≤s) (f2:s≤m) (f3:m≤e) (f4:e≤b) (f5:lo<s∨s=a∨e=b) (f6:s<hi∨s=m∨e=m) :
  ∀ i j,a≤i→i<d→d≤j→j<b→lt (gD y j) (gD y i)=false:=by
 intro i j h1 h2 h3 h4
 rw [hr.at_ i (by omega),hr.at_ j (by omega)]
 unfold ro
 by_cases c1:i<s
 ·rw [if_neg (show ¬ (s≤i∧i<s+(e - m)) by omega),if_neg (show ¬ (s+(e - m)≤i∧i<e) by omega)]
  rw [if_neg (show ¬ (s≤j∧j<s+(e - m)) by omega)]
  by_cases c2:j<e
  ·rw [if_pos (show s+(e - m)≤j∧j<e by omega)];exact hA.le T h1 (by omega) (by omega)
  ·rw [if_neg (show ¬ (s+(e - m)≤j∧j<e) by omega)]
   have hc:=h.low (s - 1) (by omega) (by omega)
   rw [show p - (s - 1)=e by omega] at hc
   exact T.trans _ _ _ (hA.le T (i:=i) (j:=s - 1) h1 (by omega) (by omega)) (T.trans _ _ _ hc (hB.le T (i:=e) (j:=j) (by omega) (by omega) h4))
 ·rw [if_pos (show s≤i∧i<s+(e - m) by omega),if_neg (show ¬ (s≤j∧j<s+(e - m)) by omega)]
  by_cases c2:j<e
  ·rw [if_pos (show s+(e - m)≤j∧j<e by omega)]
   have hc:=h.high s (by omega) (by omega)
   rw [show p - s=e - 1 by omega] at hc
   refine T.asym _ _ (T.up (T.down (hB.le T (i:=i - s+m) (j:=e - 1) (by omega) (by omega) (by omega)) hc) (hA.le T (i:=s) (j:=j - (e - m)) (by omega) (by omega) (by omega)))
  ·rw [if_neg (show ¬ (s+(e - m)≤j∧j<e) by omega)];exact hB.le T (by omega) (by omega) h4
theorem RoP.left (hr:RoP l y s m e) (hA:SegS lt l a m) (f2:s≤m) (f3:m≤e) (f4:e≤l.length):SegS lt y a s:=fun i j h1 h2 h3=>by
 rw [hr.at_ i (by omega),hr.at_ j (by omega)]
 unfold ro
 rw [if_neg (by omega),if_neg (by omega),if_neg (by omega),if_neg (by omega)];exact hA i j h1 h2 (by omega)
theorem RoP.mid1 (hr:RoP l y s m e) (hB:SegS lt l m b) (f3:m≤e) (f4:e≤b) (f2:s≤m) (hb:b≤l.length) (hd:d=s+(e - m)):SegS lt y s d:=fun i j h1 h2 h3=>by
 rw [hr.at_ i (by omega),hr.at_ j (by omega)]
 unfold ro
 rw [if_pos (by omega),if_pos (by omega)];exact hB _ _ (by omega) (by omega) (by omega)
theorem RoP.mid2 (hr:RoP l y s m e) (hA:SegS lt l a m) (f1:a≤s) (f2:s≤m) (f3:m≤e) (f4:e≤l.length) (hd:d=s+(e - m)):SegS lt y d e:=fun i j h1 h2 h3=>by
 rw [hr.at_ i (by omega),hr.at_ j (by omega)]
 unfold ro
 rw [if_neg (by omega),if_pos (by omega),if_neg (by omega),if_pos (by omega)];exact hA _ _ (by omega) (by omega) (by omega)
theorem RoP.right (hr:RoP l y s m e) (hB:SegS lt l m b) (f2:s≤m) (f3:m≤e) (hb:b≤l.length):SegS lt y e b:=fun i j h1 h2 h3=>by
 rw [hr.at_ i (by omega),hr.at_ j (by omega)]
 unfold ro
 rw [if_neg (by omega),if_neg (by omega),if_neg (by omega),if_neg (by omega)];exact hB i j (by omega) h2 h3
theorem RoP.lower (hr:RoP l y s m e) (hA:SegS lt l a m) (hB:SegS lt l m b) (hd:d+m=s+e) (h:s≤a∨d≤s) (f1:a≤s) (f2:s≤m) (f3:m≤e) (f4:e≤b) (hb:b≤l.length):SegS lt y a d:=by
 rcases h with h | h
 ·have:=hr.mid1 hB f3 f4 f2 hb (d:=d) (by omega)
  rwa [show s=a by omega] at this
 ·have:=hr.left hA f2 f3 (by omega)
  exact this.sub (Nat.le_refl _) h
theorem RoP.upper (hr:RoP l y s m e) (hA:SegS lt l a m) (hB:SegS lt l m b) (hd:d+m=s+e) (h:b≤e∨e≤d) (f1:a≤s) (f2:s≤m) (f3:m≤e) (f4:e≤b) (hb:b≤l.length):SegS lt y d b:=by
 rcases h with h | h
 ·have:=hr.mid2 hA f1 f2 f3 (by omega) (d:=d) (by omega)
  rwa [show e=b by omega] at this
 ·have:=hr.right hB f2 f3 hb
  exact this.sub h (Nat.le_refl _)
theorem halves (hr:RoP l y s m e) (hz:SSeg lt y z a d) (hw:SSeg lt z w d b) (had:a≤d) (hdb:d≤b) (hb:b≤l.length) (f1:a≤s) (f2:s≤m) (f3:m≤e) (f4:e≤b)
  (hx : ∀ i j,a≤i→i<d→d≤j→j<b→lt (gD y j) (gD y i)=false):SSeg lt l w a b:=by
 have hro : ∀ q,a≤q→q<b→a≤ro s m e q∧ro s m e q<b:=fun q h1 h2=>by
  unfold ro;split
  ·omega
  ·split <;> omega
 have hy : ∀ q,q<a∨b≤q→gD y q=gD l q:=fun q hq=>by
  rcases Nat.lt_or_ge q l.length with c | c
  ·rw [hr.at_ q c];congr 1;unfold ro;rw [if_neg (by omega),if_neg (by omega)]
  ·rw [gD_out (by rw [hr.len];exact c),gD_out c]
 refine ⟨hw.perm.trans (hz.perm.trans hr.perm),fun q hq=>?_,fun q h1 h2=>?_,fun i j h1 h2 h3=>?_⟩
 ·rw [hw.out q (by omega),hz.out q (by omega),hy q hq]
 ·rcases Nat.lt_or_ge q d with c | c
  ·obtain ⟨j,j1,j2,j3⟩:=hz.src q h1 c
   have:=hro j j1 (by omega)
   exact ⟨_,this.1,this.2,by rw [hw.out q (.inl c),j3,hr.at_ j (by omega)]⟩
  ·obtain ⟨j,j1,j2,j3⟩:=hw.src q c h2
   have:=hro j (by omega) j2
   exact ⟨_,this.1,this.2,by rw [j3,hz.out j (.inr j1),hr.at_ j (by omega)]⟩
 ·rcases Nat.lt_or_ge j d with c | c
  ·rw [hw.out i (.inl (by omega)),hw.out j (.inl c)];exact hz.srt i j h1 h2 c
  ·rcases Nat.lt_or_ge i d with c2 | c2
   ·obtain ⟨i',i1,i2,i3⟩:=hz.src i h1 c2
    obtain ⟨j',j1,j2,j3⟩:=hw.src j c h3
    rw [hw.out i (.inl c2),i3,j3,hz.out j' (.inr j1)]
    exact hx i' j' i1 i2 j1 j2
   ·exact hw.srt i j c2 h2 h3
theorem merge_end (T:TotB lt) (h:CutI lt l lo hi p i s) (hA:SegS lt l a m) (hB:SegS lt l m b) (hr:RoP l y i m e) (hz:SSeg lt y z a d) (hw:SSeg lt z w d b) (his:s≤i) (hd:d+m=p+1) (he:e+i=p+1) (had:a≤d) (hdb:d≤b) (hb:b≤l.length) (f1:a≤i) (f2:i≤m) (f3:m≤e) (f4:e≤b) (f5:lo<i∨i=a∨e=b) (f6:i<hi∨i=m∨e=m):SSeg lt l w a b:=by
 have:i=s:=Nat.le_antisymm h.ij his
 subst this
 exact halves hr hz hw had hdb hb f1 f2 f3 f4 (cut_cross T h hA hB hr hb hd he f1 f2 f3 f4 f5 f6)
theorem SSeg.keep (h:SSeg lt l x a b) (hs:SegS lt l i j) (hd:j≤a∨b≤i):SegS lt x i j:=fun p q h1 h2 h3=>by
 rw [h.out p (by omega),h.out q (by omega)];exact hs p q h1 h2 h3
def Blks (lt:α→α→Bool) (x:List α) (s n:Nat):Prop:=∀ c,SegS lt x (c * s) (min ((c+1) * s) n)
theorem blk_split {t c d:Nat} (h:a=d * t):(c+1) * t≤a∨c=d∨a+t≤c * t:=by
 subst h
 rcases Nat.lt_trichotomy c d with q | q | q
 ·exact .inl (Nat.mul_le_mul_right _ q)
 ·exact .inr (.inl q)
 ·refine .inr (.inr ?_)
  have:=Nat.mul_le_mul_right t q
  rwa [Nat.succ_mul] at this
structure BlkA (lt:α→α→Bool) (l x:List α) (s a:Nat):Prop where
 perm:x.Perm l
 dv : ∃ c,a=c * s
 ok : ∀ c,SegS lt x (c * s) (min ((c+1) * s) a)
theorem BlkA.len (h:BlkA lt l x s a):x.length=l.length:=h.perm.length_eq
theorem BlkA.start:BlkA lt l l s 0:=⟨.refl _,⟨0,by rw [Nat.zero_mul]⟩,fun c=>SegS.nil (by omega)⟩
theorem BlkA.step (h:BlkA lt l x s a) (hy:SSeg lt x y a b) (hb:b=a+s):BlkA lt l y s b:=by
 obtain ⟨d,hd⟩:=h.dv
 subst hb
 refine ⟨hy.perm.trans h.perm,⟨d+1,by rw [Nat.succ_mul,hd]⟩,fun c=>?_⟩
 rcases blk_split (c:=c) hd with q | q | q
 ·have:=h.ok c
  rw [show min ((c+1) * s) a=(c+1) * s by omega] at this
  rw [show min ((c+1) * s) (a+s)=(c+1) * s by omega]
  exact hy.keep this (.inl q)
 ·rw [q,← hd];exact hy.srt.sub (by omega) (by omega)
 ·exact SegS.nil (by omega)
theorem BlkA.last (h:BlkA lt l x s a) (hy:SSeg lt x y a n) (hn:n<a+s) (ha:a≤n):y.Perm l∧Blks lt y s n:=by
 obtain ⟨d,hd⟩:=h.dv
 refine ⟨hy.perm.trans h.perm,fun c=>?_⟩
 rcases blk_split (c:=c) hd with q | q | q
 ·have:=h.ok c
  rw [show min ((c+1) * s) a=(c+1) * s by omega] at this
  rw [show min ((c+1) * s) n=(c+1) * s by omega]
  exact hy.keep this (.inl q)
 ·rw [q,← hd];exact hy.srt.sub (by omega) (by omega)
 ·exact SegS.nil (by omega)
structure BlkB (lt:α→α→Bool) (l x:List α) (s a n:Nat):Prop where
 perm:x.Perm l
 dv : ∃ c,a=c * (2 * s)
 ok : ∀ c,SegS lt x (c * (2 * s)) (min ((c+1) * (2 * s)) a)
 rest : ∀ c,a≤c * s→SegS lt x (c * s) (min ((c+1) * s) n)
theorem BlkB.len (h:BlkB lt l x s a n):x.length=l.length:=h.perm.length_eq
theorem BlkB.start (h:x.Perm l∧Blks lt x s n):BlkB lt l x s 0 n:=⟨h.1,⟨0,by rw [Nat.zero_mul]⟩,fun c=>SegS.nil (by omega),fun c _=>h.2 c⟩
theorem BlkB.pre1 (h:BlkB lt l x s a n) (hm:m=a+s) (hn:m≤n):SegS lt x a m:=by
 obtain ⟨d,hd⟩:=h.dv
 have e:a=(d * 2) * s:=by rw [hd,Nat.mul_assoc]
 have:=h.rest (d * 2) (by omega)
 rw [← e,Nat.succ_mul,← e] at this
 exact this.sub (Nat.le_refl _) (by omega)
theorem BlkB.pre2 (h:BlkB lt l x s a n) (hm:m=a+s) (hb:b≤m+s) (hn:b≤n):SegS lt x m b:=by
 obtain ⟨d,hd⟩:=h.dv
 have e:a=(d * 2) * s:=by rw [hd,Nat.mul_assoc]
 have e2:m=(d * 2+1) * s:=by rw [Nat.succ_mul,← e,hm]
 have:=h.rest (d * 2+1) (by omega)
 rw [← e2,Nat.succ_mul,← e2] at this
 exact this.sub (Nat.le_refl _) (by omega)
theorem BlkB.step (h:BlkB lt l x s a n) (hy:SSeg lt x y a b) (hb:b=a+2 * s):BlkB lt l y s b n:=by
 obtain ⟨d,hd⟩:=h.dv
 subst hb
 refine ⟨hy.perm.trans h.perm,⟨d+1,by rw [hd,Nat.add_mul,Nat.one_mul]⟩,fun c=>?_,fun c hc=>hy.keep (h.rest c (by omega)) (.inr hc)⟩
 rcases blk_split (c:=c) hd with q | q | q
 ·have:=h.ok c
  rw [show min ((c+1) * (2 * s)) a=(c+1) * (2 * s) by omega] at this
  rw [show min ((c+1) * (2 * s)) (a+2 * s)=(c+1) * (2 * s) by omega]
  exact hy.keep this (.inl q)
 ·rw [q,← hd];exact hy.srt.sub (by omega) (by omega)
 ·exact SegS.nil (by omega)
theorem BlkB.last (h:BlkB lt l x s a n) (hy:SSeg lt x y a n) (hn:n<a+2 * s) (ht:d=2 * s) (ha:a≤n):y.Perm l∧Blks lt y d n:=by
 subst ht
 obtain ⟨d,hd⟩:=h.dv
 refine ⟨hy.perm.trans h.perm,fun c=>?_⟩
 rcases blk_split (c:=c) hd with q | q | q
 ·have:=h.ok c
  rw [show min ((c+1) * (2 * s)) a=(c+1) * (2 * s) by omega] at this
  rw [show min ((c+1) * (2 * s)) n=(c+1) * (2 * s) by omega]
  exact hy.keep this (.inl q)
 ·rw [q,← hd];exact hy.srt.sub (by omega) (by omega)
 ·exact SegS.nil (by omega)
theorem BlkB.one (h:BlkB lt l x s a n) (hn:n≤a+s):SSeg lt x x a n:=by
 obtain ⟨d,hd⟩:=h.dv
 have e:a=(d * 2) * s:=by rw [hd,Nat.mul_assoc]
 have:=h.rest (d * 2) (by omega)
 rw [← e,Nat.succ_mul,← e] at this
 exact SSeg.self (this.sub (Nat.le_refl _) (by omega))
theorem Blks.all (h:Blks lt x s n) (hn:n≤s):SegS lt x 0 n:=by
 have:=h 0
 rw [Nat.zero_mul,Nat.zero_add,Nat.one_mul] at this
 exact this.sub (Nat.le_refl _) (by omega)
theorem SegS.pair : ∀ {x:List α},SegS lt x 0 x.length→x.Pairwise fun u v=>lt v u=false
 | [],_=> .nil
 | u::r,h=>List.pairwise_cons.2 ⟨fun v hv=>by
   obtain ⟨i,hi,rfl⟩:=List.getElem_of_mem hv
   have:=h 0 (i+1) (by omega) (by omega) (by simpa using hi)
   have e:gD (u::r) (i+1)=r[i]:=by simp [gD,hi]
   rw [e] at this;exact this,SegS.pair fun i j _ h2 h3=>h (i+1) (j+1) (by omega) (by omega) (by simpa using h3)⟩
end
section
variable {α : Type} {lt : α → α → Bool}
theorem pair_uniq : ∀ {x y:List α},x.Pairwise (fun u v=>lt v u=false)→y.Pairwise (fun u v=>lt v u=false)→x.Perm y→(∀ u v,u∈x→v∈x→lt u v=false→lt v u=false→u=v)→x=y
 | [],y,_,_,hp,_=>hp.nil_eq
 | u::r, [],_,_,hp,_=>by have:=hp.length_eq;simp at this
 | u::r,v::t,hx,hy,hp,H=>by
  obtain ⟨x1,x2⟩:=List.pairwise_cons.1 hx
  obtain ⟨y1,y2⟩:=List.pairwise_cons.1 hy
  have hv:v∈u::r:=hp.mem_iff.2 (List.mem_cons_self ..)
  have hu:u∈v::t:=hp.mem_iff.1 (List.mem_cons_self ..)
  have e:u=v:=by
   rcases List.mem_cons.1 hv with q | q
   ·exact q.symm
   ·rcases List.mem_cons.1 hu with q2 | q2
    ·exact q2
    ·exact H u v (List.mem_cons_self ..) hv (y1 u q2) (x1 v q)
  subst e
  rw [pair_uniq x2 y2 ((List.perm_cons u).1 hp) fun a b ha hb=>H a b (List.mem_cons_of_mem _ ha) (List.mem_cons_of_mem _ hb)]
def insB (lt:α→α→Bool) (a:α):List α→List α
 | []=> [a]
 | b::r=>match lt b a with | true=>b::insB lt a r | false=>a::b::r
def sortB (lt:α→α→Bool) (l:List α):List α:=l.foldl (fun o a=>insB lt a o) []
theorem insB_perm (a:α) : ∀ (l:List α),(insB lt a l).Perm (a::l)
 | []=> .refl _
 | b::r=>by
  unfold insB
  cases lt b a with
  | true=>exact ((insB_perm a r).cons b).trans (.swap a b r)
  | false=>exact .refl _
theorem insB_pair (T:TotB lt) (a:α) : ∀ {l:List α},l.Pairwise (fun u v=>lt v u=false)→(insB lt a l).Pairwise (fun u v=>lt v u=false)
 | [],_=>List.pairwise_singleton ..
 | b::r,h=>by
  obtain ⟨h1,h2⟩:=List.pairwise_cons.1 h
  unfold insB
  cases q:lt b a with
  | true=>
   refine List.pairwise_cons.2 ⟨fun v hv=>?_,insB_pair T a h2⟩
   rcases List.mem_cons.1 ((insB_perm a r).mem_iff.1 hv) with e | e
   ·rw [e];exact T.asym _ _ q
   ·exact h1 v e
  | false=>
   refine List.pairwise_cons.2 ⟨fun v hv=>?_,h⟩
   rcases List.mem_cons.1 hv with e | e
   ·rw [e];exact q
   ·exact T.trans _ _ _ q (h1 v e)
theorem sortB_ok (T:TotB lt) : ∀ (l o:List α),o.Pairwise (fun u v=>lt v u=false)→((l.foldl (fun o a=>insB lt a o) o).Perm (o++l)∧(l.foldl (fun o a=>insB lt a o) o).Pairwise fun u v=>lt v u=false)
 | [],o,h=>⟨by rw [List.append_nil];exact .refl _,h⟩
 | a::r,o,h=>by
  obtain ⟨h1,h2⟩:=sortB_ok T r (insB lt a o) (insB_pair T a h)
  refine ⟨h1.trans ?_,h2⟩
  exact ((insB_perm a o).append_right r).trans (List.perm_middle.symm)
theorem sortB_perm (T:TotB lt) (l:List α):(sortB lt l).Perm l:=(sortB_ok T l [] .nil).1
theorem sortB_eq (T:TotB lt) {l x:List α} (hp:x.Perm l) (hs:x.Pairwise fun u v=>lt v u=false) (H : ∀ u v,u∈l→v∈l→lt u v=false→lt v u=false→u=v):x=sortB lt l:=
 pair_uniq hs (sortB_ok T l [] .nil).2 (hp.trans (sortB_perm T l).symm) fun u v hu hv=>H u v (hp.mem_iff.1 hu) (hp.mem_iff.1 hv)
theorem insB_at [Inhabited α] {a:α} : ∀ {l:List α} {k:Nat},(∀ j,j<k→lt (gD l j) a=true)→k≤l.length→(k<l.length→lt (gD l k) a=false)→insB lt a l=l.take k++a::l.drop k
 | [],k,_,hk,_=>by
  have:k=0:=by simpa using hk
  subst this;rfl
 | b::r,0,_,_,h=>by
  have:lt b a=false:=h (Nat.succ_pos _)
  unfold insB;rw [this];rfl
 | b::r,k+1,hj,hk,h=>by
  have h0:lt b a=true:=hj 0 (Nat.succ_pos _)
  unfold insB
  rw [h0,insB_at (l:=r) (k:=k) (fun j q=>hj (j+1) (by omega)) (by simpa using hk) (fun q=>h (by simpa using q))]
  rfl
theorem set_cut {a:α} : ∀ {l:List α} {k:Nat},k<l.length→(l.set k a).take (k+1)++l.drop k=l.take k++a::l.drop k
 | [],k,h=>by simp at h
 | b::r,0,_=>rfl
 | b::r,k+1,h=>by
  have:=set_cut (l:=r) (k:=k) (a:=a) (by simpa using h)
  simp only [List.set_cons_succ,List.take_succ_cons,List.drop_succ_cons,List.cons_append,this]
end
end Go.Ev

namespace Go.Ev
open Go
def hasS (d:Int) (s:PSpan):Bool:=bnot (ltI d 0) && (bnot (ltI 1048576 d) && (bnot (ltI d s.from_) && ltI d s.to))
def hasR (l:List PSpan) (d:Int):Bool:=l.any (hasS d)
theorem bnot_ltI (a b:Int):bnot (ltI a b)=decide (b≤a):=by
 cases h:ltI a b with
 | true=>have:=ltI_true h;exact (decide_eq_false (by omega)).symm
 | false=>have:=ltI_false h;exact (decide_eq_true (by omega)).symm
theorem ltI_dec (a b:Int):ltI a b=decide (a<b):=by
 cases h:ltI a b with
 | true=>have:=ltI_true h;exact (decide_eq_true (by omega)).symm
 | false=>have:=ltI_false h;exact (decide_eq_false (by omega)).symm
theorem hasR_eq : ∀ (l:List PSpan) (d:Int),hasR l d=(inR d && memB l d)
 | [],d=>by simp [hasR,memB]
 | s::r,d=>by
  have ih:=hasR_eq r d
  have e:hasR (s::r) d=(hasS d s || hasR r d):=rfl
  rw [e,ih,memB_cons]
  have e2:hasS d s=(inR d && decide (s.from_≤d∧d<s.to)):=by
   unfold hasS inR
   rw [bnot_ltI,bnot_ltI,bnot_ltI,ltI_dec,Bool.eq_iff_iff]
   simp only [Bool.and_eq_true,decide_eq_true_eq]
   omega
  rw [e2]
  cases inR d <;> simp
def inP (z:Int):Bool:=ltI 0 z && bnot (ltI 1048576 z)
def ptA (z:Int) (l:List Int):List Int:=bif inP z then putZ z l else l
def ptS (s:PSpan) (l:List Int):List Int:=ptA s.to (ptA s.from_ l)
def ptsL:List PSpan→List Int→List Int
 | [],l=>l
 | s::r,l=>ptsL r (ptS s l)
theorem ptA_y {z:Int} {l:List Int} (h1:ltI 0 z=true) (h2:ltI 1048576 z=false):ptA z l=putZ z l:=by unfold ptA inP;rw [h1,h2];rfl
theorem ptA_1 {z:Int} {l:List Int} (h1:ltI 0 z=false):ptA z l=l:=by unfold ptA inP;rw [h1];rfl
theorem ptA_2 {z:Int} {l:List Int} (h2:ltI 1048576 z=true):ptA z l=l:=by unfold ptA inP;rw [h2];cases ltI 0 z <;> rfl
theorem ptA_len (z:Int) (l:List Int):(ptA z l).length≤l.length+1:=by
 unfold ptA;cases inP z with
 | true=>exact putZ_len z l
 | false=>exact Nat.le_succ _
theorem ptA_rise {z:Int} {l:List Int} (h:l.Pairwise (· < ·)):(ptA z l).Pairwise (· < ·):=by
 unfold ptA;cases inP z with
 | true=>exact putZ_rise z h
 | false=>exact h
theorem inP_iff {z:Int} : inP z=true↔0<z∧z≤1048576:=by
 unfold inP;rw [bnot_ltI,ltI_dec];simp
theorem ptA_mem {z k:Int} {l:List Int} : k∈ptA z l↔(k=z∧0<z∧z≤1048576)∨k∈l:=by
 unfold ptA;cases h:inP z with
 | true => have:=inP_iff.1 h;simp only [cond_true,putZ_mem];constructor
           ·rintro (h | h)
            ·exact .inl ⟨h,this⟩
            ·exact .inr h
           ·rintro (h | h)
            ·exact .inl h.1
            ·exact .inr h
 | false => simp only [cond_false];constructor
            ·exact .inr
            ·rintro (q | q)
             ·rw [inP_iff.2 q.2] at h;cases h
             ·exact q
structure PtsI (l:List Int):Prop where
 rise:l.Pairwise (· < ·)
 zero:0∈l
 ok : ∀ z,z∈l→0≤z∧z≤1048576
theorem PtsI.put {z:Int} {l:List Int} (h:PtsI l):PtsI (ptA z l):=⟨ptA_rise h.rise,ptA_mem.2 (.inr h.zero),fun k hk=>by
 rcases ptA_mem.1 hk with q | q
 ·omega
 ·exact h.ok k q⟩
theorem ptsL_ok : ∀ (s:List PSpan) (l:List Int),PtsI l→PtsI (ptsL s l)∧(∀ z,z∈l→z∈ptsL s l)∧∀ x,x∈s→∀ z,z=x.from_∨z=x.to→0<z→z≤1048576→z∈ptsL s l
 | [],l,h=>⟨h,fun _ q=>q,fun x hx=>by cases hx⟩
 | s::r,l,h=>by
  obtain ⟨h1,h2,h3⟩:=ptsL_ok r (ptS s l) h.put.put
  refine ⟨h1,fun z hz=>h2 z (ptA_mem.2 (.inr (ptA_mem.2 (.inr hz)))),fun x hx z hz p1 p2=>?_⟩
  rcases List.mem_cons.1 hx with e | e
  ·subst e
   rcases hz with hz | hz
   ·exact h2 z (ptA_mem.2 (.inr (ptA_mem.2 (.inl ⟨hz,by omega,by omega⟩))))
   ·exact h2 z (ptA_mem.2 (.inl ⟨hz,by omega,by omega⟩))
  ·exact h3 x e z hz p1 p2
theorem ptS_len (s:PSpan) (l:List Int):(ptS s l).length≤l.length+2:=by
 have h1:=ptA_len s.from_ l
 have h2:=ptA_len s.to (ptA s.from_ l)
 unfold ptS;omega
theorem ptsL_len : ∀ (s:List PSpan) (l:List Int),(ptsL s l).length≤l.length+2 * s.length
 | [],l=>by simp [ptsL]
 | s::r,l=>by
  have:=ptsL_len r (ptS s l)
  have:=ptS_len s l
  simp only [ptsL,List.length_cons];omega
theorem pts0:PtsI [0]:=⟨List.pairwise_singleton ..,List.mem_singleton.2 rfl,fun z hz=>by rw [List.mem_singleton.1 hz];omega⟩
def bnd (P:List Int) (i:Nat):Int:=bif Nat.blt i P.length then gD P i else 1048577
theorem bnd_in {P:List Int} {i:Nat} (h:i<P.length):bnd P i=gD P i:=by
 unfold bnd;rw [show Nat.blt i P.length=true from Nat.ble_eq_true_of_le h];rfl
theorem bnd_out {P:List Int} {i:Nat} (h:P.length≤i):bnd P i=1048577:=by
 unfold bnd
 have:Nat.blt i P.length=false:=by rw [blt_iff];exact decide_eq_false (by omega)
 rw [this];rfl
theorem rise_at {P:List Int} (h:P.Pairwise (· < ·)) {i j:Nat} (hij:i<j) (hj:j<P.length):gD P i<gD P j:=by
 have e1:gD P i=P[i]:=by simp [gD,show i<P.length by omega]
 have e2:gD P j=P[j]:=by simp [gD,hj]
 rw [e1,e2];exact List.pairwise_iff_getElem.1 h i j (by omega) hj hij
theorem PtsI.bnd_lt {P:List Int} (h:PtsI P) {i:Nat} (hi:i<P.length):gD P i<bnd P (i+1)∧bnd P (i+1)≤1048577:=by
 have h1:=h.ok _ (gD_mem hi)
 rcases Nat.lt_or_ge (i+1) P.length with q | q
 ·rw [bnd_in q]
  have:=h.ok _ (gD_mem q)
  exact ⟨rise_at h.rise (Nat.lt_succ_self i) q,by omega⟩
 ·rw [bnd_out q];omega
theorem PtsI.first {P:List Int} (h:PtsI P):bnd P 0=0:=by
 have hl:0<P.length:=List.length_pos_of_mem h.zero
 rw [bnd_in hl]
 obtain ⟨i,hi,e⟩:=List.getElem_of_mem h.zero
 have e2:gD P i=0:=by simp [gD,hi,e]
 have h1:=h.ok _ (gD_mem hl)
 rcases Nat.eq_zero_or_pos i with q | q
 ·rw [q] at e2;exact e2
 ·have:=rise_at h.rise q hi
  omega
theorem PtsI.none {P:List Int} (h:PtsI P) {i:Nat} {z:Int} (hi:i<P.length) (hz:z∈P) (h1:gD P i<z):bnd P (i+1)≤z:=by
 obtain ⟨j,hj,e⟩:=List.getElem_of_mem hz
 have e2:gD P j=z:=by simp [gD,hj,e]
 have hij:i<j:=by
  rcases Nat.lt_or_ge i j with q | q
  ·exact q
  ·rcases Nat.eq_or_lt_of_le q with q | q
   ·rw [q] at e2;omega
   ·have:=rise_at h.rise q hi;omega
 rw [bnd_in (by omega),← e2]
 rcases Nat.eq_or_lt_of_le hij with q | q
 ·rw [← q];exact Int.le_refl _
 ·exact Int.le_of_lt (rise_at h.rise q hj)
theorem mem_const {P:List Int} (h:PtsI P) {l:List PSpan} (hl : ∀ x,x∈l→∀ z,z=x.from_∨z=x.to→0<z→z≤1048576→z∈P) {i:Nat} (hi:i<P.length) {d:Int} (h1:gD P i≤d) (h2:d<bnd P (i+1)):memB l d=memB l (gD P i):=by
 have h0:=h.ok _ (gD_mem hi)
 have hb:=h.bnd_lt hi
 rw [Bool.eq_iff_iff,memB_iff,memB_iff]
 constructor
 ·rintro ⟨x,x1,x2,x3⟩
  refine ⟨x,x1,?_,by omega⟩
  rcases Int.lt_or_le (gD P i) x.from_ with q | q
  ·have:=h.none hi (hl x x1 x.from_ (.inl rfl) (by omega) (by omega)) q
   omega
  ·exact q
 ·rintro ⟨x,x1,x2,x3⟩
  refine ⟨x,x1,by omega,?_⟩
  rcases Int.lt_or_le d x.to with q | q
  ·exact q
  ·have:=h.none hi (hl x x1 x.to (.inr rfl) (by omega) (by omega)) x3
   omega
structure BothI (g:Int→Bool) (P:List Int) (out:List PSpan) (i:Nat):Prop where
 nrm:NrmS out
 mem : ∀ d,memB out d=(decide (0≤d∧d<bnd P i) && g d)
 to : ∀ s,s∈out→s.to≤bnd P i
theorem BothI.start {g:Int→Bool} {P:List Int} (h:PtsI P):BothI g P [] 0:=⟨nrm_nil,fun d=>by
 rw [h.first,memB_nil,decide_eq_false (by omega),Bool.false_and],fun s hs=>by cases hs⟩
section
variable {g : Int → Bool} {P : List Int} {out : List PSpan} {i : Nat}
theorem BothI.off (h:BothI g P out i) (hP:PtsI P) (hi:i<P.length) (hg : ∀ d,gD P i≤d→d<bnd P (i+1)→g d=g (gD P i)) (hn:g (gD P i)=false):BothI g P out (i+1):=by
 have hb:=hP.bnd_lt hi
 have h0:=hP.ok _ (gD_mem hi)
 have e:=bnd_in hi
 refine ⟨h.nrm,fun d=>?_,fun s hs=>by have:=h.to s hs;omega⟩
 rw [h.mem]
 by_cases c:gD P i≤d∧d<bnd P (i+1)
 ·rw [hg d c.1 c.2,hn,Bool.and_false,Bool.and_false]
 ·congr 1;rw [decide_eq_decide];omega
theorem memB_last {l:List PSpan} {s:PSpan} (d:Int):memB (l++ [s]) d=(memB l d || decide (s.from_≤d∧d<s.to)):=by
 rw [memB_app,memB_cons,memB_nil,Bool.or_false]
theorem BothI.add (h:BothI g P out i) (hP:PtsI P) (hi:i<P.length) (hg : ∀ d,gD P i≤d→d<bnd P (i+1)→g d=g (gD P i)) (hy:g (gD P i)=true) (hl : ∀ s,s∈out→s.to≠gD P i):BothI g P (out++ [⟨gD P i,bnd P (i+1)⟩]) (i+1):=by
 have hb:=hP.bnd_lt hi
 have h0:=hP.ok _ (gD_mem hi)
 have e:=bnd_in hi
 refine ⟨⟨List.pairwise_append.2 ⟨h.nrm.gap,List.pairwise_singleton ..,fun a ha b hb=>?_⟩,fun s hs=>?_⟩,fun d=>?_,fun s hs=>?_⟩
 ·rw [List.mem_singleton.1 hb]
  have:=h.to a ha;have:=hl a ha
  show a.to<gD P i
  omega
 ·rcases List.mem_append.1 hs with q | q
  ·exact h.nrm.ok s q
  ·rw [List.mem_singleton.1 q];exact ⟨h0.1,hb.1,hb.2⟩
 ·rw [memB_last,h.mem]
  by_cases c:gD P i≤d∧d<bnd P (i+1)
  ·rw [hg d c.1 c.2,hy]
   rw [decide_eq_true c,Bool.or_true,decide_eq_true (by omega)];rfl
  ·rw [decide_eq_false c,Bool.or_false]
   congr 1;rw [decide_eq_decide];omega
 ·rcases List.mem_append.1 hs with q | q
  ·have:=h.to s q;omega
  ·rw [List.mem_singleton.1 q];exact Int.le_refl _
theorem set_append {l:List PSpan} {s t:PSpan} {k:Nat} (h:k=l.length):(l++ [s]).set k t=l++ [t]:=by subst h;simp
theorem BothI.grow (h:BothI g P out i) (hP:PtsI P) (hi:i<P.length) (hg : ∀ d,gD P i≤d→d<bnd P (i+1)→g d=g (gD P i)) (hy:g (gD P i)=true) {k:Nat} (hk:k+1=out.length) (hl:(gD out k).to=gD P i) {f t:Int} (hf:f=(gD out k).from_) (ht:t=bnd P (i+1)):BothI g P (out.set k ⟨f,t⟩) (i+1):=by
 subst hf ht
 have hb:=hP.bnd_lt hi
 have h0:=hP.ok _ (gD_mem hi)
 have e:=bnd_in hi
 have eo:out=out.take k++ [gD out k]:=by rw [← take_gD (by omega),List.take_of_length_le (by omega)]
 have hok:=h.nrm.ok _ (gD_mem (l:=out) (i:=k) (by omega))
 generalize gD out k=u at *
 generalize out.take k=m at *
 subst eo
 have hk':k=m.length:=by simp at hk;omega
 rw [set_append hk']
 obtain ⟨g1,_,g2⟩:=List.pairwise_append.1 h.nrm.gap
 refine ⟨⟨List.pairwise_append.2 ⟨g1,List.pairwise_singleton ..,fun a ha b hb=>?_⟩,fun s hs=>?_⟩,fun d=>?_,fun s hs=>?_⟩
 ·rw [List.mem_singleton.1 hb];exact g2 a ha u (List.mem_singleton.2 rfl)
 ·rcases List.mem_append.1 hs with q | q
  ·exact h.nrm.ok s (List.mem_append_left _ q)
  ·rw [List.mem_singleton.1 q];exact ⟨hok.1,by show u.from_<bnd P (i+1);omega,hb.2⟩
 ·have hm:=h.mem d
  rw [memB_last] at hm ⊢
  by_cases c:gD P i≤d∧d<bnd P (i+1)
  ·rw [hg d c.1 c.2,hy,decide_eq_true (p:=u.from_≤d∧d<bnd P (i+1)) (by omega),Bool.or_true,decide_eq_true (by omega)];rfl
  ·have e1:decide (u.from_≤d∧d<bnd P (i+1))=decide (u.from_≤d∧d<u.to):=by rw [decide_eq_decide];omega
   show (memB m d || decide (u.from_≤d∧d<bnd P (i+1)))=_
   rw [e1,hm]
   congr 1;rw [decide_eq_decide];omega
 ·rcases List.mem_append.1 hs with q | q
  ·have:=h.to s (List.mem_append_left _ q);omega
  ·rw [List.mem_singleton.1 q];exact Int.le_refl _
theorem BothI.add' {j:Nat} {t:Int} (h:BothI g P out i) (hP:PtsI P) (hi:i<P.length) (hg : ∀ d,gD P i≤d→d<bnd P (i+1)→g d=g (gD P i)) (hy:g (gD P i)=true) (hl : ∀ s,s∈out→s.to≠gD P i) (ht:bnd P (i+1)=t) (hj:j=i+1):BothI g P (out++ [⟨gD P i,t⟩]) j:=by
 subst ht hj;exact h.add hP hi hg hy hl
theorem BothI.off' {j:Nat} (h:BothI g P out i) (hP:PtsI P) (hi:i<P.length) (hg : ∀ d,gD P i≤d→d<bnd P (i+1)→g d=g (gD P i)) (hn:g (gD P i)=false) (hj:j=i+1):BothI g P out j:=by
 subst hj;exact h.off hP hi hg hn
theorem BothI.grow' {j k:Nat} {f t:Int} (h:BothI g P out i) (hP:PtsI P) (hi:i<P.length) (hg : ∀ d,gD P i≤d→d<bnd P (i+1)→g d=g (gD P i)) (hy:g (gD P i)=true) (hl:(gD out k).to=gD P i) (hf:f=(gD out k).from_) (ht:bnd P (i+1)=t) (hk:k+1=out.length) (hj:j=i+1):BothI g P (out.set k ⟨f,t⟩) j:=by
 subst hj;exact h.grow hP hi hg hy hk hl hf ht.symm
theorem BothI.last_ne {k:Nat} (h:BothI g P out i) (hi:i<P.length) (hne:(gD out k).to≠gD P i) (hk:k+1=out.length) : ∀ s,s∈out→s.to≠gD P i:=by
 intro s hs
 obtain ⟨j,hj,e⟩:=List.getElem_of_mem hs
 have e2:gD out j=s:=by simp [gD,hj,e]
 rcases Nat.lt_or_ge j k with q | q
 ·have h1:=h.nrm.at q (by omega)
  have h2:=h.nrm.okAt (k:=k) (by omega)
  have h3:=h.to _ (gD_mem (l:=out) (i:=k) (by omega))
  rw [bnd_in hi] at h3
  rw [e2] at h1;omega
 ·rw [show j=k by omega] at e2;rw [← e2];exact hne
theorem BothI.done {op:Bool→Bool→Bool} {a b:List PSpan} (h:BothI (fun d=>op (hasR a d) (hasR b d)) P out i) (hi:P.length≤i):out=bothL op a b:=by
 unfold bothL
 refine nf_eq h.nrm fun d=>?_
 rw [h.mem,bnd_out hi]
 show (inR d && op (hasR a d) (hasR b d))=_
 rw [hasR_eq,hasR_eq]
 cases inR d <;> rfl
end
theorem both_const {op:Bool→Bool→Bool} {a b:List PSpan} {i:Nat} (hi:i<(ptsL (a++b) [0]).length) : ∀ d,gD (ptsL (a++b) [0]) i≤d→d<bnd (ptsL (a++b) [0]) (i+1)→op (hasR a d) (hasR b d)=op (hasR a (gD (ptsL (a++b) [0]) i)) (hasR b (gD (ptsL (a++b) [0]) i)):=by
 obtain ⟨h1,_,h3⟩:=ptsL_ok (a++b) [0] pts0
 intro d d1 d2
 have h0:=h1.ok _ (gD_mem hi)
 have hb:=h1.bnd_lt hi
 have r1:inR d=true:=by unfold inR;exact decide_eq_true (by omega)
 have r2:inR (gD (ptsL (a++b) [0]) i)=true:=by unfold inR;exact decide_eq_true (by omega)
 rw [hasR_eq,hasR_eq,hasR_eq,hasR_eq,r1,r2,mem_const h1 (fun x hx=>h3 x (List.mem_append_left _ hx)) hi d1 d2,mem_const h1 (fun x hx=>h3 x (List.mem_append_right _ hx)) hi d1 d2]
end Go.Ev
