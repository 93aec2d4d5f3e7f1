/- Functions walked: what each of them answers, for the law of the breakpoints. Conditions: those that each theorem names. -/
import Derived.Test.YtbkijjplgkojcaaGreatDoorEva
import Derived.Test.YtbkijjplgkojcaaGreatDoorMach6
namespace Go.Proofs.YtbkijjplgkojcaaGreatDoor
open Go Go.Ev
theorem oN (n : Nat) : Int.ofNat n = (n : Int) := rfl
theorem lM {α β : Type} {f : α → β} {l : List α} : (l.map f).length = l.length := List.length_map ..
theorem lS {α : Type} {l : List α} {i : Nat} {a : α} : (l.set i a).length = l.length := List.length_set ..
theorem lA {α : Type} {l m : List α} : (l ++ m).length = l.length + m.length := List.length_append ..
theorem lC {α : Type} {a : α} {l : List α} : (a :: l).length = l.length + 1 := rfl
theorem lN {α : Type} : ([] : List α).length = 0 := rfl
theorem lR {α : Type} {n : Nat} {a : α} : (List.replicate n a).length = n := List.length_replicate ..
abbrev iA (x : Int) : AV := .int .i64 x
abbrev nA (n : Nat) : AV := .int .i64 (.ofNat n)
theorem et3 {p0 p1 p2 : Prop} (h0 : p0) (h1 : p1) (h2 : p2) : p0 ∧ p1 ∧ p2 := ⟨h0, h1, h2⟩
theorem et4 {p0 p1 p2 p3 : Prop} (h0 : p0) (h1 : p1) (h2 : p2) (h3 : p3) : p0 ∧ p1 ∧ p2 ∧ p3 := ⟨h0, h1, h2, h3⟩
theorem et5 {p0 p1 p2 p3 p4 : Prop} (h0 : p0) (h1 : p1) (h2 : p2) (h3 : p3) (h4 : p4) : p0 ∧ p1 ∧ p2 ∧ p3 ∧ p4 := ⟨h0, h1, h2, h3, h4⟩
theorem et6 {p0 p1 p2 p3 p4 p5 : Prop} (h0 : p0) (h1 : p1) (h2 : p2) (h3 : p3) (h4 : p4) (h5 : p5) : p0 ∧ p1 ∧ p2 ∧ p3 ∧ p4 ∧ p5 := ⟨h0, h1, h2, h3, h4, h5⟩
theorem et7 {p0 p1 p2 p3 p4 p5 p6 : Prop} (h0 : p0) (h1 : p1) (h2 : p2) (h3 : p3) (h4 : p4) (h5 : p5) (h6 : p6) : p0 ∧ p1 ∧ p2 ∧ p3 ∧ p4 ∧ p5 ∧ p6 := ⟨h0, h1, h2, h3, h4, h5, h6⟩
theorem et8 {p0 p1 p2 p3 p4 p5 p6 p7 : Prop} (h0 : p0) (h1 : p1) (h2 : p2) (h3 : p3) (h4 : p4) (h5 : p5) (h6 : p6) (h7 : p7) : p0 ∧ p1 ∧ p2 ∧ p3 ∧ p4 ∧ p5 ∧ p6 ∧ p7 := ⟨h0, h1, h2, h3, h4, h5, h6, h7⟩
theorem et9 {p0 p1 p2 p3 p4 p5 p6 p7 p8 : Prop} (h0 : p0) (h1 : p1) (h2 : p2) (h3 : p3) (h4 : p4) (h5 : p5) (h6 : p6) (h7 : p7) (h8 : p8) : p0 ∧ p1 ∧ p2 ∧ p3 ∧ p4 ∧ p5 ∧ p6 ∧ p7 ∧ p8 := ⟨h0, h1, h2, h3, h4, h5, h6, h7, h8⟩
theorem et10 {p0 p1 p2 p3 p4 p5 p6 p7 p8 p9 : Prop} (h0 : p0) (h1 : p1) (h2 : p2) (h3 : p3) (h4 : p4) (h5 : p5) (h6 : p6) (h7 : p7) (h8 : p8) (h9 : p9) : p0 ∧ p1 ∧ p2 ∧ p3 ∧ p4 ∧ p5 ∧ p6 ∧ p7 ∧ p8 ∧ p9 := ⟨h0, h1, h2, h3, h4, h5, h6, h7, h8, h9⟩
theorem et11 {p0 p1 p2 p3 p4 p5 p6 p7 p8 p9 p10 : Prop} (h0 : p0) (h1 : p1) (h2 : p2) (h3 : p3) (h4 : p4) (h5 : p5) (h6 : p6) (h7 : p7) (h8 : p8) (h9 : p9) (h10 : p10) : p0 ∧ p1 ∧ p2 ∧ p3 ∧ p4 ∧ p5 ∧ p6 ∧ p7 ∧ p8 ∧ p9 ∧ p10 := ⟨h0, h1, h2, h3, h4, h5, h6, h7, h8, h9, h10⟩
theorem et12 {p0 p1 p2 p3 p4 p5 p6 p7 p8 p9 p10 p11 : Prop} (h0 : p0) (h1 : p1) (h2 : p2) (h3 : p3) (h4 : p4) (h5 : p5) (h6 : p6) (h7 : p7) (h8 : p8) (h9 : p9) (h10 : p10) (h11 : p11) : p0 ∧ p1 ∧ p2 ∧ p3 ∧ p4 ∧ p5 ∧ p6 ∧ p7 ∧ p8 ∧ p9 ∧ p10 ∧ p11 := ⟨h0, h1, h2, h3, h4, h5, h6, h7, h8, h9, h10, h11⟩
noncomputable def shortOne (x:PWord):Bool:=bnot (ltI 100 (.ofNat x.text.length))
noncomputable def shortB (ws:List PWord):Bool:=ws.all shortOne && bnot (ltI 300 (.ofNat ws.length))
theorem isNaN_ok (x:Int):HPure Tryz.prog G 91 [.int .i64 x] (.bool false):=by
  exact HPure.walk mixed gtop (ev 40) (by kernel_rfl) (by kernel_rfl) (fn:=Tryz.f91) Tryz.func91 (by kernel_rfl) rfl ⟨by kernel_rfl,by kernel_rfl⟩ (.go 4 .fin) ((Le.bool (by simp [eqI_refl]:(false)=(bnot (eqI x x)))):Le _ (AV.bool (bnot (eqI x x)))) (by kernel_rfl)
theorem compare_ok (x y:Int):HPure Tryz.prog G 59 [.int .i64 x, .int .i64 y] (.int .i64 (cmpI x y)):=by
  exact HPure.walk mixed gtop (ev 40) (by kernel_rfl) (by kernel_rfl) (fn:=Tryz.f59) Tryz.func59 (by kernel_rfl) rfl ⟨by kernel_rfl,by kernel_rfl⟩ (.go 1 (.pure (AV.bool false) (.go 1 (.pure (AV.bool false) (.go 7 (.br (.go 0 .fin) (.go 2 (.br (.go 0 .fin) (.go 0 .fin))))))))) (et4 (isNaN_ok x) (isNaN_ok y) (fun (h0:(ltI x y)=true)=>(have gh0:=ltI_true h0;((Le.int (by simp [cmpI, *]:(cmpI x y)=(-1))):Le _ (iA (-1))))) (fun (h0:(ltI x y)=false)=>(have gh0:=ltI_false h0;(et (fun (h1:(ltI y x)=true)=>(have gh1:=ltI_true h1;((Le.int (by simp [cmpI, *]:(cmpI x y)=(1))):Le _ (iA 1)))) (fun (h1:(ltI y x)=false)=>(have gh1:=ltI_false h1;((Le.int (by simp [cmpI, *]:(cmpI x y)=(0))):Le _ (iA 0)))))))) (by kernel_rfl)
def shortI0 (ws:List PWord) (x0:Nat × List PWord × Unit):Prop:=(ws).drop x0.1=x0.2.1∧ws.all shortOne=x0.2.1.all shortOne
noncomputable def shortS0 (ws:List PWord) (x0:Nat × List PWord × Unit):List AV × List AObj:=([AV.ls (List.map encWord ws),nA (x0.1)], [])
theorem short_ok (ws:List PWord) (hl:ws.length<2 ^ 60):HPure Tryz.prog G 109 [.ls (ws.map encWord)] (.bool (shortB ws)):=by
  exact HPure.walk mixed gtop (ev 40) (by kernel_rfl) (by kernel_rfl) (fn:=Tryz.f109) Tryz.func109 (by kernel_rfl) rfl ⟨by kernel_rfl,by kernel_rfl⟩ (.go 1 (.loop (Nat × List PWord × Unit) [0,3] (shortS0 ws) (shortI0 ws) (fun x=>x.2.1.length) (0,ws,()) (fun x0=> .cs (PWord) x0.2.1 (.go 2 (.le 6 (nA (ws.length)) (.go 0 (.ff (.go 1 (.le 18 (nA (ws.length)) (.go 1 .fin))))))) (fun w0 r0=>(.go 2 (.le 6 (nA (ws.length)) (.go 0 (.tt (.go 1 (.elem (encWord w0) (.go 3 (.br (.go 0 .fin) (.go 1 (.le 9 (nA (x0.1+1)) (.go 0 .fin))))))))))))))) (et3 (Eq.refl ((shortS0 ws) (0,ws,()))) (et (rfl:List.drop 0 (ws)=ws) (by rfl:(ws.all shortOne=ws.all shortOne))) (fun (x0:Nat × List PWord × Unit) (hx0:(shortI0 ws) x0)=>et (fun (hr0:x0.2.1 = [])=>have lt0:=rng_nil hx0.1 hr0;have hj0:ws.all shortOne = [].all shortOne:=rng_j0 (J:=fun r x=>ws.all shortOne=r.all shortOne) (a:=x0.2.2) hr0 hx0.2;(et4 (Le.len (f:=encWord) (l:=ws)) lt0 (Le.len (f:=encWord) (l:=ws)) ((Le.bool (by simp only [shortB,shortOne,aS,bnot,bS, *]:(shortB ws)=(bnot (ltI 300 (Int.ofNat ws.length))))):Le _ (AV.bool (bnot (ltI 300 (Int.ofNat ws.length))))))) (fun (w0:PWord) (r0:List PWord) (hr0:x0.2.1=w0::r0)=>have lt0:=rng_lt hx0.1 hr0;have glt0:=ltI_true lt0;have nt0:=rng_nth (enc:=encWord) hx0.1 hr0;have hj0:ws.all shortOne=(w0::r0).all shortOne:=rng_j1 (J:=fun r x=>ws.all shortOne=r.all shortOne) (a:=x0.2.2) hr0 hx0.2;(et5 (Le.len (f:=encWord) (l:=ws)) lt0 nt0 (fun (h0:(ltI 100 (Int.ofNat (List.length w0.text)))=true)=>(have gh0:=ltI_true h0;((Le.bool (by simp only [shortB,shortOne,aS,bnot,bS, *]:(shortB ws)=(false))):Le _ (AV.bool false)))) (fun (h0:(ltI 100 (Int.ofNat (List.length w0.text)))=false)=>(have gh0:=ltI_false h0;(et (Le.wr (x:=Int.ofNat x0.1+1) (by (simp only [oN,lM,lS] at *;omega))) (Nx.mk (I:=(shortI0 ws)) (m:=fun x=>x.2.1.length) (S:=(shortS0 ws)) (x:=x0) (x0.1+1,r0,()) (et (rng_succ hx0.1 hr0) (by simp only [shortOne,aS,bnot,bS, *] at * : (ws.all shortOne=r0.all shortOne))) (rng_m hr0))))))))) (by kernel_rfl)
mutual
noncomputable def wordsB:TUnit→Bool
  | ⟨_,_,_,_,label,h,w,kids⟩=>bnot (ltI 30 (.ofNat label.length)) && shortB h && shortB w && wordsL kids
noncomputable def wordsL:List TUnit→Bool
  | []=>true
  | u::r=>wordsB u && wordsL r
end
theorem wordsL_eq : ∀ (l:List TUnit),wordsL l=l.all wordsB
  | []=>by rw [wordsL];rfl
  | u::r=>by rw [wordsL,wordsL_eq r];rfl
theorem wordsB_eq (u:TUnit):wordsB u=(bnot (ltI 30 (.ofNat u.label.length)) && shortB u.head && shortB u.words && u.kids.all wordsB):=by
  obtain ⟨a,b,c,d,e,f,g,h⟩:=u
  rw [wordsB,wordsL_eq];rfl
def wordsI0 (u:TUnit) (x0:Nat × List TUnit × Unit):Prop:=(u.kids).drop x0.1=x0.2.1∧u.kids.all wordsB=x0.2.1.all wordsB
noncomputable def wordsS0 (u:TUnit) (x0:Nat × List TUnit × Unit):List AV × List AObj:=([AV.pptr [AV.agg [iA u.act,iA u.item,iA u.n,iA u.kind,AV.str u.label,AV.ls (List.map encWord u.head),AV.ls (List.map encWord u.words),AV.ls (List.map encU u.kids)]] 0 0,nA (x0.1)], [])
theorem words_ok : ∀ (u:TUnit),fitU u→HPure Tryz.prog G 89 [eU u] (.bool (wordsB u)):=by
  refine TUnit.ind fun u ih hf=>?_
  obtain ⟨f1,f2,f3,f4⟩:=fitU_iff.1 hf
  exact HPure.walk mixed gtop (ev 40) (by kernel_rfl) (by kernel_rfl) (fn:=Tryz.f89) Tryz.func89 (by kernel_rfl) rfl ⟨by kernel_rfl,by kernel_rfl⟩ (.go 6 (.br (.tt (.tt (.tt (.pk true (.go 3 .fin))))) (.go 0 (.ff (.go 0 (.ff (.pure (AV.bool (shortB u.head)) (.ff (.go 0 (.pk false (.go 0 (.br (.tt (.tt (.tt (.pk true (.go 1 .fin))))) (.go 0 (.ff (.go 0 (.ff (.pure (AV.bool (shortB u.words)) (.ff (.go 0 (.pk false (.br (.go 0 .fin) (.go 0 (.frz 0 [1,3] (.loop (Nat × List TUnit × Unit) [1,3] (wordsS0 u) (wordsI0 u) (fun x=>x.2.1.length) (0,u.kids,()) (fun x0=> .cs (TUnit) x0.2.1 (.go 3 (.le 23 (nA (u.kids.length)) (.go 0 (.ff (.go 0 .fin))))) (fun w0 r0=>(.go 3 (.le 23 (nA (u.kids.length)) (.go 0 (.tt (.go 2 (.elem (eU w0) (.go 0 (.pure (AV.bool (wordsB w0)) (.go 0 (.br (.go 0 .fin) (.go 1 (.le 26 (nA (x0.1+1)) (.go 0 .fin))))))))))))))))))))))))))))))))))))))) (et (fun (h0:(ltI 30 (Int.ofNat (List.length u.label)))=true)=>(have gh0:=ltI_true h0;(et5 h0 h0 h0 h0 ((Le.bool (by rw [wordsB_eq];simp only [aS,bnot,bS, *]:(wordsB u)=(false))):Le _ (AV.bool false))))) (fun (h0:(ltI 30 (Int.ofNat (List.length u.label)))=false)=>(have gh0:=ltI_false h0;(et7 h0 h0 (short_ok (u.head) f1) h0 h0 (fun (z:(bnot (shortB u.head))=true)=>have h1:(shortB u.head)=false:=(of_bnotT z);(et5 (bnT h1) (bnT h1) (bnT h1) (bnT h1) ((Le.bool (by rw [wordsB_eq];simp only [aS,bnot,bS, *]:(wordsB u)=(false))):Le _ (AV.bool false)))) (fun (z:(bnot (shortB u.head))=false)=>have h1:(shortB u.head)=true:=(of_bnotF z);(et7 (bnF h1) (bnF h1) (short_ok (u.words) f2) (bnF h1) (bnF h1) (fun (z:(bnot (shortB u.words))=true)=>have h2:(shortB u.words)=false:=(of_bnotT z);((Le.bool (by rw [wordsB_eq];simp only [aS,bnot,bS, *]:(wordsB u)=(false))):Le _ (AV.bool false))) (fun (z:(bnot (shortB u.words))=false)=>have h2:(shortB u.words)=true:=(of_bnotF z);(et4 True.intro (Eq.refl ((wordsS0 u) (0,u.kids,()))) (et (rfl:List.drop 0 (u.kids)=u.kids) (by rfl:(u.kids.all wordsB=u.kids.all wordsB))) (fun (x0:Nat × List TUnit × Unit) (hx0:(wordsI0 u) x0)=>et (fun (hr0:x0.2.1 = [])=>have lt0:=rng_nil hx0.1 hr0;have hj0:u.kids.all wordsB = [].all wordsB:=rng_j0 (J:=fun r x=>u.kids.all wordsB=r.all wordsB) (a:=x0.2.2) hr0 hx0.2;(et3 (Le.len (f:=encU) (l:=u.kids)) lt0 ((Le.bool (by rw [wordsB_eq];simp only [aS,bnot,bS, *]:(wordsB u)=(true))):Le _ (AV.bool true)))) (fun (w0:TUnit) (r0:List TUnit) (hr0:x0.2.1=w0::r0)=>have lt0:=rng_lt hx0.1 hr0;have glt0:=ltI_true lt0;have nt0:=(rng_nth (enc:=encU) hx0.1 hr0).trans (congrArg some (encU_eq w0));have hj0:u.kids.all wordsB=(w0::r0).all wordsB:=rng_j1 (J:=fun r x=>u.kids.all wordsB=r.all wordsB) (a:=x0.2.2) hr0 hx0.2;(et6 (Le.len (f:=encU) (l:=u.kids)) lt0 nt0 (ih w0 (by exact rng_mem hx0.1 hr0) (by exact f4 _ (rng_mem hx0.1 hr0))) (fun (z:(bnot (wordsB w0))=true)=>have h3:(wordsB w0)=false:=(of_bnotT z);((Le.bool (by rw [wordsB_eq];simp only [aS,bnot,bS, *]:(wordsB u)=(false))):Le _ (AV.bool false))) (fun (z:(bnot (wordsB w0))=false)=>have h3:(wordsB w0)=true:=(of_bnotF z);(et (Le.wr (x:=Int.ofNat x0.1+1) (by (simp only [oN,lM,lS] at *;omega))) (Nx.mk (I:=(wordsI0 u)) (m:=fun x=>x.2.1.length) (S:=(wordsS0 u)) (x:=x0) (x0.1+1,r0,()) (et (rng_succ hx0.1 hr0) (by simp only [aS,bnot,bS, *] at * : (u.kids.all wordsB=r0.all wordsB))) (rng_m hr0))))))))))))))) (by kernel_rfl)

mutual
noncomputable def sizeU:TUnit→Int→Int→Int
  | ⟨_,_,_,_,_,_,_,kids⟩,deep,most=>match ltI 20 deep with | true=>most+1 | false=>sizeK kids deep most 1
noncomputable def sizeK:List TUnit→Int→Int→Int→Int
  | [],_,_,n=>n
  | k::r,deep,most,n=>match ltI most n with | true=>n | false=>sizeK r deep most (n+sizeU k (deep+1) (most - n))
end
theorem sizeU_eq (u:TUnit) (deep most:Int):sizeU u deep most=match ltI 20 deep with | true=>most+1 | false=>sizeK u.kids deep most 1:=by
  obtain ⟨a,b,c,d,e,f,g,h⟩:=u;rw [sizeU];rfl
mutual
theorem sizeU_le : ∀ (u:TUnit) (deep most:Int),0≤most→1≤sizeU u deep most∧sizeU u deep most≤most+1
  | ⟨_,_,_,_,_,_,_,kids⟩,deep,most,h=>by
    rw [sizeU]
    split
    · omega
    · exact sizeK_le kids deep most 1 (by omega) (by omega)
theorem sizeK_le : ∀ (l:List TUnit) (deep most n:Int),1≤n→n≤most+1→1≤sizeK l deep most n∧sizeK l deep most n≤most+1
  | [],_,_,n,h1,h2=>by rw [sizeK];omega
  | k::r,deep,most,n,h1,h2=>by
    rw [sizeK]
    split
    · omega
    · rename_i h
      have:=ltI_false h
      have:=sizeU_le k (deep+1) (most - n) (by omega)
      exact sizeK_le r deep most _ (by omega) (by omega)
end
def sizeI0 (u:TUnit) (deep:Int) (most:Int) (x0:Nat × List TUnit × Int):Prop:=(u.kids).drop x0.1=x0.2.1∧(1:Int)≤x0.2.2∧x0.2.2≤most+(1:Int)∧sizeK u.kids deep most (1:Int)=sizeK x0.2.1 deep most x0.2.2
noncomputable def sizeS0 (u:TUnit) (deep:Int) (most:Int) (x0:Nat × List TUnit × Int):List AV × List AObj:=([iA deep,iA most,AV.pptr [AV.agg [iA u.act,iA u.item,iA u.n,iA u.kind,AV.str u.label,AV.ls (List.map encWord u.head),AV.ls (List.map encWord u.words),AV.ls (List.map encU u.kids)]] 0 0,iA x0.2.2,nA (x0.1)], [])
theorem size_ok : ∀ (u:TUnit),fitU u→∀ (deep most:Int),0≤deep→deep≤21→0≤most→most≤2 ^ 20→HPure Tryz.prog G 88 [eU u, .int .i64 deep, .int .i64 most] (.int .i64 (sizeU u deep most)):=by
  refine TUnit.ind fun u ih hf deep most d1 d2 m1 m2=>?_
  obtain ⟨f1,f2,f3,f4⟩:=fitU_iff.1 hf
  exact HPure.walk mixed gtop (ev 40) (by kernel_rfl) (by kernel_rfl) (fn:=Tryz.f88) Tryz.func88 (by kernel_rfl) rfl ⟨by kernel_rfl,by kernel_rfl⟩ (.go 3 (.br (.go 1 (.le 12 (iA (most+1)) (.go 0 .fin))) (.go 1 (.frz 0 [1,2,3,7,8] (.loop (Nat × List TUnit × Int) [1,2,3,7,8] (sizeS0 u deep most) (sizeI0 u deep most) (fun x=>x.2.1.length) (0,u.kids,1) (fun x0=> .cs (TUnit) x0.2.1 (.go 3 (.le 16 (nA (u.kids.length)) (.go 1 (.ff (.ff (.ff (.pk false (.go 2 .fin)))))))) (fun w0 r0=>(.go 3 (.le 16 (nA (u.kids.length)) (.go 1 (.tt (.go 0 (.tt (.go 0 (.tt (.go 0 (.pk true (.br (.go 3 (.elem (eU w0) (.go 2 (.le 32 (iA (deep+1)) (.go 2 (.le 35 (iA (most - x0.2.2)) (.pure (iA (sizeU w0 (deep+1) (most - x0.2.2))) (.go 0 (.le 37 (iA (x0.2.2+sizeU w0 (deep+1) (most - x0.2.2))) (.go 2 (.le 24 (nA (x0.1+1)) (.go 0 .fin)))))))))))) (.go 1 .fin))))))))))))))))))) (et (fun (h0:(ltI 20 deep)=true)=>(have gh0:=ltI_true h0;(et (Le.wr (x:=most+1) (by omega)) ((Le.int (by rw [sizeU_eq];simp only [sizeK,aS,bnot,bS, *]:(sizeU u deep most)=(most+1))):Le _ (iA (most+1)))))) (fun (h0:(ltI 20 deep)=false)=>(have gh0:=ltI_false h0;(et4 True.intro (Eq.refl ((sizeS0 u deep most) (0,u.kids,1))) (et (rfl:List.drop 0 (u.kids)=u.kids) (by (omega):((1:Int)≤(1:Int)∧(1:Int)≤most+(1:Int)∧sizeK u.kids deep most (1:Int)=sizeK u.kids deep most (1:Int)))) (fun (x0:Nat × List TUnit × Int) (hx0:(sizeI0 u deep most) x0)=>et (fun (hr0:x0.2.1 = [])=>have lt0:=rng_nil hx0.1 hr0;have hj0:(1:Int)≤x0.2.2∧x0.2.2≤most+(1:Int)∧sizeK u.kids deep most (1:Int)=sizeK [] deep most x0.2.2:=rng_j0 (J:=fun r a=>(1:Int)≤a∧a≤most+(1:Int)∧sizeK u.kids deep most (1:Int)=sizeK r deep most a) (a:=x0.2.2) hr0 hx0.2;(et6 (Le.len (f:=encU) (l:=u.kids)) lt0 lt0 lt0 lt0 ((Le.int (by rw [sizeU_eq];simp only [sizeK,aS,bnot,bS, *]:(sizeU u deep most)=(x0.2.2))):Le _ (iA x0.2.2)))) (fun (w0:TUnit) (r0:List TUnit) (hr0:x0.2.1=w0::r0)=>have lt0:=rng_lt hx0.1 hr0;have glt0:=ltI_true lt0;have nt0:=(rng_nth (enc:=encU) hx0.1 hr0).trans (congrArg some (encU_eq w0));have hj0:(1:Int)≤x0.2.2∧x0.2.2≤most+(1:Int)∧sizeK u.kids deep most (1:Int)=sizeK (w0::r0) deep most x0.2.2:=rng_j1 (J:=fun r a=>(1:Int)≤a∧a≤most+(1:Int)∧sizeK u.kids deep most (1:Int)=sizeK r deep most a) (a:=x0.2.2) hr0 hx0.2;(et7 (Le.len (f:=encU) (l:=u.kids)) lt0 lt0 lt0 lt0 (fun (z:(bnot (ltI most x0.2.2))=true)=>have h1:(ltI most x0.2.2)=false:=(of_bnotT z);(have gh1:=ltI_false h1;(et5 nt0 (Le.wr (x:=deep+1) (by omega)) (Le.wr (x:=most - x0.2.2) (by omega)) (ih w0 (by exact rng_mem hx0.1 hr0) (by exact f4 _ (rng_mem hx0.1 hr0)) (deep+1) (most - x0.2.2) (by omega) (by omega) (by omega) (by omega)) (have b2:=sizeU_le (w0) (deep+1) (most - x0.2.2) (by omega);(et3 (Le.wr (x:=x0.2.2+sizeU w0 (deep+1) (most - x0.2.2)) (by omega)) (Le.wr (x:=Int.ofNat x0.1+1) (by (simp only [oN,lM,lS] at *;omega))) (Nx.mk (I:=(sizeI0 u deep most)) (m:=fun x=>x.2.1.length) (S:=(sizeS0 u deep most)) (x:=x0) (x0.1+1,r0,x0.2.2+sizeU w0 (deep+1) (most - x0.2.2)) (et (rng_succ hx0.1 hr0) (by (refine ⟨by omega,by omega,?_⟩;first | rfl | rw [hj0.2.2,sizeK,h1]):((1:Int)≤x0.2.2+sizeU w0 (deep+(1:Int)) (most - x0.2.2)∧x0.2.2+sizeU w0 (deep+(1:Int)) (most - x0.2.2)≤most+(1:Int)∧sizeK u.kids deep most (1:Int)=sizeK r0 deep most (x0.2.2+sizeU w0 (deep+(1:Int)) (most - x0.2.2))))) (rng_m hr0))))))) (fun (z:(bnot (ltI most x0.2.2))=false)=>have h1:(ltI most x0.2.2)=true:=(of_bnotF z);(have gh1:=ltI_true h1;((Le.int (by rw [sizeU_eq];simp only [sizeK,aS,bnot,bS, *]:(sizeU u deep most)=(x0.2.2))):Le _ (iA x0.2.2))))))))))) (by kernel_rfl)
end Go.Proofs.YtbkijjplgkojcaaGreatDoor
