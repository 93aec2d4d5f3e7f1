/- Functions walked: what each of them answers, for the law of the breakpoints. Conditions: those that each theorem names. -/
import Derived.Test.YtbkijjplgkojcaaGreatDoorH80
import Derived.Test.YtbkijjplgkojcaaGreatDoorMach6
namespace Go.Proofs.YtbkijjplgkojcaaGreatDoor
open Go Go.Ev
theorem intSort1_ok (zs:List Int) (ep n:Nat) (hn:n=zs.length) (hz:0<zs.length) (hb:zs.length<2 ^ 40) :
    HCall Tryz.prog G 23 [.slice 1 ep 0 n none] (mkH [outIC 1 ep n,intR ep zs]) (fun v h=>v = .tuple []∧h=mkH [outIC 1 ep n,intR ep (sortZ zs)]):=by
  subst hn
  exact (sortInts_call (Go.Proofs.Tryz.lsort.f5.enters rfl) (fun blk off cap zs w hH hb hs=>Go.Proofs.AnyM.slices_Sort_int Go.Proofs.Tryz.lsort blk off cap zs w hH hb hs) zs (h:=mkH [outIC 1 ep zs.length,intR ep zs]) (id:=1) (op:=true) rfl hz (by omega)).mono fun v h ⟨h3,h4⟩=>⟨h3,h4.trans rfl⟩
theorem intCompact1_ok (zs:List Int) (ep n:Nat) (hn:n=zs.length) (hz:0<zs.length) (hb:zs.length<2 ^ 40) :
    HCall Tryz.prog G 24 [.slice 1 ep 0 n none] (mkH [outIC 1 ep n,intR ep zs]) (fun v h=>v = .slice 1 ep 0 (compactZ zs).length none∧h=mkH [outIC 1 ep n,intR ep (compactZ zs++List.replicate (zs.length - (compactZ zs).length) 0)]):=by
  subst hn
  exact (compactInts_call (Go.Proofs.Tryz.lcompact.f43.enters rfl) (fun blk off cap zs w hH hb hs=>Go.Proofs.AnyG.slices_Compact_int Go.Proofs.Tryz.lcompact blk off cap zs w hH hb hs) zs (h:=mkH [outIC 1 ep zs.length,intR ep zs]) (id:=1) (op:=true) rfl hz (by omega)).mono fun v h ⟨h3,h4⟩=>⟨h3,h4.trans rfl⟩
noncomputable def says0:Option (AV × AHeap)→Bool
  | some (.tuple [],_)=>true
  | _=>false
noncomputable def saysC:Option (AV × AHeap)→Bool
  | some (.ps [.int .i64 n] true,_)=>eqI n 0
  | _=>false
theorem closed0 {f:FuncId} {a:List AV} (k:Nat) (ht:AV.tops a=0) (h:says0 (evFunc C k f a AHeap.none)=true):HPure Tryz.prog G f a (.tuple []):=by
  cases hx:evFunc C k f a AHeap.none with
  | none=>rw [hx] at h;cases h
  | some r=>
    obtain ⟨v,h1⟩:=r
    rw [hx] at h
    have e:v = .tuple []:=by
      unfold says0 at h
      split at h
      · rename_i q;cases q;rfl
      · cases h
    subst e
    exact HPure.of0 gtop ht rfl ((HCall.of (ev k) hx).mono fun v1 _ e=>e.1)
theorem closedC {f:FuncId} {a:List AV} (k:Nat) (ht:AV.tops a=0) (h:saysC (evFunc C k f a AHeap.none)=true):HPure Tryz.prog G f a (.ps [.int .i64 0] true):=by
  cases hx:evFunc C k f a AHeap.none with
  | none=>rw [hx] at h;cases h
  | some r=>
    obtain ⟨v,h1⟩:=r
    rw [hx] at h
    have e:v = .ps [.int .i64 0] true:=by
      unfold saysC at h
      split at h
      · rename_i q;cases q;rw [eqI_t h]
      · cases h
    subst e
    exact HPure.of0 gtop ht rfl ((HCall.of (ev k) hx).mono fun v1 _ e=>e.1)
theorem sort0_ok:HPure Tryz.prog G 23 [.ps [.int .i64 0] true] (.tuple []):=closed0 60 rfl (by kernel_rfl)
theorem compact0_ok:HPure Tryz.prog G 24 [.ps [.int .i64 0] true] (.ps [.int .i64 0] true):=closedC 60 rfl (by kernel_rfl)
theorem bp_e (gs:List PGaz) (hc:HCall Tryz.prog G 20 [.ls (gs.map encGaz), .func (.func 21) [] [.ptr 0 0 0 0]] (mkH [outI0]) (fun v h=>v = .tuple []∧h=mkH [outI0])):HPure Tryz.prog G 12 [.ls (gs.map encGaz)] (.ls (([0]:List Int).map encInt)):=by
  exact HPure.walk mixed gtop (ev 40) (by kernel_rfl) (by kernel_rfl) (fn:=Tryz.f12) Tryz.func12 (by kernel_rfl) rfl ⟨by kernel_rfl,by kernel_rfl⟩ (.go 5 (.efd (AV.tuple []) (mkH [outI0]) (.go 0 (.pure (AV.tuple []) (.go 0 (.pure (AV.ps [iA 0] true) (.go 0 .fin))))))) (et4 (hc) (sort0_ok) (compact0_ok) ((Le.ps ([iA 0]) _ (by rfl)):Le _ (AV.ps [iA 0] true))) (by kernel_rfl)
theorem sortZ_len (X:List Int):(sortZ X).length=X.length:=(List.mergeSort_perm X _).length_eq
theorem bp_n (gs:List PGaz) (X:List Int) (k:Nat) (hz:0<X.length) (hb:X.length<2 ^ 40) (hc:HCall Tryz.prog G 20 [.ls (gs.map encGaz), .func (.func 21) [] [.ptr 0 0 0 0]] (mkH [outI0]) (fun v h=>v = .tuple []∧h=mkH [outIC 1 k X.length,intR k X])):HPure Tryz.prog G 12 [.ls (gs.map encGaz)] (.ls ((compactZ (sortZ X)).map encInt)):=by
  have hs:=sortZ_len X
  exact HPure.walk mixed gtop (ev 40) (by kernel_rfl) (by kernel_rfl) (fn:=Tryz.f12) Tryz.func12 (by kernel_rfl) rfl ⟨by kernel_rfl,by kernel_rfl⟩ (.go 5 (.efd (AV.tuple []) (mkH [outIC 1 k X.length,intR k X]) (.go 0 (.efd (AV.tuple []) (mkH [outIC 1 k X.length,intR k (sortZ X)]) (.go 0 (.efd (AV.slice 1 k 0 (compactZ (sortZ X)).length none) (mkH [outIC 1 k X.length,intR k (compactZ (sortZ X)++List.replicate ((sortZ X).length - (compactZ (sortZ X)).length) 0)]) (.go 0 (.fsl 0 [] 2 (List.map encInt (List.take (compactZ (sortZ X)).length (compactZ (sortZ X)++List.replicate ((sortZ X).length - (compactZ (sortZ X)).length) 0))) (.le 2 (AV.ls (List.map encInt (List.take (compactZ (sortZ X)).length (compactZ (sortZ X)++List.replicate ((sortZ X).length - (compactZ (sortZ X)).length) 0)))) .fin))))))))) (et7 (hc) (intSort1_ok X k (X.length) (by (omega)) hz hb) (intCompact1_ok (sortZ X) k (X.length) (by (omega)) (by (omega)) (by (omega))) True.intro (et3 (Eq.refl (k)) (takeN (f:=encInt) (l:=compactZ (sortZ X)++List.replicate ((sortZ X).length - (compactZ (sortZ X)).length) 0) (n:=(compactZ (sortZ X)).length)) (tops_map Go.Ev.encInt_top (List.take (compactZ (sortZ X)).length (compactZ (sortZ X)++List.replicate ((sortZ X).length - (compactZ (sortZ X)).length) 0)))) (Le.ps (List.map encInt (List.take (compactZ (sortZ X)).length (compactZ (sortZ X)++List.replicate ((sortZ X).length - (compactZ (sortZ X)).length) 0))) false (tops_map Go.Ev.encInt_top (List.take (compactZ (sortZ X)).length (compactZ (sortZ X)++List.replicate ((sortZ X).length - (compactZ (sortZ X)).length) 0)))) ((Le.lsl (by (rw [List.take_left'];rfl):(List.map encInt (compactZ (sortZ X)))=(List.map encInt (List.take (compactZ (sortZ X)).length (compactZ (sortZ X)++List.replicate ((sortZ X).length - (compactZ (sortZ X)).length) 0))))):Le _ (AV.ls (List.map encInt (List.take (compactZ (sortZ X)).length (compactZ (sortZ X)++List.replicate ((sortZ X).length - (compactZ (sortZ X)).length) 0)))))) (by kernel_rfl)
theorem compact_one:compactZ (sortZ [0]) = [0]:=by
  have e:sortZ [0] = [0]:=List.mergeSort_singleton 0
  rw [e];rfl
/-- The program's days: in order, each once. -/
theorem bp_ok (gs:List PGaz) (L:List PAct) (ds:List PDeed) (hL:L.length<10000) (hd:ds.length<1000) (ha:HPure Tryz.prog G 36 [.ls (gs.map encGaz)] (.ls (L.map encAct))) (hi:HPure Tryz.prog G 37 [.ls (gs.map encGaz)] (.ls (ds.map encDeed))) :
    HPure Tryz.prog G 12 [.ls (gs.map encGaz)] (.ls ((compactZ (sortZ ([0]++brkF (stF L []) ds ds))).map encInt)):=by
  by_cases hE:brkF (stF L []) ds ds = []
  · have h:=bp_e gs (changes_e gs L ds hL hd ha hi hE)
    rw [hE]
    have e:compactZ (sortZ ([0]++ [])) = [0]:=compact_one
    rw [e];exact h
  · have hl : ∀ (r:List PDeed),(brkF (stF L []) ds r).length≤2 ^ 22 * r.length:=by
      intro r
      induction r with
      | nil=>exact Nat.le_refl _
      | cons d r ih=>
        have h1:(brkD (stF L []) ds d).length≤2 ^ 22:=by
          unfold brkD
          cases amendB d.it.kind
          · exact Nat.zero_le _
          · exact bnds_len _ _ _
        simp only [brkF,lA,lC];omega
    have:=hl ds
    exact bp_n gs ([0]++brkF (stF L []) ds ds) (brkE (stF L []) ds ds - 1) (by simp) (by rw [lA];simp only [lC,lN];omega) (changes_n gs L ds hL hd ha hi hE)
end Go.Proofs.YtbkijjplgkojcaaGreatDoor
