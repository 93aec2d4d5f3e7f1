/- Functions walked: what each of them answers, for the law of the breakpoints. Conditions: those that each theorem names. -/
import Derived.Test.YtbkijjplgkojcaaGreatDoorH68
import Derived.Test.YtbkijjplgkojcaaGreatDoorLay
import Derived.Test.YtbkijjplgkojcaaGreatDoorMach6
namespace Go.Proofs.YtbkijjplgkojcaaGreatDoor
open Go Go.Ev
theorem spanSwo:Go.Sort.SWO (ltBy fun (a b:PSpan)=>cmpI a.from_ b.from_):=by
  have key : ∀ a b:PSpan,ltBy (fun (a b:PSpan)=>cmpI a.from_ b.from_) a b=ltI a.from_ b.from_:=fun a b=>by
    rw [← cmpI_lt];unfold ltBy
    rw [ltI_lt]
  refine ⟨fun x=>?_,fun x y z h1 h2=>?_,fun x y z h1 h2=>?_⟩
  · rw [key];exact ltI_f (Int.le_refl _)
  · rw [key] at *;have:=ltI_true h1;have:=ltI_true h2;exact ltI_t (by omega)
  · rw [key] at *;have:=ltI_false h1;have:=ltI_false h2;exact ltI_f (by omega)
theorem spanLt (a b:PSpan):ltBy (fun (a b:PSpan)=>cmpI a.from_ b.from_) b a=false↔a.from_≤b.from_:=by
  have:ltBy (fun (a b:PSpan)=>cmpI a.from_ b.from_) b a=ltI b.from_ a.from_:=by rw [← cmpI_lt];unfold ltBy;rw [ltI_lt]
  rw [this]
  exact ⟨ltI_false,ltI_f⟩
theorem spanSort_ok (l:List PSpan) (ep n:Nat) (hn:n=l.length) (hz:0<l.length) (hb:l.length<2 ^ 40) :
    HCall Tryz.prog G 66 [.slice 0 ep 0 n none, .func (.func 67) [] []] (mkH [.row 2 true ep (l.map encSpan)])
      (fun v h=>∃ l':List PSpan,(l'.Perm l∧SortS l')∧v = .tuple []∧h=mkH [.row 2 true ep (l'.map encSpan)]):=by
  subst hn
  refine (sortFunc_call (f:=66) (g:=67) (sz:=2) gtop (Go.Proofs.Tryz.lspan.f6.enters rfl) (Go.Proofs.enters_of Tryz.func67 (by kernel_rfl) rfl)
    (fun m enc cf blk off cap d w hk h1 hO hc hH hblk hsz=>Go.Proofs.AnyQ.slices_SortFunc Go.Proofs.Tryz.lspan 2 Tryz.isAgg53 Tryz.sizeOf53 enc hk h1 cf hO 67 #[] blk off cap d w (Go.Proofs.enters_of Tryz.func67 (by kernel_rfl) rfl) hc hH hblk hsz)
    encSpan (fun a b=>cmpI a.from_ b.from_) spanSwo (fun a=>⟨_,rfl⟩) (fun a=>rfl) l (fun a _ b _=>spanCmp_ok a b) (h:=mkH [.row 2 true ep (l.map encSpan)]) (op:=true) rfl hz (by omega)).mono fun v h ⟨l',⟨h1,h2⟩,h3,h4⟩=>
      ⟨l',⟨h1,h2.imp fun {a b} h=>(spanLt a b).1 h⟩,h3,h4.trans rfl⟩
theorem spanSort_nil:HPure Tryz.prog G 66 [.nils, .func (.func 67) [] []] (.tuple []):=
  sortFuncNil_call (Go.Proofs.Tryz.lspan.f6.enters rfl) fun p cap fv w=>Go.Proofs.AnyF.slices_SortFunc_none { Go.Proofs.Tryz.lspan with } p cap fv w
theorem intSort_ok (zs:List Int) (ep n:Nat) (hn:n=zs.length) (hz:0<zs.length) (hb:zs.length<2 ^ 40) :
    HCall Tryz.prog G 23 [.slice 0 ep 0 n none] (mkH [.row 1 true ep (zs.map encInt)]) (fun v h=>v = .tuple []∧h=mkH [.row 1 true ep ((sortZ zs).map encInt)]):=by
  subst hn
  exact (sortInts_call (Go.Proofs.Tryz.lsort.f5.enters rfl) (fun blk off cap zs w hH hb hs=>Go.Proofs.AnyM.slices_Sort_int Go.Proofs.Tryz.lsort blk off cap zs w hH hb hs) zs (h:=mkH [.row 1 true ep (zs.map encInt)]) (id:=0) (op:=true) rfl hz (by omega)).mono fun v h ⟨h3,h4⟩=>⟨h3,h4.trans rfl⟩
theorem intSort_nil:HPure Tryz.prog G 23 [.nils] (.tuple []):=
  sortNil_call (Go.Proofs.Tryz.lsort.f5.enters rfl) fun p cap w=>Go.Proofs.AnyM.slices_Sort_int_none Go.Proofs.Tryz.lsort p cap w
theorem intCompact_ok (zs:List Int) (ep n:Nat) (hn:n=zs.length) (hz:0<zs.length) (hb:zs.length<2 ^ 40) :
    HCall Tryz.prog G 24 [.slice 0 ep 0 n none] (mkH [.row 1 true ep (zs.map encInt)]) (fun v h=>v = .slice 0 ep 0 (compactZ zs).length none∧h=mkH [.row 1 true ep ((compactZ zs++List.replicate (zs.length - (compactZ zs).length) 0).map encInt)]):=by
  subst hn
  exact (compactInts_call (Go.Proofs.Tryz.lcompact.f43.enters rfl) (fun blk off cap zs w hH hb hs=>Go.Proofs.AnyG.slices_Compact_int Go.Proofs.Tryz.lcompact blk off cap zs w hH hb hs) zs (h:=mkH [.row 1 true ep (zs.map encInt)]) (id:=0) (op:=true) rfl hz (by omega)).mono fun v h ⟨h3,h4⟩=>⟨h3,h4.trans rfl⟩
end Go.Proofs.YtbkijjplgkojcaaGreatDoor
