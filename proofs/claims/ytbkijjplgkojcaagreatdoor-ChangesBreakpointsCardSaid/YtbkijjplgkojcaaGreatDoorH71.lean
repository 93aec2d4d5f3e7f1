/- Functions walked: what each of them answers, for the law of the breakpoints. Conditions: those that each theorem names. -/
import Derived.Test.YtbkijjplgkojcaaGreatDoorH70
import Derived.Test.YtbkijjplgkojcaaGreatDoorMach6
namespace Go.Proofs.YtbkijjplgkojcaaGreatDoor
open Go Go.Ev
theorem contains_ok (l:List PSpan) (d:Int) (hl:l.length<2 ^ 30):HPure Tryz.prog G 86 [.ls (l.map encSpan), .int .i64 d] (.bool (memS (normL l) d)):=by
  have hb:=has_ok (normL l) d (normL_nrm l).sort (Nat.lt_of_le_of_lt (normL_nrm l).len (by omega))
  exact HPure.walk mixed gtop (ev 40) (by kernel_rfl) (by kernel_rfl) (fn:=Tryz.f86) Tryz.func86 (by kernel_rfl) rfl ⟨by kernel_rfl,by kernel_rfl⟩ (.go 1 (.pure (AV.ls (List.map encSpan (normL l))) (.go 0 (.pure (AV.bool (memS (normL l) d)) (.go 0 .fin))))) (et3 (normalize_ok l hl) (hb) ((Le.refl _):Le _ (AV.bool (memS (normL l) d)))) (by kernel_rfl)
theorem clone_ok (w:PSpan) (r:List PSpan) (hl:r.length<2 ^ 30):HCall Tryz.prog G 206 [.ls ((w::r).map encSpan)] (mkH []) (fun v h=>v = .slice 0 0 0 (r.length+1) none∧h=mkH [.row 2 true 0 ((w::r).map encSpan)]):=by
  exact HCall.walk 2 mixed gtop (ev 40) (fn:=Tryz.f206) Tryz.func206 (by kernel_rfl) rfl ⟨by kernel_rfl,by kernel_rfl⟩ (.go 1 (.nz 3 .abs (.go 3 (.apl (.go 0 .fin))))) (et5 (fun (nz0:(List.map encSpan (w::r):List AV) = [])=>(List.cons_ne_nil _ _ nz0)) (et (by exact List.cons_ne_nil _ _:List.map encSpan (w::r)≠ []) (fits_map (sz:=2) (f:=encSpan) (fun _=>by rfl) (w::r))) (by (refine small_of (m:=2 ^ 31) ?_ ?_ ?_ <;> first | omega | (simp only [lM,lC];omega)):small (List.map encSpan (w::r)).length 16=true) (by simp:(AV.slice 0 0 0 (List.map encSpan (w::r)).length none)=(AV.slice 0 0 0 (r.length+1) none)) (Eq.refl (mkH [AObj.row 2 true 0 (List.map encSpan (w::r))]))) (by kernel_rfl)
end Go.Proofs.YtbkijjplgkojcaaGreatDoor
