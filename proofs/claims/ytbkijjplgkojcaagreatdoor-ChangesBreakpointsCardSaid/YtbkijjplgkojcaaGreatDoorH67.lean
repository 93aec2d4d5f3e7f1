/- Functions walked: what each of them answers, for the law of the breakpoints. Conditions: those that each theorem names. -/
import Derived.Test.YtbkijjplgkojcaaGreatDoorH66
import Derived.Test.YtbkijjplgkojcaaGreatDoorMach6
namespace Go.Proofs.YtbkijjplgkojcaaGreatDoor
open Go Go.Ev
def effS (a b:PStart):PStart:=match eqI b.kind 0 with | true=>a | false=>b
theorem effStart_ok (a b:PStart):HPure Tryz.prog G 63 [encStart a,encStart b] (encStart (effS a b)):=by
  exact HPure.walk mixed gtop (ev 40) (by kernel_rfl) (by kernel_rfl) (fn:=Tryz.f63) Tryz.func63 (by kernel_rfl) rfl ⟨by kernel_rfl,by kernel_rfl⟩ (.go 5 (.br (.go 1 .fin) (.go 1 .fin))) (et (fun (z:(bnot (eqI b.kind 0))=true)=>have h0:(eqI b.kind 0)=false:=(of_bnotT z);(have gh0:=eqI_f h0;((Le.aggB (.cons (Le.int (by (simp only [effS,h0];done):((effS a b).kind)=(b.kind))) (.cons (Le.int (by (simp only [effS,h0];done):((effS a b).day)=(b.day))) (.cons (Le.str (by (simp only [effS,h0];done):((effS a b).event)=(b.event))) .nil))) (by kernel_rfl)):Le _ (AV.agg [iA b.kind,iA b.day,AV.str b.event])))) (fun (z:(bnot (eqI b.kind 0))=false)=>have h0:(eqI b.kind 0)=true:=(of_bnotF z);(have gh0:=eqI_t h0;((Le.aggB (.cons (Le.int (by (simp only [effS,h0];done):((effS a b).kind)=(a.kind))) (.cons (Le.int (by (simp only [effS,h0];done):((effS a b).day)=(a.day))) (.cons (Le.str (by (simp only [effS,h0];done):((effS a b).event)=(a.event))) .nil))) (by kernel_rfl)):Le _ (AV.agg [iA a.kind,iA a.day,AV.str a.event]))))) (by kernel_rfl)
end Go.Proofs.YtbkijjplgkojcaaGreatDoor
