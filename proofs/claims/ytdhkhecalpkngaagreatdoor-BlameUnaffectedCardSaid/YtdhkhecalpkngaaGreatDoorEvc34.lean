/- A closed run: the examples that the laws of chapter 34 check; the words' counts by their contract. -/
import Derived.Test.YtdhkhecalpkngaaGreatDoorH8
import Derived.Test.YtdhkhecalpkngaaGreatDoorMach7
namespace Go.Proofs.YtdhkhecalpkngaaGreatDoor
open Go Go.Ev
theorem Pm:[(⟨1,1⟩:PPair),⟨2,1⟩]=lV Vt:=
  wg (List.Perm.refl _) (by rw[show(tally Vt []).map pQ=[(⟨1,1⟩:PPair),⟨2,1⟩] by kernel_rfl]) (by decide)
noncomputable abbrev v34:AV:=.ps [.agg [.int .i64 1,.int .i64 1],.agg [.int .i64 2,.int .i64 1]] false
theorem ZM:aT Tryz.prog G 48 [ZH] v34:=by
  have h:=WK
  rw[<-Pm]at h
  exact h.lessB (by kernel_rfl)
noncomputable def C34:Cfg:={P:=Tryz.prog,G:=G,pol:=pol,rounds:=100000,hook:=wO [(48,[ZH],v34)]}
theorem aah(k:Nat):cw Tryz.prog G (io C34 k):=V1 (C:=C34) YS pG (Q3 rfl fun x hx=>by rw[ly.1 hx];exact ZM) k
theorem VY:aT Tryz.prog G 17 [] (.bool true):=aT.closed (C:=C34) (k:=60) jq (aah 60) rfl (by kernel_rfl)
end Go.Proofs.YtdhkhecalpkngaaGreatDoor
