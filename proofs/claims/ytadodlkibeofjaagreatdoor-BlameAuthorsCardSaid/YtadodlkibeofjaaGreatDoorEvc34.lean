/- A closed run: the examples that the laws of chapter 34 check; the words' counts by their contract. -/
import Derived.Test.YtadodlkibeofjaaGreatDoorH8
import Derived.Test.YtadodlkibeofjaaGreatDoorMach8
namespace Go.Proofs.YtadodlkibeofjaaGreatDoor
open Go Go.Ev
theorem Qw:[(⟨1,1⟩:PPair),⟨2,1⟩]=lk Wm:=
  wL (List.Perm.refl _) (by rw[show(tally Wm []).map pJ=[(⟨1,1⟩:PPair),⟨2,1⟩] by kernel_rfl]) (by decide)
noncomputable abbrev v34:AV:=.ps [.agg [.int .i64 1,.int .i64 1],.agg [.int .i64 2,.int .i64 1]] false
theorem aaW:aL Tryz.prog G 42 [a34] v34:=by
  have h:=Xq
  rw[<-Qw]at h
  exact h.lessB (by kernel_rfl)
noncomputable def C34:Cfg:={P:=Tryz.prog,G:=G,pol:=pol,rounds:=100000,hook:=xz [(42,[a34],v34)]}
theorem abm(k:Nat):co Tryz.prog G (iF C34 k):=WS (C:=C34) ZC pL (RI rfl fun x hx=>by rw[ig.1 hx];exact aaW) k
theorem WZ:aL Tryz.prog G 18 [] (.bool true):=aL.closed (C:=C34) (k:=60) jk (abm 60) rfl (by kernel_rfl)
end Go.Proofs.YtadodlkibeofjaaGreatDoor
