/- A law's arguments: a path, a reference: Lean data, texts shorter than memory. -/
import Derived.Test.YtdhkhecalpkngaaGreatDoorRdec
namespace Go.Proofs.YtdhkhecalpkngaaGreatDoor
open Go Go.Ev
section
variable{H:Type}{enc:TypeId×Value->H}{w:World}{base:Nat}{spare:Nat->Bool}{held:Bool}{cs:List Value}{d:DataW H}{p:List MemPlace}
theorem O5{t:TypeId}{fuel:Nat}(hu:Tryz.prog.underlying t=some .string)(h:DataW.trod enc Tryz.prog w base spare held fuel t cs=some (d,p))(hw:Wt Tryz.prog t d):∃s:bZ,s.length<2^47/\VL (b0 w) [.str s] cs:=by
  obtain⟨⟨⟨s⟩⟩,rfl,e,_⟩:=DataW.trod_string hu h
  obtain⟨rfl,_⟩:=Prod.mk.inj e
  have:=hw s.length (by simp[DataW.weights])
  exact⟨s,nl this (by decide),.cons (.str _) .nil⟩
theorem MB{fuel:Nat}(h:DataW.trod enc Tryz.prog w base spare held fuel 68 cs=some (d,p))(hw:Wt Tryz.prog 68 d):∃x:PStep,x.label.length<2^47/\VL (b0 w) (aY x).cells cs:=by
  obtain⟨n,rfl,⟨⟨d0,p0,t0,w0⟩,⟨d1,p1,t1,w1⟩,_⟩,hx⟩:=gu Tryz.underlying68 (by kernel_rfl) h hw
  obtain⟨a,ha⟩:=fH Tryz.underlying3 t0
  obtain⟨s,hl,hs⟩:=O5 Tryz.underlying9 t1 w1
  exact⟨⟨a,s⟩,hl,hx [[_],[_]] ⟨ha,hs,trivial⟩⟩
theorem Ih{fuel:Nat}(h:DataW.trod enc Tryz.prog w base spare held fuel 34 cs=some (d,p))(hw:Wt Tryz.prog 34 d):∃l:List PStep,l.length<2^60/\(∀x,x∈l->x.label.length<2^47)/\VL (b0 w) [.ls (l.map aY)] cs:=
  kK aY (fun x=>x.label.length<2^47) Tryz.underlying34 (by kernel_rfl) (by kernel_rfl) (fun x=>(show(aY x).cells.length=2 from rfl).trans SZ.symm) (fun _=>rfl) xf (fun _ _ _ _ _ h hw=>MB h hw) h hw
theorem Ww{fuel:Nat}(h:DataW.trod enc Tryz.prog w base spare held fuel 43 cs=some (d,p))(hw:Wt Tryz.prog 43 d):∃a b,VL (b0 w) [.int .i64 a,.int .i64 b] cs:=by
  obtain⟨n,rfl,⟨⟨d0,p0,t0,w0⟩,⟨d1,p1,t1,w1⟩,_⟩,hx⟩:=gu Tryz.underlying43 (by kernel_rfl) h hw
  obtain⟨a,ha⟩:=fH Tryz.underlying3 t0
  obtain⟨b,hb⟩:=fH Tryz.underlying3 t1
  exact⟨a,b,hx [[_],[_]] ⟨ha,hb,trivial⟩⟩
end
end Go.Proofs.YtdhkhecalpkngaaGreatDoor
