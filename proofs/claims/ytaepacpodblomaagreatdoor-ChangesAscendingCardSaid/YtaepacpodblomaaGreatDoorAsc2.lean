/- A law of chapter 31, lifted: for every input the law returns true. Conditions: the row's own. -/
import Derived.Test.YtaepacpodblomaaGreatDoorH8
import Derived.Test.YtaepacpodblomaaGreatDoorEvc31
import Derived.Test.YtaepacpodblomaaGreatDoorRdec
import Derived.Test.YtaepacpodblomaaGreatDoorElaid
import Derived.SevenTiedAt
import Derived.Stop.Joined
namespace Go.Proofs.YtaepacpodblomaaGreatDoor
open Go Go.Ev Go.ChangeShapes Go.RowKit

theorem V6:ownKnob Tryz.prog.godebug=none:=by kernel_rfl

/-- What is laid, but for the functions. -/
noncomputable def mW:List (String×DataW Unit):=Rows.changesAscendingRow.laid.filter fun x=>x.2.handleName?.isNone
noncomputable def AE(os:Os):World:=(World.doorLaid Tryz.prog 40 os).layVars Tryz.prog mW

theorem Ei(os:Os)(args:Array Value):laidMet Tryz.prog mW ((AE os).forCall (fun _ _=>0) ⟨#[],args,[]⟩).memory:=by
  have e1:(mW.filter fun x=>(mW.map (·.1)).contains x.1)=mW:=List.filter_eq_self.2 fun x hx=>List.contains_iff_mem.2 (kw.2 ⟨x,hx,rfl⟩)
  have e2:(mW.filter fun x=>!(mW.map (·.1)).contains x.1)=[]:=List.filter_eq_nil_iff.2 fun x hx=>by rw[List.contains_iff_mem.2 (kw.2 ⟨x,hx,rfl⟩)];simp
  have h:laidMet Tryz.prog mW (AE os):=laidMet_layVars (w0:=World.doorLaid Tryz.prog 40 os) (mW.map (·.1)) [] (by rw[e1];rfl) (by rw[e1];kernel_rfl) (by rw[e1];kernel_rfl) (by rw[e2];exact LaidIn.none)
  exact h.of_heap (by simp[World.memory,World.forCall,Input.heap])

theorem Ju(os:Os)(args:Array Value):laidMetH Tryz.prog Rows.changesAscendingRow.laid ((AE os).forCall (fun _ _=>0) ⟨#[],args,[]⟩).memory:=
  laidMetH_of_parts3 (fuel:=8) (Ei os args) (by kernel_rfl) (by kernel_rfl)

set_option maxRecDepth 100000 in
theorem Jt(os:Os)(started:os.Started)(H:Type)(enc:TypeId×Value→H):
    ReturnsInHanded {} Tryz.checked os 3 .any (fun w args=>(Rows.changesAscendingSpec.pre enc Tryz.prog Tryz.f3 [] false w args∧laidMetH Tryz.prog Rows.changesAscendingRow.laid w)∧sizedMet enc Tryz.prog Tryz.f3 (OpenSpec.ofChange Rows.changesAscendingSpec) false w args)
      (Rows.changesAscendingSpec.post enc Tryz.prog Tryz.f3 false true false false):=by
  refine returnsInHanded_of_change_and (C:=Tryz.checked) (X:=fun w _=>laidMetH Tryz.prog Rows.changesAscendingRow.laid w) (fun _ _ _ hh h=>h.of_heap hh) V6 started (by kernel_rfl) Tryz.func3
    (ChangeSpec.witness_shaped (enc:=enc) (C:=Tryz.checked) (os:=os) (X:=fun w _=>laidMetH Tryz.prog Rows.changesAscendingRow.laid w) false (AE os) #[.string ⟨#[]⟩,.slice none 0 0] 8 (by unfold AE;rw[World.layVars_os];rfl)
      (World.shaped_of_ZipB (by kernel_rfl) (by kernel_rfl)) (by kernel_rfl) (by kernel_rfl) (by kernel_rfl) (Ju os _)) ?_
  intro W base args ds gs before hval0 hW _ hz hL _
  have hval:∀(j:Nat) t v,Tryz.f3.params[j]?=some t→args[j]?=some v→Value.okWide Tryz.prog W .any base t v:=hval0
  have hz:(DataW.weightsEach Tryz.prog (Tryz.f3.params.toList++Rows.changesAscendingSpec.plain.varTypes Tryz.prog) (ds++gs)).all (·≤reachBytes)=true:=hz
  have hW':=hW
  obtain⟨p,q,Z2,hV,rfl,_,_⟩:=hW
  have hA:DataW.TrodAll enc Tryz.prog W 0 (fun _=>true) true Tryz.f3.params.toList args.toList ds p:=Z2
  rw[Tryz.params3]at hA hval hz
  obtain⟨v0,v1,d0,d1,p0,p1,rfl,rfl,rfl,h0,h1⟩:=trodAll_two hA
  obtain⟨rfl,rfl⟩:=trodVars_none hV
  obtain⟨x0,rfl,rfl,rfl,_⟩:=Go.ChangeMaps.open_string Tryz.underlying9 (hval 0 9 v0 rfl rfl) h0
  have hs1:=Go.WideShapes.okWide_slice Tryz.underlying22 (hval 1 22 v1 rfl rfl)
  obtain⟨fu1,h1⟩:=h1
  have hw1:Wt Tryz.prog 22 d1:=fun m hm=>by
    have:=lL.1 hz m (ll hm 1 rfl rfl)
    simpa using this
  obtain⟨x1,hl471,hfit1,hl1⟩:=yH al WH Tryz.underlying22 (by kernel_rfl) (by kernel_rfl) (fun x=>(show(al x).cells.length=4 from rfl).trans Yp.symm) (fun _=>rfl) Jd (fun _ _ _ _ _ h hw=>WB h hw) h1 hw1
  have hf1:pc x1:=⟨Nat.lt_trans hl471 (by decide),hfit1⟩
  obtain⟨u1,ha1,hb1⟩:=hl1.one
  have hr1:VRel (fun _=>none) (cw W) (.ls (x1.map al)) v1:=by
    obtain⟨a,len,cap,rfl⟩:=hs1
    have:u1=.slice a len cap:=by simpa[Value.cells]using ha1.symm
    exact this▸hb1
  obtain⟨⟨x0⟩⟩:=x0
  have hv:VRels (fun _=>none) (cw W) [.str x0,.ls (x1.map al)] #[.string ⟨⟨x0⟩⟩,v1]:=⟨rfl,fun j y hj=>by
    match j,hj with
    |0,hj=>simp at hj;subst hj;exact .str _
    |1,hj=>simp at hj;subst hj;exact hr1
    |j+2,hj=>simp at hj⟩
  refine(TE Tryz.func3 (by kernel_rfl) rfl (gok hL (bg (i:=0) rfl) (bg (i:=1) rfl) (bg (i:=2) rfl) (bg (i:=3) rfl)) hv ((Bg x0 x1 hf1 hl471 UM AHeap.none).mono fun _ _ e=>e.1)).mono fun e W' ⟨he,hb⟩=>?_
  exact⟨_,he,QU (tb:=4) (by kernel_rfl) (by kernel_rfl) rfl rfl (by kernel_rfl) (by kernel_rfl) hW' hb⟩

end Go.Proofs.YtaepacpodblomaaGreatDoor
