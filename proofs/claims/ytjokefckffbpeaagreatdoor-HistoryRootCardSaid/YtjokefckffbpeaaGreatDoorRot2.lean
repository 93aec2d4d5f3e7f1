/- A law of chapter 33, lifted: for every input the law returns true. Conditions: the row's own. -/
import Derived.Test.YtjokefckffbpeaaGreatDoorH8
import Derived.Test.YtjokefckffbpeaaGreatDoorEvc33
import Derived.Test.YtjokefckffbpeaaGreatDoorRdec
import Derived.Test.YtjokefckffbpeaaGreatDoorElaid
import Derived.SevenTiedAt
import Derived.Stop.Joined
namespace Go.Proofs.YtjokefckffbpeaaGreatDoor
open Go Go.Ev Go.ChangeShapes Go.RowKit

theorem V6:ownKnob Tryz.prog.godebug=none:=by kernel_rfl

/-- What is laid, but for the functions. -/
noncomputable def mY:List (String×DataW Unit):=Rows.historyRootRow.laid.filter fun x=>x.2.handleName?.isNone
noncomputable def yP(os:Os):World:=(World.doorLaid Tryz.prog 40 os).layVars Tryz.prog mY

theorem Dx(os:Os)(args:Array Value):laidMet Tryz.prog mY ((yP os).forCall (fun _ _=>0) ⟨#[],args,[]⟩).memory:=by
  have e1:(mY.filter fun x=>(mY.map (·.1)).contains x.1)=mY:=List.filter_eq_self.2 fun x hx=>List.contains_iff_mem.2 (ki.2 ⟨x,hx,rfl⟩)
  have e2:(mY.filter fun x=>!(mY.map (·.1)).contains x.1)=[]:=List.filter_eq_nil_iff.2 fun x hx=>by rw[List.contains_iff_mem.2 (ki.2 ⟨x,hx,rfl⟩)];simp
  have h:laidMet Tryz.prog mY (yP os):=laidMet_layVars (w0:=World.doorLaid Tryz.prog 40 os) (mY.map (·.1)) [] (by rw[e1];rfl) (by rw[e1];kernel_rfl) (by rw[e1];kernel_rfl) (by rw[e2];exact LaidIn.none)
  exact h.of_heap (by simp[World.memory,World.forCall,Input.heap])

theorem IJ(os:Os)(args:Array Value):laidMetH Tryz.prog Rows.historyRootRow.laid ((yP os).forCall (fun _ _=>0) ⟨#[],args,[]⟩).memory:=
  laidMetH_of_parts3 (fuel:=8) (Dx os args) (by kernel_rfl) (by kernel_rfl)

set_option maxRecDepth 100000 in
theorem IW(os:Os)(started:os.Started)(H:Type)(enc:TypeId×Value→H):
    ReturnsInHanded {} Tryz.checked os 4 .any (fun w args=>(Rows.historyRootSpec.pre enc Tryz.prog Tryz.f4 [] false w args∧laidMetH Tryz.prog Rows.historyRootRow.laid w)∧sizedMet enc Tryz.prog Tryz.f4 (OpenSpec.ofChange Rows.historyRootSpec) false w args)
      (Rows.historyRootSpec.post enc Tryz.prog Tryz.f4 false true false false):=by
  refine returnsInHanded_of_change_and (C:=Tryz.checked) (X:=fun w _=>laidMetH Tryz.prog Rows.historyRootRow.laid w) (fun _ _ _ hh h=>h.of_heap hh) V6 started (by kernel_rfl) Tryz.func4
    (ChangeSpec.witness_shaped (enc:=enc) (C:=Tryz.checked) (os:=os) (X:=fun w _=>laidMetH Tryz.prog Rows.historyRootRow.laid w) false (yP os) #[.slice none 0 0,.string ⟨#[]⟩] 8 (by unfold yP;rw[World.layVars_os];rfl)
      (World.shaped_of_ZipB (by kernel_rfl) (by kernel_rfl)) (by kernel_rfl) (by kernel_rfl) (by kernel_rfl) (IJ os _)) ?_
  intro W base args ds gs before hval0 hW _ hz hL _
  have hval:∀(j:Nat) t v,Tryz.f4.params[j]?=some t→args[j]?=some v→Value.okWide Tryz.prog W .any base t v:=hval0
  have hz:(DataW.weightsEach Tryz.prog (Tryz.f4.params.toList++Rows.historyRootSpec.plain.varTypes Tryz.prog) (ds++gs)).all (·≤reachBytes)=true:=hz
  have hW':=hW
  obtain⟨p,q,Z8,hV,rfl,_,_⟩:=hW
  have hA:DataW.TrodAll enc Tryz.prog W 0 (fun _=>true) true Tryz.f4.params.toList args.toList ds p:=Z8
  rw[Tryz.params4]at hA hval hz
  obtain⟨v0,v1,d0,d1,p0,p1,rfl,rfl,rfl,h0,h1⟩:=trodAll_two hA
  obtain⟨rfl,rfl⟩:=trodVars_none hV
  obtain⟨x1,rfl,rfl,rfl,_⟩:=Go.ChangeMaps.open_string Tryz.underlying9 (hval 1 9 v1 rfl rfl) h1
  have hs0:=Go.WideShapes.okWide_slice Tryz.underlying22 (hval 0 22 v0 rfl rfl)
  obtain⟨fu0,h0⟩:=h0
  have hw0:Wt Tryz.prog 22 d0:=fun m hm=>by
    have:=nq.1 hz m (lL hm 0 rfl rfl)
    simpa using this
  obtain⟨x0,hf0,hl0⟩:=Gb h0 hw0
  obtain⟨u0,ha0,hb0⟩:=hl0.one
  have hr0:VRel (fun _=>none) (cq W) (.ls (x0.map al)) v0:=by
    obtain⟨a,len,cap,rfl⟩:=hs0
    have:u0=.slice a len cap:=by simpa[Value.cells]using ha0.symm
    exact this▸hb0
  obtain⟨⟨x1⟩⟩:=x1
  have hv:VRels (fun _=>none) (cq W) [.ls (x0.map al),.str x1] #[v0,.string ⟨⟨x1⟩⟩]:=⟨rfl,fun j y hj=>by
    match j,hj with
    |0,hj=>simp at hj;subst hj;exact hr0
    |1,hj=>simp at hj;subst hj;exact .str _
    |j+2,hj=>simp at hj⟩
  refine(TD Tryz.func4 (by kernel_rfl) rfl (gok hL (bi (i:=0) rfl) (bi (i:=1) rfl) (bi (i:=2) rfl) (bi (i:=3) rfl)) hv ((Na x0 x1 hf0 UO AHeap.none).mono fun _ _ e=>e.1)).mono fun e W' ⟨he,hb⟩=>?_
  exact⟨_,he,Qq (tb:=4) (by kernel_rfl) (by kernel_rfl) rfl rfl (by kernel_rfl) (by kernel_rfl) hW' hb⟩

end Go.Proofs.YtjokefckffbpeaaGreatDoor
