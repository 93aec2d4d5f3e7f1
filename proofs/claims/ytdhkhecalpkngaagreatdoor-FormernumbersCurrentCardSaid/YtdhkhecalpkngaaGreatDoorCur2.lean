/- A law of chapter 44, lifted: for every input the law returns true. Conditions: the row's own. -/
import Derived.Test.YtdhkhecalpkngaaGreatDoorH9
import Derived.Test.YtdhkhecalpkngaaGreatDoorEvc44
import Derived.Test.YtdhkhecalpkngaaGreatDoorRdec
import Derived.Test.YtdhkhecalpkngaaGreatDoorElaid
import Derived.SevenTiedAt
import Derived.Stop.Joined
namespace Go.Proofs.YtdhkhecalpkngaaGreatDoor
open Go Go.Ev Go.ChangeShapes Go.RowKit
theorem Xo:ownKnob Tryz.prog.godebug=none:=by kernel_rfl
noncomputable def mS:List (String×DataW Unit):=Rows.formernumbersCurrentRow.laid.filter fun x=>x.2.handleName?.isNone
noncomputable def Bm(os:Os):World:=(World.doorLaid Tryz.prog 55 os).layVars Tryz.prog mS
theorem Fq(os:Os)(args:Array Value):laidMet Tryz.prog mS ((Bm os).forCall (fun _ _=>0) ⟨#[],args,[]⟩).memory:=by
  have e1:(mS.filter fun x=>(mS.map (·.1)).contains x.1)=mS:=List.filter_eq_self.2 fun x hx=>List.contains_iff_mem.2 (gO.2 ⟨x,hx,rfl⟩)
  have e2:(mS.filter fun x=>!(mS.map (·.1)).contains x.1)=[]:=List.filter_eq_nil_iff.2 fun x hx=>by rw[List.contains_iff_mem.2 (gO.2 ⟨x,hx,rfl⟩)];simp
  have h:laidMet Tryz.prog mS (Bm os):=laidMet_layVars (w0:=World.doorLaid Tryz.prog 55 os) (mS.map (·.1)) [] (by rw[e1];rfl) (by rw[e1];kernel_rfl) (by rw[e1];kernel_rfl) (by rw[e2];exact LaidIn.none)
  exact h.of_heap (by simp[World.memory,World.forCall,Input.heap])
theorem KL(os:Os)(args:Array Value):laidMetH Tryz.prog Rows.formernumbersCurrentRow.laid ((Bm os).forCall (fun _ _=>0) ⟨#[],args,[]⟩).memory:=
  laidMetH_of_parts3 (fuel:=8) (Fq os args) (by kernel_rfl) (by kernel_rfl)
set_option maxRecDepth 100000 in
theorem KI(os:Os)(started:os.Started)(H:Type)(enc:TypeId×Value->H):
    ReturnsInHanded {} Tryz.checked os 3 .any (fun w args=>(Rows.formernumbersCurrentSpec.pre enc Tryz.prog Tryz.f3 [] false w args/\laidMetH Tryz.prog Rows.formernumbersCurrentRow.laid w)/\sizedMet enc Tryz.prog Tryz.f3 (OpenSpec.ofChange Rows.formernumbersCurrentSpec) false w args)
      (Rows.formernumbersCurrentSpec.post enc Tryz.prog Tryz.f3 false true false false):=by
  refine returnsInHanded_of_change_and (C:=Tryz.checked) (X:=fun w _=>laidMetH Tryz.prog Rows.formernumbersCurrentRow.laid w) (fun _ _ _ hh h=>h.of_heap hh) Xo started (by kernel_rfl) Tryz.func3
    (ChangeSpec.witness_shaped (enc:=enc) (C:=Tryz.checked) (os:=os) (X:=fun w _=>laidMetH Tryz.prog Rows.formernumbersCurrentRow.laid w) false (Bm os) #[.slice none 0 0,.int .i64 0,.string ⟨#[]⟩] 8 (by unfold Bm;rw[World.layVars_os];rfl)
      (World.shaped_of_ZipB (by kernel_rfl) (by kernel_rfl)) (by kernel_rfl) (by kernel_rfl) (by kernel_rfl) (KL os _)) ?_
  intro W base args ds gs before hval0 hW _ hz hL _
  have hval:∀(j:Nat) t v,Tryz.f3.params[j]?=some t->args[j]?=some v->Value.okWide Tryz.prog W .any base t v:=hval0
  have hz:(DataW.weightsEach Tryz.prog (Tryz.f3.params.toList++Rows.formernumbersCurrentSpec.plain.varTypes Tryz.prog) (ds++gs)).all (·<=reachBytes)=true:=hz
  have hW':=hW
  obtain⟨p,q,hA0,hV,rfl,_,_⟩:=hW
  have hA:DataW.TrodAll enc Tryz.prog W 0 (fun _=>true) true Tryz.f3.params.toList args.toList ds p:=hA0
  rw[Tryz.params3]at hA hval hz
  obtain⟨v0,v1,v2,d0,d1,d2,p0,p1,p2,rfl,rfl,rfl,h0,h1,h2⟩:=trodAll_three hA
  obtain⟨rfl,rfl⟩:=trodVars_none hV
  obtain⟨x1,rfl,rfl,rfl,_⟩:=open_int Tryz.underlying3 (hval 1 3 v1 rfl rfl) h1
  obtain⟨x2,rfl,rfl,rfl,_⟩:=Go.ChangeMaps.open_string Tryz.underlying9 (hval 2 9 v2 rfl rfl) h2
  have hs0:=Go.WideShapes.okWide_slice Tryz.underlying22 (hval 0 22 v0 rfl rfl)
  obtain⟨fu0,h0⟩:=h0
  have hw0:Wt Tryz.prog 22 d0:=fun m hm=>by
    have:=kX.1 hz m (jO hm 0 rfl rfl)
    simpa using this
  obtain⟨x0,hf0,hl0⟩:=HL h0 hw0
  obtain⟨u0,ha0,hb0⟩:=hl0.one
  have hr0:VRel (fun _=>none) (cG W) (.ls (x0.map aI)) v0:=by
    obtain⟨a,len,cap,rfl⟩:=hs0
    have:u0=.slice a len cap:=by simpa[Value.cells]using ha0.symm
    exact this▸hb0
  obtain⟨⟨x2⟩⟩:=x2
  have hS2:x2.length<2^47:=by
    have hwS:Wt Tryz.prog 9 (.lit (.string x2):DataW H):=fun m hm=>by
      have:=kX.1 hz m (jO hm 2 rfl rfl)
      simpa using this
    exact oB (hwS x2.length (by simp[DataW.weights])) (by decide)
  have hv:VRels (fun _=>none) (cG W) [.ls (x0.map aI),.int .i64 x1,.str x2] #[v0,.int .i64 x1,.string ⟨⟨x2⟩⟩]:=⟨rfl,fun j y hj=>by
    match j,hj with
    |0,hj=>simp at hj;subst hj;exact hr0
    |1,hj=>simp at hj;subst hj;exact .int _ _
    |2,hj=>simp at hj;subst hj;exact .str _
    |j+3,hj=>simp at hj⟩
  refine(VY Tryz.func3 (by kernel_rfl) rfl (gok hL (bH (i:=0) rfl) (bH (i:=1) rfl) (bH (i:=2) rfl) (bH (i:=3) rfl)) hv ((Ir x0 x1 x2 hf0 hS2 WJ AHeap.none).mono fun _ _ e=>e.1)).mono fun e W' ⟨he,hb⟩=>?_
  exact⟨_,he,Rb (tb:=4) (by kernel_rfl) (by kernel_rfl) rfl rfl (by kernel_rfl) (by kernel_rfl) hW' hb⟩
end Go.Proofs.YtdhkhecalpkngaaGreatDoor
