/- A law of chapter 36, lifted: for every input the law returns true. Conditions: the row's own. -/
import Derived.Test.YtaepacpodblomaaGreatDoorH8
import Derived.Test.YtaepacpodblomaaGreatDoorEvc36
import Derived.Test.YtaepacpodblomaaGreatDoorRdec
import Derived.Test.YtaepacpodblomaaGreatDoorElaid
import Derived.SevenTiedAt
import Derived.Stop.Joined
namespace Go.Proofs.YtaepacpodblomaaGreatDoor
open Go Go.Ev Go.ChangeShapes Go.RowKit

theorem Wa:ownKnob Tryz.prog.godebug=none:=by kernel_rfl

/-- What is laid, but for the functions. -/
noncomputable def mZ:List (String×DataW Unit):=Rows.bitemporalRevisionsRow.laid.filter fun x=>x.2.handleName?.isNone
noncomputable def zk(os:Os):World:=(World.doorLaid Tryz.prog 40 os).layVars Tryz.prog mZ

theorem DM(os:Os)(args:Array Value):laidMet Tryz.prog mZ ((zk os).forCall (fun _ _=>0) ⟨#[],args,[]⟩).memory:=by
  have e1:(mZ.filter fun x=>(mZ.map (·.1)).contains x.1)=mZ:=List.filter_eq_self.2 fun x hx=>List.contains_iff_mem.2 (ka.2 ⟨x,hx,rfl⟩)
  have e2:(mZ.filter fun x=>!(mZ.map (·.1)).contains x.1)=[]:=List.filter_eq_nil_iff.2 fun x hx=>by rw[List.contains_iff_mem.2 (ka.2 ⟨x,hx,rfl⟩)];simp
  have h:laidMet Tryz.prog mZ (zk os):=laidMet_layVars (w0:=World.doorLaid Tryz.prog 40 os) (mZ.map (·.1)) [] (by rw[e1];rfl) (by rw[e1];kernel_rfl) (by rw[e1];kernel_rfl) (by rw[e2];exact LaidIn.none)
  exact h.of_heap (by simp[World.memory,World.forCall,Input.heap])

theorem It(os:Os)(args:Array Value):laidMetH Tryz.prog Rows.bitemporalRevisionsRow.laid ((zk os).forCall (fun _ _=>0) ⟨#[],args,[]⟩).memory:=
  laidMetH_of_parts3 (fuel:=8) (DM os args) (by kernel_rfl) (by kernel_rfl)

set_option maxRecDepth 100000 in
theorem Is(os:Os)(started:os.Started)(H:Type)(enc:TypeId×Value→H):
    ReturnsInHanded {} Tryz.checked os 6 .any (fun w args=>(Rows.bitemporalRevisionsSpec.pre enc Tryz.prog Tryz.f6 [] false w args∧laidMetH Tryz.prog Rows.bitemporalRevisionsRow.laid w)∧sizedMet enc Tryz.prog Tryz.f6 (OpenSpec.ofChange Rows.bitemporalRevisionsSpec) false w args)
      (Rows.bitemporalRevisionsSpec.post enc Tryz.prog Tryz.f6 false true false false):=by
  refine returnsInHanded_of_change_and (C:=Tryz.checked) (X:=fun w _=>laidMetH Tryz.prog Rows.bitemporalRevisionsRow.laid w) (fun _ _ _ hh h=>h.of_heap hh) Wa started (by kernel_rfl) Tryz.func6
    (ChangeSpec.witness_shaped (enc:=enc) (C:=Tryz.checked) (os:=os) (X:=fun w _=>laidMetH Tryz.prog Rows.bitemporalRevisionsRow.laid w) false (zk os) #[.slice none 0 0,.int .i64 0,.int .i64 0,.string ⟨#[]⟩] 8 (by unfold zk;rw[World.layVars_os];rfl)
      (World.shaped_of_ZipB (by kernel_rfl) (by kernel_rfl)) (by kernel_rfl) (by kernel_rfl) (by kernel_rfl) (It os _)) ?_
  intro W base args ds gs before hval0 hW _ hz hL _
  have hval:∀(j:Nat) t v,Tryz.f6.params[j]?=some t→args[j]?=some v→Value.okWide Tryz.prog W .any base t v:=hval0
  have hz:(DataW.weightsEach Tryz.prog (Tryz.f6.params.toList++Rows.bitemporalRevisionsSpec.plain.varTypes Tryz.prog) (ds++gs)).all (·≤reachBytes)=true:=hz
  have hW':=hW
  obtain⟨p,q,hA0,hV,rfl,_,_⟩:=hW
  have hA:DataW.TrodAll enc Tryz.prog W 0 (fun _=>true) true Tryz.f6.params.toList args.toList ds p:=hA0
  rw[Tryz.params6]at hA hval hz
  obtain⟨v0,v1,v2,v3,d0,d1,d2,d3,p0,p1,p2,p3,rfl,rfl,rfl,h0,h1,h2,h3⟩:=trodAll_four hA
  obtain⟨rfl,rfl⟩:=trodVars_none hV
  obtain⟨x1,rfl,rfl,rfl,_⟩:=open_int Tryz.underlying3 (hval 1 3 v1 rfl rfl) h1
  obtain⟨x2,rfl,rfl,rfl,_⟩:=open_int Tryz.underlying3 (hval 2 3 v2 rfl rfl) h2
  obtain⟨x3,rfl,rfl,rfl,_⟩:=Go.ChangeMaps.open_string Tryz.underlying9 (hval 3 9 v3 rfl rfl) h3
  have hs0:=Go.WideShapes.okWide_slice Tryz.underlying22 (hval 0 22 v0 rfl rfl)
  obtain⟨fu0,h0⟩:=h0
  have hw0:Wt Tryz.prog 22 d0:=fun m hm=>by
    have:=nK.1 hz m (lr hm 0 rfl rfl)
    simpa using this
  obtain⟨x0,hf0,hl0⟩:=GR h0 hw0
  obtain⟨u0,ha0,hb0⟩:=hl0.one
  have hr0:VRel (fun _=>none) (ca W) (.ls (x0.map ay)) v0:=by
    obtain⟨a,len,cap,rfl⟩:=hs0
    have:u0=.slice a len cap:=by simpa[Value.cells]using ha0.symm
    exact this▸hb0
  obtain⟨⟨x3⟩⟩:=x3
  have hv:VRels (fun _=>none) (ca W) [.ls (x0.map ay),.int .i64 x1,.int .i64 x2,.str x3] #[v0,.int .i64 x1,.int .i64 x2,.string ⟨⟨x3⟩⟩]:=⟨rfl,fun j y hj=>by
    match j,hj with
    |0,hj=>simp at hj;subst hj;exact hr0
    |1,hj=>simp at hj;subst hj;exact .int _ _
    |2,hj=>simp at hj;subst hj;exact .int _ _
    |3,hj=>simp at hj;subst hj;exact .str _
    |j+4,hj=>simp at hj⟩
  refine(T8 Tryz.func6 (by kernel_rfl) rfl (gok hL (bi (i:=0) rfl) (bi (i:=1) rfl) (bi (i:=2) rfl) (bi (i:=3) rfl)) hv ((BE x0 x1 x2 x3 hf0 VK AHeap.none).mono fun _ _ e=>e.1)).mono fun e W' ⟨he,hb⟩=>?_
  exact⟨_,he,Qi (tb:=4) (by kernel_rfl) (by kernel_rfl) rfl rfl (by kernel_rfl) (by kernel_rfl) hW' hb⟩

end Go.Proofs.YtaepacpodblomaaGreatDoor
