/- A law of chapter 30, lifted: for every input the law returns true. Conditions: the row's own. -/
import Derived.Test.YtidehekfpcgelaaGreatDoorH8
import Derived.Test.YtidehekfpcgelaaGreatDoorEvc30
import Derived.Test.YtidehekfpcgelaaGreatDoorRdec
import Derived.Test.YtidehekfpcgelaaGreatDoorElaid
import Derived.SevenTiedAt
import Derived.Stop.Joined
namespace Go.Proofs.YtidehekfpcgelaaGreatDoor
open Go Go.Ev Go.ChangeShapes Go.RowKit

theorem U0:ownKnob Tryz.prog.godebug=none:=by kernel_rfl

/-- What is laid, but for the functions. -/
noncomputable def l0:List (String × DataW Unit):=Rows.consolidatePurposesRow.laid.filter fun x=>x.2.handleName?.isNone
noncomputable def yp (os:Os):World:=(World.doorLaid Tryz.prog 40 os).layVars Tryz.prog l0

theorem C5 (os:Os) (args:Array Value):laidMet Tryz.prog l0 ((yp os).forCall (fun _ _=>0) ⟨#[],args, []⟩).memory:=by
  have e1:(l0.filter fun x=>(l0.map (·.1)).contains x.1)=l0:=List.filter_eq_self.2 fun x hx=>List.contains_iff_mem.2 (jK.2 ⟨x,hx,rfl⟩)
  have e2:(l0.filter fun x=>!(l0.map (·.1)).contains x.1) = []:=List.filter_eq_nil_iff.2 fun x hx=>by rw [List.contains_iff_mem.2 (jK.2 ⟨x,hx,rfl⟩)];simp
  have h:laidMet Tryz.prog l0 (yp os):=laidMet_layVars (w0:=World.doorLaid Tryz.prog 40 os) (l0.map (·.1)) [] (by rw [e1];rfl) (by rw [e1];kernel_rfl) (by rw [e1];kernel_rfl) (by rw [e2];exact LaidIn.none)
  exact h.of_heap (by simp [World.memory,World.forCall,Input.heap])

theorem HG (os:Os) (args:Array Value):laidMetH Tryz.prog Rows.consolidatePurposesRow.laid ((yp os).forCall (fun _ _=>0) ⟨#[],args, []⟩).memory:=
  laidMetH_of_parts3 (fuel:=8) (C5 os args) (by kernel_rfl) (by kernel_rfl)

set_option maxRecDepth 100000 in
theorem HF (os:Os) (started:os.Started) (H:Type) (enc:TypeId × Value→H) :
    ReturnsInHanded {} Tryz.checked os 7 .any (fun w args=>(Rows.consolidatePurposesSpec.pre enc Tryz.prog Tryz.f7 [] false w args∧laidMetH Tryz.prog Rows.consolidatePurposesRow.laid w)∧sizedMet enc Tryz.prog Tryz.f7 (OpenSpec.ofChange Rows.consolidatePurposesSpec) false w args)
      (Rows.consolidatePurposesSpec.post enc Tryz.prog Tryz.f7 false true false false):=by
  refine returnsInHanded_of_change_and (C:=Tryz.checked) (X:=fun w _=>laidMetH Tryz.prog Rows.consolidatePurposesRow.laid w) (fun _ _ _ hh h=>h.of_heap hh) U0 started (by kernel_rfl) Tryz.func7
    (ChangeSpec.witness_shaped (enc:=enc) (C:=Tryz.checked) (os:=os) (X:=fun w _=>laidMetH Tryz.prog Rows.consolidatePurposesRow.laid w) false (yp os) #[.int .i64 0, .string ⟨#[]⟩, .slice none 0 0] 8 (by unfold yp;rw [World.layVars_os];rfl)
      (World.shaped_of_ZipB (by kernel_rfl) (by kernel_rfl)) (by kernel_rfl) (by kernel_rfl) (by kernel_rfl) (HG os _)) ?_
  intro W base args ds gs before hval0 hW _ hz hL _
  have hval : ∀ (j:Nat) t v,Tryz.f7.params[j]? = some t→args[j]? = some v→Value.okWide Tryz.prog W .any base t v:=hval0
  have hz:(DataW.weightsEach Tryz.prog (Tryz.f7.params.toList++Rows.consolidatePurposesSpec.plain.varTypes Tryz.prog) (ds++gs)).all (·≤reachBytes)=true:=hz
  have hW':=hW
  obtain ⟨p,q,Ye,hV,rfl,_,_⟩:=hW
  have hA:DataW.TrodAll enc Tryz.prog W 0 (fun _=>true) true Tryz.f7.params.toList args.toList ds p:=Ye
  rw [Tryz.params7] at hA hval hz
  obtain ⟨v0,v1,v2,d0,d1,d2,p0,p1,p2,rfl,rfl,rfl,h0,h1,h2⟩:=trodAll_three hA
  obtain ⟨rfl,rfl⟩:=trodVars_none hV
  obtain ⟨x,rfl,rfl,rfl,_⟩:=open_int Tryz.underlying3 (hval 0 3 v0 rfl rfl) h0
  obtain ⟨s,rfl,rfl,rfl,_⟩:=Go.ChangeMaps.open_string Tryz.underlying9 (hval 1 9 v1 rfl rfl) h1
  have h2v:=Go.WideShapes.okWide_slice Tryz.underlying22 (hval 2 22 v2 rfl rfl)
  obtain ⟨fuel,h2⟩:=h2
  have hw2:Wt Tryz.prog 22 d2:=fun m hm=>by
    have:=nW.1 hz m (lp hm 2 rfl rfl)
    simpa using this
  obtain ⟨l,hfit,hvl⟩:=F5 h2 hw2
  obtain ⟨v,hv1,hv2⟩:=hvl.one
  have hv3:VRel (fun _=>none) (cq W) (.ls (l.map aM)) v2:=by
    obtain ⟨a,len,cap,rfl⟩:=h2v
    have:v = .slice a len cap:=by simpa [Value.cells] using hv1.symm
    exact this ▸ hv2
  obtain ⟨⟨s⟩⟩:=s
  have hv:VRels (fun _=>none) (cq W) [.int .i64 x, .str s, .ls (l.map aM)] #[.int .i64 x, .string ⟨⟨s⟩⟩,v2]:=⟨rfl,fun j y hj=>by
    match j,hj with
    | 0,hj=>simp at hj;subst hj;exact .int _ _
    | 1,hj=>simp at hj;subst hj;exact .str _
    | 2,hj=>simp at hj;subst hj;exact hv3
    | j+3,hj=>simp at hj⟩
  refine (SG Tryz.func7 (by kernel_rfl) rfl (YI hL (.head _) (.tail _ (.head _)) (.tail _ (.tail _ (.head _))) (.tail _ (.tail _ (.tail _ (.head _))))) hv ((C4 x s l hfit TL AHeap.none).mono fun _ _ e=>e.1)).mono fun e W' ⟨he,hb⟩=>?_
  exact ⟨_,he,Pk (tb:=4) (by kernel_rfl) (by kernel_rfl) rfl rfl (by kernel_rfl) (by kernel_rfl) hW' hb⟩

end Go.Proofs.YtidehekfpcgelaaGreatDoor
