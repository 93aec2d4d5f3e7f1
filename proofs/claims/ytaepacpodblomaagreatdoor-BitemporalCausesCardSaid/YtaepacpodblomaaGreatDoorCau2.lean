/- A law of chapter 36, lifted: for every input the law returns true. Conditions: the row's own. -/
import Derived.Test.YtaepacpodblomaaGreatDoorH9
import Derived.Test.YtaepacpodblomaaGreatDoorEvc36
import Derived.Test.YtaepacpodblomaaGreatDoorRdec
import Derived.Test.YtaepacpodblomaaGreatDoorElaid
import Derived.SevenTiedAt
import Derived.Stop.Joined
namespace Go.Proofs.YtaepacpodblomaaGreatDoor
open Go Go.Ev Go.ChangeShapes Go.RowKit

theorem XZ:ownKnob Tryz.prog.godebug=none:=by kernel_rfl

/-- What is laid, but for the functions. -/
noncomputable def me:List (String×DataW Unit):=Rows.bitemporalCausesRow.laid.filter fun x=>x.2.handleName?.isNone
noncomputable def Bb(os:Os):World:=(World.doorLaid Tryz.prog 40 os).layVars Tryz.prog me

theorem E1(os:Os)(args:Array Value):laidMet Tryz.prog me ((Bb os).forCall (fun _ _=>0) ⟨#[],args,[]⟩).memory:=by
  have e1:(me.filter fun x=>(me.map (·.1)).contains x.1)=me:=List.filter_eq_self.2 fun x hx=>List.contains_iff_mem.2 (ku.2 ⟨x,hx,rfl⟩)
  have e2:(me.filter fun x=>!(me.map (·.1)).contains x.1)=[]:=y6.2 fun x hx=>by rw[List.contains_iff_mem.2 (ku.2 ⟨x,hx,rfl⟩)];simp
  have h:laidMet Tryz.prog me (Bb os):=laidMet_layVars (w0:=World.doorLaid Tryz.prog 40 os) (me.map (·.1)) [] (by rw[e1];rfl) (by rw[e1];kernel_rfl) (by rw[e1];kernel_rfl) (by rw[e2];exact LaidIn.none)
  exact h.of_heap (by simp[World.memory,World.forCall,Input.heap])

theorem KX(os:Os)(args:Array Value):laidMetH Tryz.prog Rows.bitemporalCausesRow.laid ((Bb os).forCall (fun _ _=>0) ⟨#[],args,[]⟩).memory:=
  laidMetH_of_parts3 (fuel:=8) (E1 os args) (by kernel_rfl) (by kernel_rfl)

set_option maxRecDepth 100000 in
theorem KZ(os:Os)(started:os.Started)(H:Type)(enc:TypeId×Value→H):
    ReturnsInHanded {} Tryz.checked os 7 .any (fun w args=>(Rows.bitemporalCausesSpec.pre enc Tryz.prog Tryz.f7 [] false w args∧laidMetH Tryz.prog Rows.bitemporalCausesRow.laid w)∧sizedMet enc Tryz.prog Tryz.f7 (OpenSpec.ofChange Rows.bitemporalCausesSpec) false w args)
      (Rows.bitemporalCausesSpec.post enc Tryz.prog Tryz.f7 false true false false):=by
  refine returnsInHanded_of_change_and (C:=Tryz.checked) (X:=fun w _=>laidMetH Tryz.prog Rows.bitemporalCausesRow.laid w) (fun _ _ _ hh h=>h.of_heap hh) XZ started (by kernel_rfl) Tryz.func7
    (ChangeSpec.witness_shaped (enc:=enc) (C:=Tryz.checked) (os:=os) (X:=fun w _=>laidMetH Tryz.prog Rows.bitemporalCausesRow.laid w) false (Bb os) #[.slice none 0 0,.int .i64 0,.int .i64 0,.string ⟨#[]⟩] 8 (by unfold Bb;rw[World.layVars_os];rfl)
      (World.shaped_of_ZipB (by kernel_rfl) (by kernel_rfl)) (by kernel_rfl) (by kernel_rfl) (by kernel_rfl) (KX os _)) ?_
  intro W base args ds gs before hval0 hW _ hz hL _
  have hval:∀(j:Nat) t v,Tryz.f7.params[j]?=some t→args[j]?=some v→Value.okWide Tryz.prog W .any base t v:=hval0
  have hz:(DataW.weightsEach Tryz.prog (Tryz.f7.params.toList++Rows.bitemporalCausesSpec.plain.varTypes Tryz.prog) (ds++gs)).all (·≤reachBytes)=true:=hz
  have hW':=hW
  obtain⟨p,q,hA0,hV,rfl,_,_⟩:=hW
  have hA:DataW.TrodAll enc Tryz.prog W 0 (fun _=>true) true Tryz.f7.params.toList args.toList ds p:=hA0
  rw[Tryz.params7]at hA hval hz
  obtain⟨v0,v1,v2,v3,d0,d1,d2,d3,p0,p1,p2,p3,rfl,rfl,rfl,h0,h1,h2,h3⟩:=trodAll_four hA
  obtain⟨rfl,rfl⟩:=trodVars_none hV
  obtain⟨x1,rfl,rfl,rfl,_⟩:=open_int Tryz.underlying3 (hval 1 3 v1 rfl rfl) h1
  obtain⟨x2,rfl,rfl,rfl,_⟩:=open_int Tryz.underlying3 (hval 2 3 v2 rfl rfl) h2
  obtain⟨x3,rfl,rfl,rfl,_⟩:=Go.ChangeMaps.open_string Tryz.underlying9 (hval 3 9 v3 rfl rfl) h3
  have hs0:=Go.WideShapes.okWide_slice Tryz.underlying22 (hval 0 22 v0 rfl rfl)
  obtain⟨fu0,h0⟩:=h0
  have hw0:Wt Tryz.prog 22 d0:=fun m hm=>by
    have:=na.1 hz m (l9 hm 0 rfl rfl)
    simpa using this
  obtain⟨x0,hf0,hl0⟩:=Hq h0 hw0
  obtain⟨u0,ha0,hb0⟩:=hl0.one
  have hr0:VRel (fun _=>none) (cw W) (.ls (x0.map aa)) v0:=by
    obtain⟨a,len,cap,rfl⟩:=hs0
    have:u0=.slice a len cap:=by simpa[Value.cells]using ha0.symm
    exact this▸hb0
  obtain⟨⟨x3⟩⟩:=x3
  have hv:VRels (fun _=>none) (cw W) [.ls (x0.map aa),.int .i64 x1,.int .i64 x2,.str x3] #[v0,.int .i64 x1,.int .i64 x2,.string ⟨⟨x3⟩⟩]:=⟨rfl,fun j y hj=>by
    match j,hj with
    |0,hj=>simp at hj;subst hj;exact hr0
    |1,hj=>simp at hj;subst hj;exact .int _ _
    |2,hj=>simp at hj;subst hj;exact .int _ _
    |3,hj=>simp at hj;subst hj;exact .str _
    |j+4,hj=>simp at hj⟩
  refine(UB Tryz.func7 (by kernel_rfl) rfl (gok hL (bm (i:=0) rfl) (bm (i:=1) rfl) (bm (i:=2) rfl) (bm (i:=3) rfl)) hv ((KQ x0 x1 x2 x3 hf0 VP AHeap.none).mono fun _ _ e=>e.1)).mono fun e W' ⟨he,hb⟩=>?_
  exact⟨_,he,Q5 (tb:=4) (by kernel_rfl) (by kernel_rfl) rfl rfl (by kernel_rfl) (by kernel_rfl) hW' hb⟩

end Go.Proofs.YtaepacpodblomaaGreatDoor
