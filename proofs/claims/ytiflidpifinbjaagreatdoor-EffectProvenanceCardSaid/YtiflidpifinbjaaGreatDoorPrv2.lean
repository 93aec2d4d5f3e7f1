/- A law of chapter 35, lifted: for every input the law returns true. Conditions: the row's own. -/
import Derived.Test.YtiflidpifinbjaaGreatDoorH9
import Derived.Test.YtiflidpifinbjaaGreatDoorEvc35
import Derived.Test.YtiflidpifinbjaaGreatDoorRdec
import Derived.Test.YtiflidpifinbjaaGreatDoorElaid
import Derived.SevenTiedAt
import Derived.Stop.Joined
namespace Go.Proofs.YtiflidpifinbjaaGreatDoor
open Go Go.Ev Go.ChangeShapes Go.RowKit
theorem Yy:ownKnob Tryz.prog.godebug=none:=by kernel_rfl
noncomputable def mp:List (String×DataW Unit):=Rows.effectProvenanceRow.laid.filter λx=>x.2.handleName?.isNone
noncomputable def Av(os:Os):World:=(World.doorLaid Tryz.prog 60 os).layVars Tryz.prog mp
theorem EP(os:Os)(args:Array Value):laidMet Tryz.prog mp ((Av os).forCall (λ_ _=>0) ⟨#[],args,[]⟩).memory:=by
  have e1:(mp.filter λx=>(mp.map (·.1)).contains x.1)=mp:=List.filter_eq_self.2 λx hx=>List.contains_iff_mem.2 (iO.2 ⟨x,hx,rfl⟩)
  have e2:(mp.filter λx=>!(mp.map (·.1)).contains x.1)=[]:=List.filter_eq_nil_iff.2 λx hx=>by rw[List.contains_iff_mem.2 (iO.2 ⟨x,hx,rfl⟩)];simp
  have h:laidMet Tryz.prog mp (Av os):=laidMet_layVars (w0:=World.doorLaid Tryz.prog 60 os) (mp.map (·.1)) [] (by rw[e1];rfl) (by rw[e1];kernel_rfl) (by rw[e1];kernel_rfl) (by rw[e2];exact LaidIn.none)
  exact h.of_heap (by simp[World.memory,World.forCall,Input.heap])
theorem J4(os:Os)(args:Array Value):laidMetH Tryz.prog Rows.effectProvenanceRow.laid ((Av os).forCall (λ_ _=>0) ⟨#[],args,[]⟩).memory:=
  laidMetH_of_parts3 (fuel:=8) (EP os args) (by kernel_rfl) (by kernel_rfl)
set_option maxRecDepth 100000 in
theorem J3(os:Os)(started:os.Started)(H:Type)(enc:TypeId×Value->H):
    ReturnsInHanded {} Tryz.checked os 3 .any (λw args=>(Rows.effectProvenanceSpec.pre enc Tryz.prog Tryz.f3 [] false w args/\laidMetH Tryz.prog Rows.effectProvenanceRow.laid w)/\sizedMet enc Tryz.prog Tryz.f3 (OpenSpec.ofChange Rows.effectProvenanceSpec) false w args)
      (Rows.effectProvenanceSpec.post enc Tryz.prog Tryz.f3 false true false false):=by
  refine returnsInHanded_of_change_and (C:=Tryz.checked) (X:=λw _=>laidMetH Tryz.prog Rows.effectProvenanceRow.laid w) (λ_ _ _ hh h=>h.of_heap hh) Yy started (by kernel_rfl) Tryz.func3
    (ChangeSpec.witness_shaped (enc:=enc) (C:=Tryz.checked) (os:=os) (X:=λw _=>laidMetH Tryz.prog Rows.effectProvenanceRow.laid w) false (Av os) #[.int .i64 0,.string ⟨#[]⟩,.slice none 0 0] 8 (by unfold Av;rw[World.layVars_os];rfl)
      (World.shaped_of_ZipB (by kernel_rfl) (by kernel_rfl)) (by kernel_rfl) (by kernel_rfl) (by kernel_rfl) (J4 os _)) ?_
  intro W base args ds gs before hval0 hW _ hz hL _
  have hval:∀(j:Nat) t v,Tryz.f3.params[j]?=some t->args[j]?=some v->Value.okWide Tryz.prog W .any base t v:=hval0
  have hz:(DataW.weightsEach Tryz.prog (Tryz.f3.params.toList++Rows.effectProvenanceSpec.plain.varTypes Tryz.prog) (ds++gs)).all (·<=reachBytes)=true:=hz
  have hW':=hW
  obtain⟨p,q,hA0,hV,rfl,_,_⟩:=hW
  have hA:DataW.TrodAll enc Tryz.prog W 0 (λ_=>true) true Tryz.f3.params.toList args.toList ds p:=hA0
  rw[Tryz.params3]at hA hval hz
  obtain⟨v0,v1,v2,d0,d1,d2,p0,p1,p2,rfl,rfl,rfl,h0,h1,h2⟩:=trodAll_three hA
  obtain⟨rfl,rfl⟩:=trodVars_none hV
  obtain⟨x0,rfl,rfl,rfl,_⟩:=open_int Tryz.underlying3 (hval 0 3 v0 rfl rfl) h0
  obtain⟨x1,rfl,rfl,rfl,_⟩:=Go.ChangeMaps.open_string Tryz.underlying9 (hval 1 9 v1 rfl rfl) h1
  have hs2:=Go.WideShapes.okWide_slice Tryz.underlying22 (hval 2 22 v2 rfl rfl)
  obtain⟨fu2,h2⟩:=h2
  have hw2:Wt Tryz.prog 22 d2:=λm hm=>by
    have:=mf.1 hz m (mz hm 2 rfl rfl)
    simpa using this
  obtain⟨x2,hl472,hfit2,hl2⟩:=AQ am ZX Tryz.underlying22 (by kernel_rfl) (by kernel_rfl) (λx=>(show(am x).cells.length=4 from rfl).trans abr.symm) (λ_=>rfl) LX (λ_ _ _ _ _ h hw=>Y5 h hw) h2 hw2
  have hf2:qY x2:=⟨Nat.lt_trans hl472 (by decide),hfit2⟩
  obtain⟨u2,ha2,hb2⟩:=hl2.one
  have hr2:VRel (λ_=>none) (cF W) (.ls (x2.map am)) v2:=by
    obtain⟨a,len,cap,rfl⟩:=hs2
    have:u2=.slice a len cap:=by simpa[Value.cells]using ha2.symm
    exact this▸hb2
  obtain⟨⟨x1⟩⟩:=x1
  have hv:VRels (λ_=>none) (cF W) [.int .i64 x0,.str x1,.ls (x2.map am)] #[.int .i64 x0,.string ⟨⟨x1⟩⟩,v2]:=⟨rfl,λj y hj=>by
    match j,hj with
    |0,hj=>simp at hj;subst hj;exact .int _ _
    |1,hj=>simp at hj;subst hj;exact .str _
    |2,hj=>simp at hj;subst hj;exact hr2
    |j+3,hj=>simp at hj⟩
  refine(Vt Tryz.func3 (by kernel_rfl) rfl (gok hL (bC (i:=3) rfl) (bC (i:=4) rfl) (bC (i:=5) rfl) (bC (i:=7) rfl) (bC (i:=6) rfl)) hv ((Ay x0 x1 x2 hf2 hl472 W5 AHeap.none).mono λ_ _ e=>e.1)).mono λe W' ⟨he,hb⟩=>?_
  exact⟨_,he,RT (tb:=4) (by kernel_rfl) (by kernel_rfl) rfl rfl (by kernel_rfl) (by kernel_rfl) hW' hb⟩
end Go.Proofs.YtiflidpifinbjaaGreatDoor
