/- A law of chapter 34, lifted: for every input the law returns true. Conditions: the row's own. -/
import Derived.Test.YtadodlkibeofjaaGreatDoorH8
import Derived.Test.YtadodlkibeofjaaGreatDoorEvc34
import Derived.Test.YtadodlkibeofjaaGreatDoorRdei
import Derived.Test.YtadodlkibeofjaaGreatDoorElaidk
import Derived.SevenTiedAt
import Derived.Stop.Joined
namespace Go.Proofs.YtadodlkibeofjaaGreatDoor
open Go Go.Ev Go.ChangeShapes Go.RowKit
theorem XB:ownKnob Tryz.prog.godebug=none:=by kernel_rfl
noncomputable def ml:List (String×DataW Unit):=Rows.blameAuthorsRow.laid.filter fun x=>x.2.handleName?.isNone
noncomputable def Bc(os:Os):World:=(World.doorLaid Tryz.prog 55 os).layVars Tryz.prog ml
theorem FU(os:Os)(args:Array Value):laidMet Tryz.prog ml ((Bc os).forCall (fun _ _=>0) ⟨#[],args,[]⟩).memory:=by
  have e1:(ml.filter fun x=>(ml.map (·.1)).contains x.1)=ml:=List.filter_eq_self.2 fun x hx=>List.contains_iff_mem.2 (gn.2 ⟨x,hx,rfl⟩)
  have e2:(ml.filter fun x=>!(ml.map (·.1)).contains x.1)=[]:=List.filter_eq_nil_iff.2 fun x hx=>by rw[List.contains_iff_mem.2 (gn.2 ⟨x,hx,rfl⟩)];simp
  have h:laidMet Tryz.prog ml (Bc os):=laidMet_layVars (w0:=World.doorLaid Tryz.prog 55 os) (ml.map (·.1)) [] (by rw[e1];rfl) (by rw[e1];kernel_rfl) (by rw[e1];kernel_rfl) (by rw[e2];exact LaidIn.none)
  exact h.of_heap (by simp[World.memory,World.forCall,Input.heap])
theorem KL(os:Os)(args:Array Value):laidMetH Tryz.prog Rows.blameAuthorsRow.laid ((Bc os).forCall (fun _ _=>0) ⟨#[],args,[]⟩).memory:=
  laidMetH_of_parts3 (fuel:=8) (FU os args) (by kernel_rfl) (by kernel_rfl)
set_option maxRecDepth 100000 in
theorem KI(os:Os)(started:os.Started)(H:Type)(enc:TypeId×Value->H):
    ReturnsInHanded {} Tryz.checked os 5 .any (fun w args=>(Rows.blameAuthorsSpec.pre enc Tryz.prog Tryz.f5 [] false w args/\laidMetH Tryz.prog Rows.blameAuthorsRow.laid w)/\sizedMet enc Tryz.prog Tryz.f5 (OpenSpec.ofChange Rows.blameAuthorsSpec) false w args)
      (Rows.blameAuthorsSpec.post enc Tryz.prog Tryz.f5 false true false false):=by
  refine returnsInHanded_of_change_and (C:=Tryz.checked) (X:=fun w _=>laidMetH Tryz.prog Rows.blameAuthorsRow.laid w) (fun _ _ _ hh h=>h.of_heap hh) XB started (by kernel_rfl) Tryz.func5
    (ChangeSpec.witness_shaped (enc:=enc) (C:=Tryz.checked) (os:=os) (X:=fun w _=>laidMetH Tryz.prog Rows.blameAuthorsRow.laid w) false (Bc os) #[.agg #[.int .i64 0,.int .i64 0,.int .i64 0],.int .i64 0,.string ⟨#[]⟩,.slice none 0 0] 8 (by unfold Bc;rw[World.layVars_os];rfl)
      (World.shaped_of_ZipB (by kernel_rfl) (by kernel_rfl)) (by kernel_rfl) (by kernel_rfl) (by kernel_rfl) (KL os _)) ?_
  intro W base args ds gs before hval0 hW _ hz hL _
  have hval:∀(j:Nat) t v,Tryz.f5.params[j]?=some t->args[j]?=some v->Value.okWide Tryz.prog W .any base t v:=hval0
  have hz:(DataW.weightsEach Tryz.prog (Tryz.f5.params.toList++Rows.blameAuthorsSpec.plain.varTypes Tryz.prog) (ds++gs)).all (·<=reachBytes)=true:=hz
  have hW':=hW
  obtain⟨p,q,hA0,hV,rfl,_,_⟩:=hW
  have hA:DataW.TrodAll enc Tryz.prog W 0 (fun _=>true) true Tryz.f5.params.toList args.toList ds p:=hA0
  rw[Tryz.params5]at hA hval hz
  obtain⟨v0,v1,v2,v3,d0,d1,d2,d3,p0,p1,p2,p3,rfl,rfl,rfl,h0,h1,h2,h3⟩:=trodAll_four hA
  obtain⟨rfl,rfl⟩:=trodVars_none hV
  obtain⟨x1,rfl,rfl,rfl,_⟩:=open_int Tryz.underlying3 (hval 1 3 v1 rfl rfl) h1
  obtain⟨x2,rfl,rfl,rfl,_⟩:=Go.ChangeMaps.open_string Tryz.underlying9 (hval 2 9 v2 rfl rfl) h2
  have hs3:=Go.WideShapes.okWide_slice Tryz.underlying47 (hval 3 47 v3 rfl rfl)
  obtain⟨fu3,h3⟩:=h3
  have hw3:Wt Tryz.prog 47 d3:=fun m hm=>by
    have:=mw.1 hz m (jl hm 3 rfl rfl)
    simpa using this
  obtain⟨x3,hf3,hl3⟩:=He h3 hw3
  obtain⟨u3,ha3,hb3⟩:=hl3.one
  have hr3:VRel (fun _=>none) (cX W) (.ls (x3.map ae)) v3:=by
    obtain⟨a,len,cap,rfl⟩:=hs3
    have:u3=.slice a len cap:=by simpa[Value.cells]using ha3.symm
    exact this▸hb3
  obtain⟨cs0,rfl,hc0⟩:=Go.WideShapes.okWide_struct Tryz.underlying35 (hval 0 35 v0 rfl rfl)
  obtain⟨fu0,h0⟩:=h0
  have hw0:Wt Tryz.prog 35 d0:=fun m hm=>by
    have:=mw.1 hz m (jl hm 0 rfl rfl)
    simpa using this
  obtain⟨a0,b0,c0,hl0⟩:=WN h0 hw0
  have hl0:VL (cX W) [.int .i64 a0,.int .i64 b0,.int .i64 c0] cs0.toList:=hl0
  have hr0:VRel (fun _=>none) (cX W) (.agg [.int .i64 a0,.int .i64 b0,.int .i64 c0]) (.agg cs0):=by
    refine .agg (by simpa using hl0.len) (fun y hy=>mw.1 (show([.int .i64 a0,.int .i64 b0,.int .i64 c0]:List AV).all cN=true from rfl) y hy) fun j y hj=>?_
    obtain⟨v,e,hv⟩:=hl0.at_ j y hj
    rw[Array.getElem?_toList]at e
    rw[gv,e]
    exact hv
  obtain⟨⟨x2⟩⟩:=x2
  have hv:VRels (fun _=>none) (cX W) [.agg [.int .i64 a0,.int .i64 b0,.int .i64 c0],.int .i64 x1,.str x2,.ls (x3.map ae)] #[.agg cs0,.int .i64 x1,.string ⟨⟨x2⟩⟩,v3]:=⟨rfl,fun j y hj=>by
    match j,hj with
    |0,hj=>simp at hj;subst hj;exact hr0
    |1,hj=>simp at hj;subst hj;exact .int _ _
    |2,hj=>simp at hj;subst hj;exact .str _
    |3,hj=>simp at hj;subst hj;exact hr3
    |j+4,hj=>simp at hj⟩
  refine(U4 Tryz.func5 (by kernel_rfl) rfl (gok hL (bh (i:=3) rfl) (bh (i:=4) rfl) (bh (i:=5) rfl) (bh (i:=6) rfl) (bh (i:=2) rfl)) hv ((Ir ⟨a0,b0,c0⟩ x1 x2 x3 hf3.1 hf3.2 WZ AHeap.none).mono fun _ _ e=>e.1)).mono fun e W' ⟨he,hb⟩=>?_
  exact⟨_,he,Ry (tb:=4) (by kernel_rfl) (by kernel_rfl) rfl rfl (by kernel_rfl) (by kernel_rfl) hW' hb⟩
end Go.Proofs.YtadodlkibeofjaaGreatDoor
