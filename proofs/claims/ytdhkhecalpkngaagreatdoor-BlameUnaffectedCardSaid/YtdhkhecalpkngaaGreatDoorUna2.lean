/- A law of chapter 34, lifted: for every input the law returns true. Conditions: the row's own. -/
import Derived.Test.YtdhkhecalpkngaaGreatDoorH8
import Derived.Test.YtdhkhecalpkngaaGreatDoorEvc34
import Derived.Test.YtdhkhecalpkngaaGreatDoorRdec
import Derived.Test.YtdhkhecalpkngaaGreatDoorElaid
import Derived.SevenTiedAt
import Derived.Stop.Joined
namespace Go.Proofs.YtdhkhecalpkngaaGreatDoor
open Go Go.Ev Go.ChangeShapes Go.RowKit
theorem WA:ownKnob Tryz.prog.godebug=none:=by kernel_rfl
noncomputable def mw:List (String×DataW Unit):=Rows.blameUnaffectedRow.laid.filter fun x=>x.2.handleName?.isNone
noncomputable def yB(os:Os):World:=(World.doorLaid Tryz.prog 55 os).layVars Tryz.prog mw
theorem Di(os:Os)(args:Array Value):laidMet Tryz.prog mw ((yB os).forCall (fun _ _=>0) ⟨#[],args,[]⟩).memory:=by
  have e1:(mw.filter fun x=>(mw.map (·.1)).contains x.1)=mw:=List.filter_eq_self.2 fun x hx=>List.contains_iff_mem.2 (iS.2 ⟨x,hx,rfl⟩)
  have e2:(mw.filter fun x=>!(mw.map (·.1)).contains x.1)=[]:=List.filter_eq_nil_iff.2 fun x hx=>by rw[List.contains_iff_mem.2 (iS.2 ⟨x,hx,rfl⟩)];simp
  have h:laidMet Tryz.prog mw (yB os):=laidMet_layVars (w0:=World.doorLaid Tryz.prog 55 os) (mw.map (·.1)) [] (by rw[e1];rfl) (by rw[e1];kernel_rfl) (by rw[e1];kernel_rfl) (by rw[e2];exact LaidIn.none)
  exact h.of_heap (by simp[World.memory,World.forCall,Input.heap])
theorem Il(os:Os)(args:Array Value):laidMetH Tryz.prog Rows.blameUnaffectedRow.laid ((yB os).forCall (fun _ _=>0) ⟨#[],args,[]⟩).memory:=
  laidMetH_of_parts3 (fuel:=8) (Di os args) (by kernel_rfl) (by kernel_rfl)
set_option maxRecDepth 100000 in
theorem Ii(os:Os)(started:os.Started)(H:Type)(enc:TypeId×Value->H):
    ReturnsInHanded {} Tryz.checked os 5 .any (fun w args=>(Rows.blameUnaffectedSpec.pre enc Tryz.prog Tryz.f5 [] false w args/\laidMetH Tryz.prog Rows.blameUnaffectedRow.laid w)/\sizedMet enc Tryz.prog Tryz.f5 (OpenSpec.ofChange Rows.blameUnaffectedSpec) false w args)
      (Rows.blameUnaffectedSpec.post enc Tryz.prog Tryz.f5 false true false false):=by
  refine returnsInHanded_of_change_and (C:=Tryz.checked) (X:=fun w _=>laidMetH Tryz.prog Rows.blameUnaffectedRow.laid w) (fun _ _ _ hh h=>h.of_heap hh) WA started (by kernel_rfl) Tryz.func5
    (ChangeSpec.witness_shaped (enc:=enc) (C:=Tryz.checked) (os:=os) (X:=fun w _=>laidMetH Tryz.prog Rows.blameUnaffectedRow.laid w) false (yB os) #[.agg #[.int .i64 0,.int .i64 0,.int .i64 0],.int .i64 0,.string ⟨#[]⟩,.slice none 0 0] 8 (by unfold yB;rw[World.layVars_os];rfl)
      (World.shaped_of_ZipB (by kernel_rfl) (by kernel_rfl)) (by kernel_rfl) (by kernel_rfl) (by kernel_rfl) (Il os _)) ?_
  intro W base args ds gs before hval0 hW _ hz hL _
  have hval:∀(j:Nat) t v,Tryz.f5.params[j]?=some t->args[j]?=some v->Value.okWide Tryz.prog W .any base t v:=hval0
  have hz:(DataW.weightsEach Tryz.prog (Tryz.f5.params.toList++Rows.blameUnaffectedSpec.plain.varTypes Tryz.prog) (ds++gs)).all (·<=reachBytes)=true:=hz
  have hW':=hW
  obtain⟨p,q,hA0,hV,rfl,_,_⟩:=hW
  have hA:DataW.TrodAll enc Tryz.prog W 0 (fun _=>true) true Tryz.f5.params.toList args.toList ds p:=hA0
  rw[Tryz.params5]at hA hval hz
  obtain⟨v0,v1,v2,v3,d0,d1,d2,d3,p0,p1,p2,p3,rfl,rfl,rfl,h0,h1,h2,h3⟩:=trodAll_four hA
  obtain⟨rfl,rfl⟩:=trodVars_none hV
  obtain⟨x1,rfl,rfl,rfl,_⟩:=open_int Tryz.underlying3 (hval 1 3 v1 rfl rfl) h1
  obtain⟨x2,rfl,rfl,rfl,_⟩:=Go.ChangeMaps.open_string Tryz.underlying9 (hval 2 9 v2 rfl rfl) h2
  have hs3:=Go.WideShapes.okWide_slice Tryz.underlying22 (hval 3 22 v3 rfl rfl)
  obtain⟨fu3,h3⟩:=h3
  have hw3:Wt Tryz.prog 22 d3:=fun m hm=>by
    have:=mq.1 hz m (je hm 3 rfl rfl)
    simpa using this
  obtain⟨x3,hf3,hl3⟩:=G4 h3 hw3
  obtain⟨u3,ha3,hb3⟩:=hl3.one
  have hr3:VRel (fun _=>none) (cJ W) (.ls (x3.map aA)) v3:=by
    obtain⟨a,len,cap,rfl⟩:=hs3
    have:u3=.slice a len cap:=by simpa[Value.cells]using ha3.symm
    exact this▸hb3
  obtain⟨cs0,rfl,hc0⟩:=Go.WideShapes.okWide_struct Tryz.underlying26 (hval 0 26 v0 rfl rfl)
  obtain⟨fu0,h0⟩:=h0
  have hw0:Wt Tryz.prog 26 d0:=fun m hm=>by
    have:=mq.1 hz m (je hm 0 rfl rfl)
    simpa using this
  obtain⟨a0,b0,c0,hl0⟩:=VT h0 hw0
  have hl0:VL (cJ W) [.int .i64 a0,.int .i64 b0,.int .i64 c0] cs0.toList:=hl0
  have hr0:VRel (fun _=>none) (cJ W) (.agg [.int .i64 a0,.int .i64 b0,.int .i64 c0]) (.agg cs0):=by
    refine .agg (by simpa using hl0.len) (fun y hy=>mq.1 (show([.int .i64 a0,.int .i64 b0,.int .i64 c0]:List AV).all cL=true from rfl) y hy) fun j y hj=>?_
    obtain⟨v,e,hv⟩:=hl0.at_ j y hj
    rw[Array.getElem?_toList]at e
    rw[gw,e]
    exact hv
  obtain⟨⟨x2⟩⟩:=x2
  have hv:VRels (fun _=>none) (cJ W) [.agg [.int .i64 a0,.int .i64 b0,.int .i64 c0],.int .i64 x1,.str x2,.ls (x3.map aA)] #[.agg cs0,.int .i64 x1,.string ⟨⟨x2⟩⟩,v3]:=⟨rfl,fun j y hj=>by
    match j,hj with
    |0,hj=>simp at hj;subst hj;exact hr0
    |1,hj=>simp at hj;subst hj;exact .int _ _
    |2,hj=>simp at hj;subst hj;exact .str _
    |3,hj=>simp at hj;subst hj;exact hr3
    |j+4,hj=>simp at hj⟩
  refine(UW Tryz.func5 (by kernel_rfl) rfl (gok hL (bh (i:=3) rfl) (bh (i:=4) rfl) (bh (i:=5) rfl) (bh (i:=6) rfl)) hv ((yA ⟨a0,b0,c0⟩ x1 x2 x3 hf3 VY AHeap.none).mono fun _ _ e=>e.1)).mono fun e W' ⟨he,hb⟩=>?_
  exact⟨_,he,Qp (tb:=4) (by kernel_rfl) (by kernel_rfl) rfl rfl (by kernel_rfl) (by kernel_rfl) hW' hb⟩
end Go.Proofs.YtdhkhecalpkngaaGreatDoor
