/- A law of chapter 35, lifted: for every input the law returns true. Conditions: the row's own. -/
import Derived.Test.YtiodnhiainjfgaaGreatDoorH8
import Derived.Test.YtiodnhiainjfgaaGreatDoorEvc35
import Derived.Test.YtiodnhiainjfgaaGreatDoorRdec
import Derived.Test.YtiodnhiainjfgaaGreatDoorElaid
import Derived.SevenTiedAt
import Derived.Stop.Joined
namespace Go.Proofs.YtiodnhiainjfgaaGreatDoor
open Go Go.Ev Go.ChangeShapes Go.RowKit

theorem VX:ownKnob Tryz.prog.godebug=none:=by kernel_rfl

/-- What is laid, but for the functions. -/
noncomputable def lF:List (String×DataW Unit):=Rows.effectPartitionRow.laid.filter fun x=>x.2.handleName?.isNone
noncomputable def yu(os:Os):World:=(World.doorLaid Tryz.prog 60 os).layVars Tryz.prog lF

theorem C5(os:Os)(args:Array Value):laidMet Tryz.prog lF ((yu os).forCall (fun _ _=>0) ⟨#[],args,[]⟩).memory:=by
  have e1:(lF.filter fun x=>(lF.map (·.1)).contains x.1)=lF:=List.filter_eq_self.2 fun x hx=>List.contains_iff_mem.2 (jg.2 ⟨x,hx,rfl⟩)
  have e2:(lF.filter fun x=>!(lF.map (·.1)).contains x.1)=[]:=List.filter_eq_nil_iff.2 fun x hx=>by rw[List.contains_iff_mem.2 (jg.2 ⟨x,hx,rfl⟩)];simp
  have h:laidMet Tryz.prog lF (yu os):=laidMet_layVars (w0:=World.doorLaid Tryz.prog 60 os) (lF.map (·.1)) [] (by rw[e1];rfl) (by rw[e1];kernel_rfl) (by rw[e1];kernel_rfl) (by rw[e2];exact LaidIn.none)
  exact h.of_heap (by simp[World.memory,World.forCall,Input.heap])

theorem HH(os:Os)(args:Array Value):laidMetH Tryz.prog Rows.effectPartitionRow.laid ((yu os).forCall (fun _ _=>0) ⟨#[],args,[]⟩).memory:=
  laidMetH_of_parts3 (fuel:=8) (C5 os args) (by kernel_rfl) (by kernel_rfl)

set_option maxRecDepth 100000 in
theorem HF(os:Os)(started:os.Started)(H:Type)(enc:TypeId×Value→H):
    ReturnsInHanded {} Tryz.checked os 5 .any (fun w args=>(Rows.effectPartitionSpec.pre enc Tryz.prog Tryz.f5 [] false w args∧laidMetH Tryz.prog Rows.effectPartitionRow.laid w)∧sizedMet enc Tryz.prog Tryz.f5 (OpenSpec.ofChange Rows.effectPartitionSpec) false w args)
      (Rows.effectPartitionSpec.post enc Tryz.prog Tryz.f5 false true false false):=by
  refine returnsInHanded_of_change_and (C:=Tryz.checked) (X:=fun w _=>laidMetH Tryz.prog Rows.effectPartitionRow.laid w) (fun _ _ _ hh h=>h.of_heap hh) VX started (by kernel_rfl) Tryz.func5
    (ChangeSpec.witness_shaped (enc:=enc) (C:=Tryz.checked) (os:=os) (X:=fun w _=>laidMetH Tryz.prog Rows.effectPartitionRow.laid w) false (yu os) #[.int .i64 0,.int .i64 0,.string ⟨#[]⟩,.slice none 0 0] 8 (by unfold yu;rw[World.layVars_os];rfl)
      (World.shaped_of_ZipB (by kernel_rfl) (by kernel_rfl)) (by kernel_rfl) (by kernel_rfl) (by kernel_rfl) (HH os _)) ?_
  intro W base args ds gs before hval0 hW _ hz hL _
  have hval:∀(j:Nat) t v,Tryz.f5.params[j]?=some t→args[j]?=some v→Value.okWide Tryz.prog W .any base t v:=hval0
  have hz:(DataW.weightsEach Tryz.prog (Tryz.f5.params.toList++Rows.effectPartitionSpec.plain.varTypes Tryz.prog) (ds++gs)).all (·≤reachBytes)=true:=hz
  have hW':=hW
  obtain⟨p,q,ZJ,hV,rfl,_,_⟩:=hW
  have hA:DataW.TrodAll enc Tryz.prog W 0 (fun _=>true) true Tryz.f5.params.toList args.toList ds p:=ZJ
  rw[Tryz.params5]at hA hval hz
  obtain⟨v0,v1,v2,v3,d0,d1,d2,d3,p0,p1,p2,p3,rfl,rfl,rfl,h0,h1,h2,h3⟩:=trodAll_four hA
  obtain⟨rfl,rfl⟩:=trodVars_none hV
  obtain⟨x0,rfl,rfl,rfl,_⟩:=open_int Tryz.underlying3 (hval 0 3 v0 rfl rfl) h0
  obtain⟨x1,rfl,rfl,rfl,_⟩:=open_int Tryz.underlying3 (hval 1 3 v1 rfl rfl) h1
  obtain⟨x2,rfl,rfl,rfl,_⟩:=Go.ChangeMaps.open_string Tryz.underlying9 (hval 2 9 v2 rfl rfl) h2
  have hs3:=Go.WideShapes.okWide_slice Tryz.underlying22 (hval 3 22 v3 rfl rfl)
  obtain⟨fu3,h3⟩:=h3
  have hw3:Wt Tryz.prog 22 d3:=fun m hm=>by
    have:=lp.1 hz m (lw hm 3 rfl rfl)
    simpa using this
  obtain⟨x3,hl473,hfit3,hl3⟩:=yw aB V2 Tryz.underlying22 (by kernel_rfl) (by kernel_rfl) (fun x=>(show(aB x).cells.length=4 from rfl).trans X9.symm) (fun _=>rfl) Ip (fun _ _ _ _ _ h hw=>VP h hw) h3 hw3
  have hf3:pj x3:=⟨Nat.lt_trans hl473 (by decide),hfit3⟩
  obtain⟨u3,ha3,hb3⟩:=hl3.one
  have hr3:VRel (fun _=>none) (cK W) (.ls (x3.map aB)) v3:=by
    obtain⟨a,len,cap,rfl⟩:=hs3
    have:u3=.slice a len cap:=by simpa[Value.cells]using ha3.symm
    exact this▸hb3
  obtain⟨⟨x2⟩⟩:=x2
  have hv:VRels (fun _=>none) (cK W) [.int .i64 x0,.int .i64 x1,.str x2,.ls (x3.map aB)] #[.int .i64 x0,.int .i64 x1,.string ⟨⟨x2⟩⟩,v3]:=⟨rfl,fun j y hj=>by
    match j,hj with
    |0,hj=>simp at hj;subst hj;exact .int _ _
    |1,hj=>simp at hj;subst hj;exact .int _ _
    |2,hj=>simp at hj;subst hj;exact .str _
    |3,hj=>simp at hj;subst hj;exact hr3
    |j+4,hj=>simp at hj⟩
  refine(SN Tryz.func5 (by kernel_rfl) rfl (Zl hL (bb (i:=3) rfl) (bb (i:=4) rfl) (bb (i:=5) rfl) (bb (i:=7) rfl) (bb (i:=6) rfl)) hv ((Au x0 x1 x2 x3 hf3 hl473 T2 AHeap.none).mono fun _ _ e=>e.1)).mono fun e W' ⟨he,hb⟩=>?_
  exact⟨_,he,Pk (tb:=4) (by kernel_rfl) (by kernel_rfl) rfl rfl (by kernel_rfl) (by kernel_rfl) hW' hb⟩

end Go.Proofs.YtiodnhiainjfgaaGreatDoor
