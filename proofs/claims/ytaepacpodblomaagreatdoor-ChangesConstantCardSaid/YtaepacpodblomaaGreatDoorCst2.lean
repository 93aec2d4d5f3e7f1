/- A law of chapter 31, lifted: for every input the law returns true. Conditions: the row's own. -/
import Derived.Test.YtaepacpodblomaaGreatDoorH9
import Derived.Test.YtaepacpodblomaaGreatDoorEvc31
import Derived.Test.YtaepacpodblomaaGreatDoorRdec
import Derived.Test.YtaepacpodblomaaGreatDoorElaid
import Derived.SevenTiedAt
import Derived.Stop.Joined
namespace Go.Proofs.YtaepacpodblomaaGreatDoor
open Go Go.Ev Go.ChangeShapes Go.RowKit

theorem WU:ownKnob Tryz.prog.godebug=none:=by kernel_rfl

/-- What is laid, but for the functions. -/
noncomputable def mq:List (String×DataW Unit):=Rows.changesConstantRow.laid.filter fun x=>x.2.handleName?.isNone
noncomputable def As(os:Os):World:=(World.doorLaid Tryz.prog 40 os).layVars Tryz.prog mq

theorem Ea(os:Os)(args:Array Value):laidMet Tryz.prog mq ((As os).forCall (fun _ _=>0) ⟨#[],args,[]⟩).memory:=by
  have e1:(mq.filter fun x=>(mq.map (·.1)).contains x.1)=mq:=List.filter_eq_self.2 fun x hx=>List.contains_iff_mem.2 (ke.2 ⟨x,hx,rfl⟩)
  have e2:(mq.filter fun x=>!(mq.map (·.1)).contains x.1)=[]:=List.filter_eq_nil_iff.2 fun x hx=>by rw[List.contains_iff_mem.2 (ke.2 ⟨x,hx,rfl⟩)];simp
  have h:laidMet Tryz.prog mq (As os):=laidMet_layVars (w0:=World.doorLaid Tryz.prog 40 os) (mq.map (·.1)) [] (by rw[e1];rfl) (by rw[e1];kernel_rfl) (by rw[e1];kernel_rfl) (by rw[e2];exact LaidIn.none)
  exact h.of_heap (by simp[World.memory,World.forCall,Input.heap])

theorem Jp(os:Os)(args:Array Value):laidMetH Tryz.prog Rows.changesConstantRow.laid ((As os).forCall (fun _ _=>0) ⟨#[],args,[]⟩).memory:=
  laidMetH_of_parts3 (fuel:=8) (Ea os args) (by kernel_rfl) (by kernel_rfl)

set_option maxRecDepth 100000 in
theorem Jo(os:Os)(started:os.Started)(H:Type)(enc:TypeId×Value→H):
    ReturnsInHanded {} Tryz.checked os 4 .any (fun w args=>(Rows.changesConstantSpec.pre enc Tryz.prog Tryz.f4 [] false w args∧laidMetH Tryz.prog Rows.changesConstantRow.laid w)∧sizedMet enc Tryz.prog Tryz.f4 (OpenSpec.ofChange Rows.changesConstantSpec) false w args)
      (Rows.changesConstantSpec.post enc Tryz.prog Tryz.f4 false true false false):=by
  refine returnsInHanded_of_change_and (C:=Tryz.checked) (X:=fun w _=>laidMetH Tryz.prog Rows.changesConstantRow.laid w) (fun _ _ _ hh h=>h.of_heap hh) WU started (by kernel_rfl) Tryz.func4
    (ChangeSpec.witness_shaped (enc:=enc) (C:=Tryz.checked) (os:=os) (X:=fun w _=>laidMetH Tryz.prog Rows.changesConstantRow.laid w) false (As os) #[.int .i64 0,.string ⟨#[]⟩,.slice none 0 0] 8 (by unfold As;rw[World.layVars_os];rfl)
      (World.shaped_of_ZipB (by kernel_rfl) (by kernel_rfl)) (by kernel_rfl) (by kernel_rfl) (by kernel_rfl) (Jp os _)) ?_
  intro W base args ds gs before hval0 hW _ hz hL _
  have hval:∀(j:Nat) t v,Tryz.f4.params[j]?=some t→args[j]?=some v→Value.okWide Tryz.prog W .any base t v:=hval0
  have hz:(DataW.weightsEach Tryz.prog (Tryz.f4.params.toList++Rows.changesConstantSpec.plain.varTypes Tryz.prog) (ds++gs)).all (·≤reachBytes)=true:=hz
  have hW':=hW
  obtain⟨p,q,hA0,hV,rfl,_,_⟩:=hW
  have hA:DataW.TrodAll enc Tryz.prog W 0 (fun _=>true) true Tryz.f4.params.toList args.toList ds p:=hA0
  rw[Tryz.params4]at hA hval hz
  obtain⟨v0,v1,v2,d0,d1,d2,p0,p1,p2,rfl,rfl,rfl,h0,h1,h2⟩:=trodAll_three hA
  obtain⟨rfl,rfl⟩:=trodVars_none hV
  obtain⟨x0,rfl,rfl,rfl,_⟩:=open_int Tryz.underlying3 (hval 0 3 v0 rfl rfl) h0
  obtain⟨x1,rfl,rfl,rfl,_⟩:=Go.ChangeMaps.open_string Tryz.underlying9 (hval 1 9 v1 rfl rfl) h1
  have hs2:=Go.WideShapes.okWide_slice Tryz.underlying22 (hval 2 22 v2 rfl rfl)
  obtain⟨fu2,h2⟩:=h2
  have hw2:Wt Tryz.prog 22 d2:=fun m hm=>by
    have:=l9.1 hz m (lE hm 2 rfl rfl)
    simpa using this
  obtain⟨x2,hl472,hfit2,hl2⟩:=yS af W6 Tryz.underlying22 (by kernel_rfl) (by kernel_rfl) (fun x=>(show(af x).cells.length=4 from rfl).trans Y3.symm) (fun _=>rfl) Jl (fun _ _ _ _ _ h hw=>WR h hw) h2 hw2
  have hf2:po x2:=⟨Nat.lt_trans hl472 (by decide),hfit2⟩
  obtain⟨u2,ha2,hb2⟩:=hl2.one
  have hr2:VRel (fun _=>none) (ce W) (.ls (x2.map af)) v2:=by
    obtain⟨a,len,cap,rfl⟩:=hs2
    have:u2=.slice a len cap:=by simpa[Value.cells]using ha2.symm
    exact this▸hb2
  obtain⟨⟨x1⟩⟩:=x1
  have hv:VRels (fun _=>none) (ce W) [.int .i64 x0,.str x1,.ls (x2.map af)] #[.int .i64 x0,.string ⟨⟨x1⟩⟩,v2]:=⟨rfl,fun j y hj=>by
    match j,hj with
    |0,hj=>simp at hj;subst hj;exact .int _ _
    |1,hj=>simp at hj;subst hj;exact .str _
    |2,hj=>simp at hj;subst hj;exact hr2
    |j+3,hj=>simp at hj⟩
  refine(TT Tryz.func4 (by kernel_rfl) rfl (gok hL (bi (i:=0) rfl) (bi (i:=1) rfl) (bi (i:=2) rfl) (bi (i:=3) rfl)) hv ((Ee x0 x1 x2 hf2 hl472 U7 AHeap.none).mono fun _ _ e=>e.1)).mono fun e W' ⟨he,hb⟩=>?_
  exact⟨_,he,Qa (tb:=4) (by kernel_rfl) (by kernel_rfl) rfl rfl (by kernel_rfl) (by kernel_rfl) hW' hb⟩

end Go.Proofs.YtaepacpodblomaaGreatDoor
