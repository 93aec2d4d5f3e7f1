/- A law of chapter 33, lifted: for every input the law returns true. Conditions: the row's own. -/
import Derived.Test.YtjokefckffbpeaaGreatDoorH9
import Derived.Test.YtjokefckffbpeaaGreatDoorEvc33
import Derived.Test.YtjokefckffbpeaaGreatDoorRdec
import Derived.Test.YtjokefckffbpeaaGreatDoorElaid
import Derived.SevenTiedAt
import Derived.Stop.Joined
namespace Go.Proofs.YtjokefckffbpeaaGreatDoor
open Go Go.Ev Go.ChangeShapes Go.RowKit

theorem V9:ownKnob Tryz.prog.godebug=none:=by kernel_rfl

/-- What is laid, but for the functions. -/
noncomputable def mc:List (String×DataW Unit):=Rows.historyDisjointRow.laid.filter fun x=>x.2.handleName?.isNone
noncomputable def Al(os:Os):World:=(World.doorLaid Tryz.prog 40 os).layVars Tryz.prog mc

theorem EK(os:Os)(args:Array Value):laidMet Tryz.prog mc ((Al os).forCall (fun _ _=>0) ⟨#[],args,[]⟩).memory:=by
  have e1:(mc.filter fun x=>(mc.map (·.1)).contains x.1)=mc:=List.filter_eq_self.2 fun x hx=>List.contains_iff_mem.2 (j9.2 ⟨x,hx,rfl⟩)
  have e2:(mc.filter fun x=>!(mc.map (·.1)).contains x.1)=[]:=List.filter_eq_nil_iff.2 fun x hx=>by rw[List.contains_iff_mem.2 (j9.2 ⟨x,hx,rfl⟩)];simp
  have h:laidMet Tryz.prog mc (Al os):=laidMet_layVars (w0:=World.doorLaid Tryz.prog 40 os) (mc.map (·.1)) [] (by rw[e1];rfl) (by rw[e1];kernel_rfl) (by rw[e1];kernel_rfl) (by rw[e2];exact LaidIn.none)
  exact h.of_heap (by simp[World.memory,World.forCall,Input.heap])

theorem Jv(os:Os)(args:Array Value):laidMetH Tryz.prog Rows.historyDisjointRow.laid ((Al os).forCall (fun _ _=>0) ⟨#[],args,[]⟩).memory:=
  laidMetH_of_parts3 (fuel:=8) (EK os args) (by kernel_rfl) (by kernel_rfl)

set_option maxRecDepth 100000 in
theorem Jw(os:Os)(started:os.Started)(H:Type)(enc:TypeId×Value→H):
    ReturnsInHanded {} Tryz.checked os 3 .any (fun w args=>(Rows.historyDisjointSpec.pre enc Tryz.prog Tryz.f3 [] false w args∧laidMetH Tryz.prog Rows.historyDisjointRow.laid w)∧sizedMet enc Tryz.prog Tryz.f3 (OpenSpec.ofChange Rows.historyDisjointSpec) false w args)
      (Rows.historyDisjointSpec.post enc Tryz.prog Tryz.f3 false true false false):=by
  refine returnsInHanded_of_change_and (C:=Tryz.checked) (X:=fun w _=>laidMetH Tryz.prog Rows.historyDisjointRow.laid w) (fun _ _ _ hh h=>h.of_heap hh) V9 started (by kernel_rfl) Tryz.func3
    (ChangeSpec.witness_shaped (enc:=enc) (C:=Tryz.checked) (os:=os) (X:=fun w _=>laidMetH Tryz.prog Rows.historyDisjointRow.laid w) false (Al os) #[.slice none 0 0,.agg #[.int .i64 0,.int .i64 0,.int .i64 0],.string ⟨#[]⟩,.int .i64 0] 8 (by unfold Al;rw[World.layVars_os];rfl)
      (World.shaped_of_ZipB (by kernel_rfl) (by kernel_rfl)) (by kernel_rfl) (by kernel_rfl) (by kernel_rfl) (Jv os _)) ?_
  intro W base args ds gs before hval0 hW _ hz hL _
  have hval:∀(j:Nat) t v,Tryz.f3.params[j]?=some t→args[j]?=some v→Value.okWide Tryz.prog W .any base t v:=hval0
  have hz:(DataW.weightsEach Tryz.prog (Tryz.f3.params.toList++Rows.historyDisjointSpec.plain.varTypes Tryz.prog) (ds++gs)).all (·≤reachBytes)=true:=hz
  have hW':=hW
  obtain⟨p,q,Z7,hV,rfl,_,_⟩:=hW
  have hA:DataW.TrodAll enc Tryz.prog W 0 (fun _=>true) true Tryz.f3.params.toList args.toList ds p:=Z7
  rw[Tryz.params3]at hA hval hz
  obtain⟨v0,v1,v2,v3,d0,d1,d2,d3,p0,p1,p2,p3,rfl,rfl,rfl,h0,h1,h2,h3⟩:=trodAll_four hA
  obtain⟨rfl,rfl⟩:=trodVars_none hV
  obtain⟨x2,rfl,rfl,rfl,_⟩:=Go.ChangeMaps.open_string Tryz.underlying9 (hval 2 9 v2 rfl rfl) h2
  obtain⟨x3,rfl,rfl,rfl,_⟩:=open_int Tryz.underlying3 (hval 3 3 v3 rfl rfl) h3
  have hs0:=Go.WideShapes.okWide_slice Tryz.underlying22 (hval 0 22 v0 rfl rfl)
  obtain⟨fu0,h0⟩:=h0
  have hw0:Wt Tryz.prog 22 d0:=fun m hm=>by
    have:=mK.1 hz m (js hm 0 rfl rfl)
    simpa using this
  obtain⟨x0,hf0,hl0⟩:=Gr h0 hw0
  obtain⟨u0,ha0,hb0⟩:=hl0.one
  have hr0:VRel (fun _=>none) (cK W) (.ls (x0.map ap)) v0:=by
    obtain⟨a,len,cap,rfl⟩:=hs0
    have:u0=.slice a len cap:=by simpa[Value.cells]using ha0.symm
    exact this▸hb0
  obtain⟨cs1,rfl,hc1⟩:=Go.WideShapes.okWide_struct Tryz.underlying24 (hval 1 24 v1 rfl rfl)
  obtain⟨fu1,h1⟩:=h1
  have hw1:Wt Tryz.prog 24 d1:=fun m hm=>by
    have:=mK.1 hz m (js hm 1 rfl rfl)
    simpa using this
  obtain⟨a1,b1,c1,hl1⟩:=Vh h1 hw1
  have hl1:VL (cK W) [.int .i64 a1,.int .i64 b1,.int .i64 c1] cs1.toList:=hl1
  have hr1:VRel (fun _=>none) (cK W) (.agg [.int .i64 a1,.int .i64 b1,.int .i64 c1]) (.agg cs1):=by
    refine .agg (by simpa using hl1.len) (fun y hy=>mK.1 (show([.int .i64 a1,.int .i64 b1,.int .i64 c1]:List AV).all cL=true from rfl) y hy) fun j y hj=>?_
    obtain⟨v,e,hv⟩:=hl1.at_ j y hj
    rw[Array.getElem?_toList]at e
    rw[gm,e]
    exact hv
  obtain⟨⟨x2⟩⟩:=x2
  have hv:VRels (fun _=>none) (cK W) [.ls (x0.map ap),.agg [.int .i64 a1,.int .i64 b1,.int .i64 c1],.str x2,.int .i64 x3] #[v0,.agg cs1,.string ⟨⟨x2⟩⟩,.int .i64 x3]:=⟨rfl,fun j y hj=>by
    match j,hj with
    |0,hj=>simp at hj;subst hj;exact hr0
    |1,hj=>simp at hj;subst hj;exact hr1
    |2,hj=>simp at hj;subst hj;exact .str _
    |3,hj=>simp at hj;subst hj;exact .int _ _
    |j+4,hj=>simp at hj⟩
  refine(TM Tryz.func3 (by kernel_rfl) rfl (gok hL (bg (i:=0) rfl) (bg (i:=1) rfl) (bg (i:=2) rfl) (bg (i:=3) rfl)) hv ((QC x0 ⟨a1,b1,c1⟩ x2 x3 hf0 UR AHeap.none).mono fun _ _ e=>e.1)).mono fun e W' ⟨he,hb⟩=>?_
  exact⟨_,he,Qx (tb:=4) (by kernel_rfl) (by kernel_rfl) rfl rfl (by kernel_rfl) (by kernel_rfl) hW' hb⟩

end Go.Proofs.YtjokefckffbpeaaGreatDoor
