/- A law of chapter 44, lifted: for every input the law returns true. Conditions: the row's own. -/
import Derived.Test.YtdhkhecalpkngaaGreatDoorH9
import Derived.Test.YtdhkhecalpkngaaGreatDoorEvc44
import Derived.Test.YtdhkhecalpkngaaGreatDoorRdec
import Derived.Test.YtdhkhecalpkngaaGreatDoorRdep
import Derived.Test.YtdhkhecalpkngaaGreatDoorElaid
import Derived.SevenTiedAt
import Derived.Stop.Joined
namespace Go.Proofs.YtdhkhecalpkngaaGreatDoor
open Go Go.Ev Go.ChangeShapes Go.RowKit
theorem Wb:ownKnob Tryz.prog.godebug=none:=by kernel_rfl
theorem Do{H:Type}{enc:TypeId×Value->H}{P:Program}{w:World}{base:Nat}{spare:Nat->Bool}{held:Bool}{t0 t1 t2 t3 t4:TypeId}{args:Array Value}{ds:List (DataW H)}{ps:List MemPlace}(h:DataW.TrodAll enc P w base spare held [t0,t1,t2,t3,t4] args.toList ds ps):
    ∃v0 v1 v2 v3 v4 d0 d1 d2 d3 d4 p0 p1 p2 p3 p4,args=#[v0,v1,v2,v3,v4]/\ds=[d0,d1,d2,d3,d4]/\ps=p0++p1++p2++p3++p4/\DataW.Trod enc P w base spare held t0 v0 d0 p0/\DataW.Trod enc P w base spare held t1 v1 d1 p1/\DataW.Trod enc P w base spare held t2 v2 d2 p2/\DataW.Trod enc P w base spare held t3 v3 d3 p3/\DataW.Trod enc P w base spare held t4 v4 d4 p4:=by
  obtain⟨v0,_,d0,_,p0,_,hargs,rfl,rfl,h0,r0⟩:=trodAll_cons h
  obtain⟨v1,_,d1,_,p1,_,rfl,rfl,rfl,h1,r1⟩:=trodAll_cons r0
  obtain⟨v2,_,d2,_,p2,_,rfl,rfl,rfl,h2,r2⟩:=trodAll_cons r1
  obtain⟨v3,_,d3,_,p3,_,rfl,rfl,rfl,h3,r3⟩:=trodAll_cons r2
  obtain⟨v4,_,d4,_,p4,_,rfl,rfl,rfl,h4,r4⟩:=trodAll_cons r3
  obtain⟨rfl,rfl,rfl⟩:=trodAll_nil r4
  exact⟨v0,v1,v2,v3,v4,d0,d1,d2,d3,d4,p0,p1,p2,p3,p4,by cases args;simp_all,rfl,by simp,h0,h1,h2,h3,h4⟩
noncomputable def mo:List (String×DataW Unit):=Rows.formernumbersBeforeRow.laid.filter fun x=>x.2.handleName?.isNone
noncomputable def AR(os:Os):World:=(World.doorLaid Tryz.prog 55 os).layVars Tryz.prog mo
theorem EF(os:Os)(args:Array Value):laidMet Tryz.prog mo ((AR os).forCall (fun _ _=>0) ⟨#[],args,[]⟩).memory:=by
  have e1:(mo.filter fun x=>(mo.map (·.1)).contains x.1)=mo:=List.filter_eq_self.2 fun x hx=>List.contains_iff_mem.2 (jf.2 ⟨x,hx,rfl⟩)
  have e2:(mo.filter fun x=>!(mo.map (·.1)).contains x.1)=[]:=List.filter_eq_nil_iff.2 fun x hx=>by rw[List.contains_iff_mem.2 (jf.2 ⟨x,hx,rfl⟩)];simp
  have h:laidMet Tryz.prog mo (AR os):=laidMet_layVars (w0:=World.doorLaid Tryz.prog 55 os) (mo.map (·.1)) [] (by rw[e1];rfl) (by rw[e1];kernel_rfl) (by rw[e1];kernel_rfl) (by rw[e2];exact LaidIn.none)
  exact h.of_heap (by simp[World.memory,World.forCall,Input.heap])
theorem JB(os:Os)(args:Array Value):laidMetH Tryz.prog Rows.formernumbersBeforeRow.laid ((AR os).forCall (fun _ _=>0) ⟨#[],args,[]⟩).memory:=
  laidMetH_of_parts3 (fuel:=8) (EF os args) (by kernel_rfl) (by kernel_rfl)
set_option maxRecDepth 100000 in
theorem JA(os:Os)(started:os.Started)(H:Type)(enc:TypeId×Value->H):
    ReturnsInHanded {} Tryz.checked os 4 .any (fun w args=>(Rows.formernumbersBeforeSpec.pre enc Tryz.prog Tryz.f4 [] false w args/\laidMetH Tryz.prog Rows.formernumbersBeforeRow.laid w)/\sizedMet enc Tryz.prog Tryz.f4 (OpenSpec.ofChange Rows.formernumbersBeforeSpec) false w args)
      (Rows.formernumbersBeforeSpec.post enc Tryz.prog Tryz.f4 false true false false):=by
  refine returnsInHanded_of_change_and (C:=Tryz.checked) (X:=fun w _=>laidMetH Tryz.prog Rows.formernumbersBeforeRow.laid w) (fun _ _ _ hh h=>h.of_heap hh) Wb started (by kernel_rfl) Tryz.func4
    (ChangeSpec.witness_shaped (enc:=enc) (C:=Tryz.checked) (os:=os) (X:=fun w _=>laidMetH Tryz.prog Rows.formernumbersBeforeRow.laid w) false (AR os) #[.slice none 0 0,.int .i64 0,.string ⟨#[]⟩,.slice none 0 0,.agg #[.int .i64 0,.int .i64 0]] 8 (by unfold AR;rw[World.layVars_os];rfl)
      (World.shaped_of_ZipB (by kernel_rfl) (by kernel_rfl)) (by kernel_rfl) (by kernel_rfl) (by kernel_rfl) (JB os _)) ?_
  intro W base args ds gs before hval0 hW _ hz hL _
  have hval:∀(j:Nat) t v,Tryz.f4.params[j]?=some t->args[j]?=some v->Value.okWide Tryz.prog W .any base t v:=hval0
  have hz:(DataW.weightsEach Tryz.prog (Tryz.f4.params.toList++Rows.formernumbersBeforeSpec.plain.varTypes Tryz.prog) (ds++gs)).all (·<=reachBytes)=true:=hz
  have hW':=hW
  obtain⟨p,q,hA0,hV,rfl,_,_⟩:=hW
  have hA:DataW.TrodAll enc Tryz.prog W 0 (fun _=>true) true Tryz.f4.params.toList args.toList ds p:=hA0
  rw[Tryz.params4]at hA hval hz
  obtain⟨v0,v1,v2,v3,v4,d0,d1,d2,d3,d4,p0,p1,p2,p3,p4,rfl,rfl,rfl,h0,h1,h2,h3,h4⟩:=Do hA
  obtain⟨rfl,rfl⟩:=trodVars_none hV
  obtain⟨x1,rfl,rfl,rfl,_⟩:=open_int Tryz.underlying3 (hval 1 3 v1 rfl rfl) h1
  obtain⟨x2,rfl,rfl,rfl,_⟩:=Go.ChangeMaps.open_string Tryz.underlying9 (hval 2 9 v2 rfl rfl) h2
  have hs0:=Go.WideShapes.okWide_slice Tryz.underlying22 (hval 0 22 v0 rfl rfl)
  obtain⟨fu0,h0⟩:=h0
  have hw0:Wt Tryz.prog 22 d0:=fun m hm=>by
    have:=kI.1 hz m (gK hm 0 rfl rfl)
    simpa using this
  obtain⟨x0,hf0,hl0⟩:=G6 h0 hw0
  obtain⟨u0,ha0,hb0⟩:=hl0.one
  have hr0:VRel (fun _=>none) (b0 W) (.ls (x0.map am)) v0:=by
    obtain⟨a,len,cap,rfl⟩:=hs0
    have:u0=.slice a len cap:=by simpa[Value.cells]using ha0.symm
    exact this▸hb0
  have hs3:=Go.WideShapes.okWide_slice Tryz.underlying34 (hval 3 34 v3 rfl rfl)
  obtain⟨fu3,h3⟩:=h3
  have hw3:Wt Tryz.prog 34 d3:=fun m hm=>by
    have:=kI.1 hz m (gK hm 3 rfl rfl)
    simpa using this
  obtain⟨x3,hp3,hq3,hl3⟩:=Ih h3 hw3
  obtain⟨u3,ha3,hb3⟩:=hl3.one
  have hr3:VRel (fun _=>none) (b0 W) (.ls (x3.map aY)) v3:=by
    obtain⟨a,len,cap,rfl⟩:=hs3
    have:u3=.slice a len cap:=by simpa[Value.cells]using ha3.symm
    exact this▸hb3
  obtain⟨cs4,rfl,hc4⟩:=Go.WideShapes.okWide_struct Tryz.underlying43 (hval 4 43 v4 rfl rfl)
  obtain⟨fu4,h4⟩:=h4
  have hw4:Wt Tryz.prog 43 d4:=fun m hm=>by
    have:=kI.1 hz m (gK hm 4 rfl rfl)
    simpa using this
  obtain⟨a4,b4,hl4⟩:=Ww h4 hw4
  have hl4:VL (b0 W) [.int .i64 a4,.int .i64 b4] cs4.toList:=hl4
  have hr4:VRel (fun _=>none) (b0 W) (.agg [.int .i64 a4,.int .i64 b4]) (.agg cs4):=by
    refine .agg (by simpa using hl4.len) (fun y hy=>kI.1 (show([.int .i64 a4,.int .i64 b4]:List AV).all cE=true from rfl) y hy) fun j y hj=>?_
    obtain⟨v,e,hv⟩:=hl4.at_ j y hj
    rw[Array.getElem?_toList]at e
    rw[gr,e]
    exact hv
  obtain⟨⟨x2⟩⟩:=x2
  have hS2:x2.length<2^47:=by
    have hwS:Wt Tryz.prog 9 (.lit (.string x2):DataW H):=fun m hm=>by
      have:=kI.1 hz m (gK hm 2 rfl rfl)
      simpa using this
    exact nl (hwS x2.length (by simp[DataW.weights])) (by decide)
  have hv:VRels (fun _=>none) (b0 W) [.ls (x0.map am),.int .i64 x1,.str x2,.ls (x3.map aY),.agg [.int .i64 a4,.int .i64 b4]] #[v0,.int .i64 x1,.string ⟨⟨x2⟩⟩,v3,.agg cs4]:=⟨rfl,fun j y hj=>by
    match j,hj with
    |0,hj=>simp at hj;subst hj;exact hr0
    |1,hj=>simp at hj;subst hj;exact .int _ _
    |2,hj=>simp at hj;subst hj;exact .str _
    |3,hj=>simp at hj;subst hj;exact hr3
    |4,hj=>simp at hj;subst hj;exact hr4
    |j+5,hj=>simp at hj⟩
  refine(UQ Tryz.func4 (by kernel_rfl) rfl (gok hL (bm (i:=0) rfl) (bm (i:=1) rfl) (bm (i:=2) rfl) (bm (i:=3) rfl)) hv ((JC x0 x1 x2 x3 a4 b4 hf0 hS2 hp3 hq3 VX AHeap.none).mono fun _ _ e=>e.1)).mono fun e W' ⟨he,hb⟩=>?_
  exact⟨_,he,Qj (tb:=4) (by kernel_rfl) (by kernel_rfl) rfl rfl (by kernel_rfl) (by kernel_rfl) hW' hb⟩
end Go.Proofs.YtdhkhecalpkngaaGreatDoor
