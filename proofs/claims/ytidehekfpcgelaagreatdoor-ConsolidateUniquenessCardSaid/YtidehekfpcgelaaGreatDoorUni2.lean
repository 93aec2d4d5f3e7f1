/- A law of chapter 30, lifted: for every input the law returns true. Conditions: the row's own. -/
import Derived.Test.YtidehekfpcgelaaGreatDoorH8
import Derived.Test.YtidehekfpcgelaaGreatDoorEvc30
import Derived.Test.YtidehekfpcgelaaGreatDoorRdec
import Derived.Test.YtidehekfpcgelaaGreatDoorElaid
import Derived.SevenTiedAt
import Derived.Stop.Joined
namespace Go.Proofs.YtidehekfpcgelaaGreatDoor
open Go Go.Ev Go.ChangeShapes Go.RowKit

theorem XE:ownKnob Tryz.prog.godebug=none:=by kernel_rfl

/-- What is laid, but for the functions. -/
noncomputable def ml:List (String×DataW Unit):=Rows.consolidateUniquenessRow.laid.filter fun x=>x.2.handleName?.isNone
noncomputable def y6(os:Os):World:=(World.doorLaid Tryz.prog 40 os).layVars Tryz.prog ml

theorem DH(os:Os)(args:Array Value):laidMet Tryz.prog ml ((y6 os).forCall (fun _ _=>0) ⟨#[],args,[]⟩).memory:=by
  have e1:(ml.filter fun x=>(ml.map (·.1)).contains x.1)=ml:=List.filter_eq_self.2 fun x hx=>List.contains_iff_mem.2 (fE.2 ⟨x,hx,rfl⟩)
  have e2:(ml.filter fun x=>!(ml.map (·.1)).contains x.1)=[]:=List.filter_eq_nil_iff.2 fun x hx=>by rw[List.contains_iff_mem.2 (fE.2 ⟨x,hx,rfl⟩)];simp
  have h:laidMet Tryz.prog ml (y6 os):=laidMet_layVars (w0:=World.doorLaid Tryz.prog 40 os) (ml.map (·.1)) [] (by rw[e1];rfl) (by rw[e1];kernel_rfl) (by rw[e1];kernel_rfl) (by rw[e2];exact LaidIn.none)
  exact h.of_heap (by simp[World.memory,World.forCall,Input.heap])

theorem IM(os:Os)(args:Array Value):laidMetH Tryz.prog Rows.consolidateUniquenessRow.laid ((y6 os).forCall (fun _ _=>0) ⟨#[],args,[]⟩).memory:=
  laidMetH_of_parts3 (fuel:=8) (DH os args) (by kernel_rfl) (by kernel_rfl)

set_option maxRecDepth 100000 in
theorem IL(os:Os)(started:os.Started)(H:Type)(enc:TypeId×Value→H):
    ReturnsInHanded {} Tryz.checked os 4 .any (fun w args=>(Rows.consolidateUniquenessSpec.pre enc Tryz.prog Tryz.f4 [] false w args∧laidMetH Tryz.prog Rows.consolidateUniquenessRow.laid w)∧sizedMet enc Tryz.prog Tryz.f4 (OpenSpec.ofChange Rows.consolidateUniquenessSpec) false w args)
      (Rows.consolidateUniquenessSpec.post enc Tryz.prog Tryz.f4 false true false false):=by
  refine returnsInHanded_of_change_and (C:=Tryz.checked) (X:=fun w _=>laidMetH Tryz.prog Rows.consolidateUniquenessRow.laid w) (fun _ _ _ hh h=>h.of_heap hh) XE started (by kernel_rfl) Tryz.func4
    (ChangeSpec.witness_shaped (enc:=enc) (C:=Tryz.checked) (os:=os) (X:=fun w _=>laidMetH Tryz.prog Rows.consolidateUniquenessRow.laid w) false (y6 os) #[.int .i64 0,.string ⟨#[]⟩,.slice none 0 0] 8 (by unfold y6;rw[World.layVars_os];rfl)
      (World.shaped_of_ZipB (by kernel_rfl) (by kernel_rfl)) (by kernel_rfl) (by kernel_rfl) (by kernel_rfl) (IM os _)) ?_
  intro W base args ds gs before hval0 hW _ hz hL _
  have hval:∀(j:Nat) t v,Tryz.f4.params[j]?=some t→args[j]?=some v→Value.okWide Tryz.prog W .any base t v:=hval0
  have hz:(DataW.weightsEach Tryz.prog (Tryz.f4.params.toList++Rows.consolidateUniquenessSpec.plain.varTypes Tryz.prog) (ds++gs)).all (·≤reachBytes)=true:=hz
  have hW':=hW
  obtain⟨p,q,hA0,hV,rfl,_,_⟩:=hW
  have hA:DataW.TrodAll enc Tryz.prog W 0 (fun _=>true) true Tryz.f4.params.toList args.toList ds p:=hA0
  rw[Tryz.params4]at hA hval hz
  obtain⟨v0,v1,v2,d0,d1,d2,p0,p1,p2,rfl,rfl,rfl,h0,h1,h2⟩:=trodAll_three hA
  obtain⟨rfl,rfl⟩:=trodVars_none hV
  obtain⟨x,rfl,rfl,rfl,_⟩:=open_int Tryz.underlying3 (hval 0 3 v0 rfl rfl) h0
  obtain⟨s,rfl,rfl,rfl,_⟩:=Go.ChangeMaps.open_string Tryz.underlying9 (hval 1 9 v1 rfl rfl) h1
  have h2v:=Go.WideShapes.okWide_slice Tryz.underlying22 (hval 2 22 v2 rfl rfl)
  obtain⟨fuel,h2⟩:=h2
  have hw2:Wt Tryz.prog 22 d2:=fun m hm=>by
    have:=kO.1 hz m (mw hm 2 rfl rfl)
    simpa using this
  obtain⟨l,hfit,hvl⟩:=Hy h2 hw2
  obtain⟨v,hv1,hv2⟩:=hvl.one
  have hv3:VRel (fun _=>none) (cb W) (.ls (l.map bZ)) v2:=by
    obtain⟨a,len,cap,rfl⟩:=h2v
    have:v=.slice a len cap:=by simpa[Value.cells]using hv1.symm
    exact this▸hv2
  obtain⟨⟨s⟩⟩:=s
  have hv:VRels (fun _=>none) (cb W) [.int .i64 x,.str s,.ls (l.map bZ)] #[.int .i64 x,.string ⟨⟨s⟩⟩,v2]:=⟨rfl,fun j y hj=>by
    match j,hj with
    |0,hj=>simp at hj;subst hj;exact .int _ _
    |1,hj=>simp at hj;subst hj;exact .str _
    |2,hj=>simp at hj;subst hj;exact hv3
    |j+3,hj=>simp at hj⟩
  refine(VU Tryz.func4 (by kernel_rfl) rfl (gok hL (.head _) (.tail _ (.head _)) (.tail _ (.tail _ (.head _))) (.tail _ (.tail _ (.tail _ (.head _))))) hv ((yT x s l hfit Ww AHeap.none).mono fun _ _ e=>e.1)).mono fun e W' ⟨he,hb⟩=>?_
  exact⟨_,he,Rk (tb:=4) (by kernel_rfl) (by kernel_rfl) rfl rfl (by kernel_rfl) (by kernel_rfl) hW' hb⟩

end Go.Proofs.YtidehekfpcgelaaGreatDoor
