/- The law of acts that conflict, lifted: for every input the law returns true. Conditions: the row's own. -/
import Derived.Test.YtefibmgdgameaaaGreatDoorH8
import Derived.Test.YtefibmgdgameaaaGreatDoorEvc37
import Derived.Test.YtefibmgdgameaaaGreatDoorRdec
import Derived.Test.YtefibmgdgameaaaGreatDoorElaidk
import Derived.SevenTiedAt
import Derived.Stop.Joined
namespace Go.Proofs.YtefibmgdgameaaaGreatDoor
open Go Go.Ev Go.ChangeShapes Go.RowKit

theorem U1:ownKnob Tryz.prog.godebug=none:=by kernel_rfl

/-- What is laid, but for the functions. -/
noncomputable def lY:List (String × DataW Unit):=Rows.conflictSymmetricRow.laid.filter fun x=>x.2.handleName?.isNone
noncomputable def zd (os:Os):World:=(World.doorLaid Tryz.prog 55 os).layVars Tryz.prog lY

theorem Dj (os:Os) (args:Array Value):laidMet Tryz.prog lY ((zd os).forCall (fun _ _=>0) ⟨#[],args, []⟩).memory:=by
  have e1:(lY.filter fun x=>(lY.map (·.1)).contains x.1)=lY:=List.filter_eq_self.2 fun x hx=>List.contains_iff_mem.2 (ky.2 ⟨x,hx,rfl⟩)
  have e2:(lY.filter fun x=>!(lY.map (·.1)).contains x.1) = []:=List.filter_eq_nil_iff.2 fun x hx=>by rw [List.contains_iff_mem.2 (ky.2 ⟨x,hx,rfl⟩)];simp
  have h:laidMet Tryz.prog lY (zd os):=laidMet_layVars (w0:=World.doorLaid Tryz.prog 55 os) (lY.map (·.1)) [] (by rw [e1];rfl) (by rw [e1];kernel_rfl) (by rw [e1];kernel_rfl) (by rw [e2];exact LaidIn.none)
  exact h.of_heap (by simp [World.memory,World.forCall,Input.heap])

theorem IB (os:Os) (args:Array Value):laidMetH Tryz.prog Rows.conflictSymmetricRow.laid ((zd os).forCall (fun _ _=>0) ⟨#[],args, []⟩).memory:=
  laidMetH_of_parts3 (fuel:=8) (Dj os args) (by kernel_rfl) (by kernel_rfl)

set_option maxRecDepth 100000 in
theorem IA (os:Os) (started:os.Started) (H:Type) (enc:TypeId × Value→H) :
    ReturnsInHanded {} Tryz.checked os 3 .any (fun w args=>(Rows.conflictSymmetricSpec.pre enc Tryz.prog Tryz.f3 [] false w args∧laidMetH Tryz.prog Rows.conflictSymmetricRow.laid w)∧sizedMet enc Tryz.prog Tryz.f3 (OpenSpec.ofChange Rows.conflictSymmetricSpec) false w args)
      (Rows.conflictSymmetricSpec.post enc Tryz.prog Tryz.f3 false true false false):=by
  refine returnsInHanded_of_change_and (C:=Tryz.checked) (X:=fun w _=>laidMetH Tryz.prog Rows.conflictSymmetricRow.laid w) (fun _ _ _ hh h=>h.of_heap hh) U1 started (by kernel_rfl) Tryz.func3
    (ChangeSpec.witness_shaped (enc:=enc) (C:=Tryz.checked) (os:=os) (X:=fun w _=>laidMetH Tryz.prog Rows.conflictSymmetricRow.laid w) false (zd os) #[.agg #[.int .i64 0, .int .i64 0, .int .i64 0, .int .i64 0, .string ⟨#[]⟩, .slice none 0 0, .slice none 0 0, .slice none 0 0], .slice none 0 0, .int .i64 0, .int .i64 0] 8 (by unfold zd;rw [World.layVars_os];rfl)
      (World.shaped_of_ZipB (by kernel_rfl) (by kernel_rfl)) (by kernel_rfl) (by kernel_rfl) (by kernel_rfl) (IB os _)) ?_
  intro W base args ds gs before hval0 hW _ hz hL _
  have hval : ∀ (j:Nat) t v,Tryz.f3.params[j]? = some t→args[j]? = some v→Value.okWide Tryz.prog W .any base t v:=hval0
  have hz:(DataW.weightsEach Tryz.prog (Tryz.f3.params.toList++Rows.conflictSymmetricSpec.plain.varTypes Tryz.prog) (ds++gs)).all (·≤reachBytes)=true:=hz
  have hW':=hW
  obtain ⟨p,q,Yt,hV,rfl,_,_⟩:=hW
  have hA:DataW.TrodAll enc Tryz.prog W 0 (fun _=>true) true Tryz.f3.params.toList args.toList ds p:=Yt
  rw [Tryz.params3] at hA hval hz
  obtain ⟨v0,v1,v2,v3,d0,d1,d2,d3,p0,p1,p2,p3,rfl,rfl,rfl,h0,h1,h2,h3⟩:=trodAll_four hA
  obtain ⟨rfl,rfl⟩:=trodVars_none hV
  obtain ⟨x,rfl,rfl,rfl,_⟩:=open_int Tryz.underlying3 (hval 2 3 v2 rfl rfl) h2
  obtain ⟨y,rfl,rfl,rfl,_⟩:=open_int Tryz.underlying3 (hval 3 3 v3 rfl rfl) h3
  obtain ⟨cs,rfl,hcs⟩:=Go.WideShapes.okWide_struct Tryz.underlying27 (hval 0 27 v0 rfl rfl)
  obtain ⟨fuel,h0⟩:=h0
  have hw0:Wt Tryz.prog 27 d0:=fun m hm=>by
    have:=jp.1 hz m (jU hm 0 rfl rfl)
    simpa using this
  obtain ⟨u,hfit,hvl⟩:=Jb fuel h0 hw0
  have hvl:VL (cp W) (cU u) cs.toList:=hvl
  have hv3:VRel (fun _=>none) (cp W) (eU u) (.agg cs):=by
    refine .agg (by simpa using hvl.len) (fun y hy=>jp.1 (show (cU u).all cM=true from rfl) y hy) fun j y hj=>?_
    obtain ⟨v,e,hv⟩:=hvl.at_ j y hj
    rw [Array.getElem?_toList] at e
    rw [gV,e]
    exact hv
  have hw1:Wt Tryz.prog 28 d1:=fun m hm=>by
    have:=jp.1 hz m (jU hm 1 rfl rfl)
    simpa using this
  obtain ⟨fuel1,h1⟩:=h1
  obtain ⟨l,hl,hla,hvl1⟩:=T8 h1 hw1
  obtain ⟨v',hv1,hv2⟩:=hvl1.one
  have hva:VRel (fun _=>none) (cp W) (.ls (l.map au)) v1:=by
    obtain ⟨a,len,cap,rfl⟩:=Go.WideShapes.okWide_slice Tryz.underlying28 (hval 1 28 v1 rfl rfl)
    have:v' = .slice a len cap:=by simpa [Value.cells] using hv1.symm
    exact this ▸ hv2
  have hv:VRels (fun _=>none) (cp W) [eU u, .ls (l.map au), .int .i64 x, .int .i64 y] #[.agg cs,v1, .int .i64 x, .int .i64 y]:=⟨rfl,fun j y hj=>by
    match j,hj with
    | 0,hj=>simp at hj;subst hj;exact hv3
    | 1,hj=>simp at hj;subst hj;exact hva
    | 2,hj=>simp at hj;subst hj;exact .int _ _
    | 3,hj=>simp at hj;subst hj;exact .int _ _
    | j+4,hj=>simp at hj⟩
  refine (SL Tryz.func3 (by kernel_rfl) rfl (Y9 hL (bD (i:=3) rfl) (bD (i:=4) rfl) (bD (i:=5) rfl) (bD (i:=6) rfl) (bD (i:=2) rfl)) hv ((TE u l x y hfit ⟨hl,hla⟩ TN AHeap.none).mono fun _ _ e=>e.1)).mono fun e W' ⟨he,hb⟩=>?_
  exact ⟨_,he,Pj (tb:=4) (by kernel_rfl) (by kernel_rfl) rfl rfl (by kernel_rfl) (by kernel_rfl) hW' hb⟩

end Go.Proofs.YtefibmgdgameaaaGreatDoor
