/- A law of chapter 36, lifted: for every input the law returns true. Conditions: the row's own. -/
import Derived.Test.YtaepacpodblomaaGreatDoorH8
import Derived.Test.YtaepacpodblomaaGreatDoorEvc36
import Derived.Test.YtaepacpodblomaaGreatDoorRdec
import Derived.Test.YtaepacpodblomaaGreatDoorElaid
import Derived.SevenTiedAt
import Derived.Stop.Joined
import Derived.Deep.DeepHandedRow
namespace Go.Proofs.YtaepacpodblomaaGreatDoor
open Go Go.Ev Go.ChangeShapes Go.RowKit

theorem V8:ownKnob Tryz.prog.godebug=none:=by kernel_rfl

theorem Dw{H:Type}{enc:TypeId×Value→H}{P:Program}{w:World}{base:Nat}{spare:Nat→Bool}{held:Bool}{t0 t1 t2 t3 t4:TypeId}{args:Array Value}{ds:List (DataW H)}{ps:List MemPlace}(h:DataW.TrodAll enc P w base spare held [t0,t1,t2,t3,t4] args.toList ds ps):
    ∃v0 v1 v2 v3 v4 d0 d1 d2 d3 d4 p0 p1 p2 p3 p4,args=#[v0,v1,v2,v3,v4]∧ds=[d0,d1,d2,d3,d4]∧ps=p0++p1++p2++p3++p4∧DataW.Trod enc P w base spare held t0 v0 d0 p0∧DataW.Trod enc P w base spare held t1 v1 d1 p1∧DataW.Trod enc P w base spare held t2 v2 d2 p2∧DataW.Trod enc P w base spare held t3 v3 d3 p3∧DataW.Trod enc P w base spare held t4 v4 d4 p4:=by
  obtain⟨v0,_,d0,_,p0,_,hargs,rfl,rfl,h0,r0⟩:=trodAll_cons h
  obtain⟨v1,_,d1,_,p1,_,rfl,rfl,rfl,h1,r1⟩:=trodAll_cons r0
  obtain⟨v2,_,d2,_,p2,_,rfl,rfl,rfl,h2,r2⟩:=trodAll_cons r1
  obtain⟨v3,_,d3,_,p3,_,rfl,rfl,rfl,h3,r3⟩:=trodAll_cons r2
  obtain⟨v4,_,d4,_,p4,_,rfl,rfl,rfl,h4,r4⟩:=trodAll_cons r3
  obtain⟨rfl,rfl,rfl⟩:=trodAll_nil r4
  exact⟨v0,v1,v2,v3,v4,d0,d1,d2,d3,d4,p0,p1,p2,p3,p4,by cases args;simp_all,rfl,by simp,h0,h1,h2,h3,h4⟩

/-- What is laid, but for the functions. -/
noncomputable def mZ:List (String×DataW Unit):=Rows.bitemporalStableUptoRow.laid.filter fun x=>x.2.handleName?.isNone
noncomputable def vj(os:Os):World:=(World.doorLaid Tryz.prog 40 os).layVars Tryz.prog mZ

theorem Db(os:Os)(args:Array Value):laidMet Tryz.prog mZ ((vj os).forCall (fun _ _=>0) ⟨#[],args,[]⟩).memory:=by
  have e1:(mZ.filter fun x=>(mZ.map (·.1)).contains x.1)=mZ:=List.filter_eq_self.2 fun x hx=>List.contains_iff_mem.2 (ka.2 ⟨x,hx,rfl⟩)
  have e2:(mZ.filter fun x=>!(mZ.map (·.1)).contains x.1)=[]:=List.filter_eq_nil_iff.2 fun x hx=>by rw[List.contains_iff_mem.2 (ka.2 ⟨x,hx,rfl⟩)];simp
  have h:laidMet Tryz.prog mZ (vj os):=laidMet_layVars (w0:=World.doorLaid Tryz.prog 40 os) (mZ.map (·.1)) [] (by rw[e1];rfl) (by rw[e1];kernel_rfl) (by rw[e1];kernel_rfl) (by rw[e2];exact LaidIn.none)
  exact h.of_heap (by simp[World.memory,World.forCall,Input.heap])

theorem IW(os:Os)(args:Array Value):laidMetH Tryz.prog Rows.bitemporalStableUptoRow.laid ((vj os).forCall (fun _ _=>0) ⟨#[],args,[]⟩).memory:=
  laidMetH_of_parts3 (fuel:=8) (Db os args) (by kernel_rfl) (by kernel_rfl)

/-- What is laid as a list is as long as the data say. -/
theorem F6{H:Type}{enc:TypeId×Value→H}{w:World}{base:Nat}{spare:Nat→Bool}{held:Bool}{fuel:Nat}{t e:TypeId}{cs:List Value}{d:DataW H}{p:List MemPlace}{xs:List AV}(hu:Tryz.prog.underlying t=some (.slice e))(h:DataW.trod enc Tryz.prog w base spare held fuel t cs=some (d,p))(hv:VL (cK w) [.ls xs] cs):xs.length≤Rows.uptoBulk d:=by
  have all:∀l:List (DataW H),l.length≤Rows.uptoBulkAll l:=fun l=>by
    induction l with
    |nil=>simp[Rows.uptoBulkAll]
    | cons x r ih=>
      have:1≤Rows.uptoBulk x:=by
        cases x with
        |lit l=>cases l<;>simp[Rows.uptoBulk]
        |_=>simp[Rows.uptoBulk]
      simp only[Rows.uptoBulkAll,cN];omega
  obtain⟨v,e1,e2⟩:=hv.one
  have hn:∀a n c,v=.slice a n c→xs.length=n:=fun a n c q=>by
    subst q
    cases e2 with
    |lsn=>rfl
    |lsp h1 _=>cases h1;rfl
  rcases DataW.trod_slice hu h with⟨rfl,q⟩|⟨a,len,cap,elems,rest,n,rfl,rfl,h1,h2,h3,h4,h5,h6,_,_⟩
  · cases e2 with
    |lsn=>exact bM _
    |lsp h1 _=>cases h1;simp at e1
  · simp only[rL]at h1
    obtain⟨rfl,_⟩:=h1
    simp only[ye,and_true]at e1
    have z:=hn _ _ _ e1.symm
    have z2:=all (elems.map (·.1))
    rw[bG]at z2
    simp only[Rows.uptoBulk]
    omega
theorem yn{H:Type}{enc:TypeId×Value→H}{C:Checked}{os:Os}{f:FuncId}{fn:Func}{s:OpenSpec}{conds:List PathCond}{apart:Bool}{laid:List (String×DataW Unit)}(w0:World)(args:Array Value)(hos:w0.os=os)
    (hsh:(w0.forCall (fun _ _=>0) ⟨#[],args,[]⟩).Shaped C.prog)(hok:Input.okWideB C.prog (w0.forCall (fun _ _=>0) ⟨#[],args,[]⟩) f ⟨#[],args,[]⟩=true)
    (hrow:s.preRow enc C.prog fn conds apart laid (w0.forCall (fun _ _=>0) ⟨#[],args,[]⟩).memory args):
    ∃ (w:World)(tape:Tape)(i:Input),w.os=os∧(w.forCall tape i).Shaped C.prog∧i.vars=[]∧Input.okWide C.prog (w.forCall tape i) .any w.heap.size f i∧
      s.preRow enc C.prog fn conds apart laid (w.forCall tape i).memory i.args∧({}:Assume).holds C.prog (lone (Frame.enter C.prog f i.args .normal) [] (w.forCall tape i)):=
  ⟨w0,fun _ _=>0,⟨#[],args,[]⟩,hos,hsh,(Input.okWide_of_okWideB (base:=0) hok).1,(Input.okWide_of_okWideB hok).2,hrow,by
    simp only[Assume.holds]
    exact⟨by simp,by simp,by simp,by simp,by simp⟩⟩
theorem L3(os:Os){H:Type}(enc:TypeId×Value→H):∃x places,DataW.whole enc Tryz.prog ((vj os).forCall (fun _ _=>0) ⟨#[],#[.slice none 0 0,.slice none 0 0,.int .i64 0,.int .i64 0,.string ⟨#[]⟩],[]⟩).memory Tryz.f5.params.toList Rows.bitemporalStableSpec.vars false (#[.slice none 0 0,.slice none 0 0,.int .i64 0,.int .i64 0,.string ⟨#[]⟩]:Array Value).toList 8=some (x,[],places)∧Rows.uptoBulkAll x=5:=
  ⟨[.nil,.nil,.lit (.int .i64 0),.lit (.int .i64 0),.lit (.string [])],[],by kernel_rfl,by kernel_rfl⟩
set_option maxRecDepth 100000 in
theorem IX(os:Os)(started:os.Started)(H:Type)(enc:TypeId×Value→H)(F:Stop.Interp):
    ReturnsInHanded {} Tryz.checked os 5 .any ((Rows.OpenSpec.upto Rows.bitemporalStableSpec).preRow enc Tryz.prog Tryz.f5 Rows.bitemporalStableUptoRow.domain false Rows.bitemporalStableUptoRow.laid) (((Rows.OpenSpec.upto Rows.bitemporalStableSpec).at F).post enc Tryz.prog Tryz.f5 false true false false):=by
  obtain⟨x,places,hx,hb⟩:=L3 os enc
  refine returnsInHanded_of_row (C:=Tryz.checked) (s:=Rows.OpenSpec.upto Rows.bitemporalStableSpec) V8 started (by kernel_rfl) Tryz.func5
    (yn (vj os) #[.slice none 0 0,.slice none 0 0,.int .i64 0,.int .i64 0,.string ⟨#[]⟩] (by unfold vj;rw[World.layVars_os];rfl) (World.shaped_of_ZipB (by kernel_rfl) (by kernel_rfl)) (by kernel_rfl)
      (OpenSpec.preRow_of_cond 8 hx (by kernel_rfl) (fun k hk=>by cases hk;exact decide_eq_true (by rw[dC,hb];decide)) (by kernel_rfl) (IW os _))) ?_
  intro W base args ds gs before hval0 hW _ hcond hz hL _ _
  have hval:∀(j:Nat) t v,Tryz.f5.params[j]?=some t→args[j]?=some v→Value.okWide Tryz.prog W .any base t v:=hval0
  have hz:(DataW.weightsEach Tryz.prog (Tryz.f5.params.toList++Rows.bitemporalStableSpec.plain.varTypes Tryz.prog) (ds++gs)).all (·≤reachBytes)=true:=hz
  have hW':=hW
  obtain⟨p,q,hA0,hV,rfl,_,_⟩:=hW
  have hA:DataW.TrodAll enc Tryz.prog W 0 (fun _=>true) true Tryz.f5.params.toList args.toList ds p:=hA0
  rw[Tryz.params5]at hA hval hz
  obtain⟨v0,v1,v2,v3,v4,d0,d1,d2,d3,d4,p0,p1,p2,p3,p4,rfl,rfl,rfl,h0,h1,h2,h3,h4⟩:=Dw hA
  obtain⟨rfl,rfl⟩:=trodVars_none hV
  obtain⟨x2,rfl,rfl,rfl,_⟩:=open_int Tryz.underlying3 (hval 2 3 v2 rfl rfl) h2
  obtain⟨x3,rfl,rfl,rfl,_⟩:=open_int Tryz.underlying3 (hval 3 3 v3 rfl rfl) h3
  obtain⟨x4,rfl,rfl,rfl,_⟩:=Go.ChangeMaps.open_string Tryz.underlying9 (hval 4 9 v4 rfl rfl) h4
  have hcap:=of_decide_eq_true (hcond _ rfl)
  have hs0:=Go.WideShapes.okWide_slice Tryz.underlying22 (hval 0 22 v0 rfl rfl)
  obtain⟨fu0,h0⟩:=h0
  have hw0:Wt Tryz.prog 22 d0:=fun m hm=>by
    have:=md.1 hz m (je hm 0 rfl rfl)
    simpa using this
  obtain⟨x0,hf0,hl0⟩:=wS h0 hw0
  have hk0:=F6 Tryz.underlying22 h0 hl0
  obtain⟨u0,ha0,hb0⟩:=hl0.one
  have hr0:VRel (fun _=>none) (cK W) (.ls (x0.map aK)) v0:=by
    obtain⟨a,len,cap,rfl⟩:=hs0
    have:u0=.slice a len cap:=by simpa[Value.cells]using ha0.symm
    exact this▸hb0
  have hs1:=Go.WideShapes.okWide_slice Tryz.underlying22 (hval 1 22 v1 rfl rfl)
  obtain⟨fu1,h1⟩:=h1
  have hw1:Wt Tryz.prog 22 d1:=fun m hm=>by
    have:=md.1 hz m (je hm 1 rfl rfl)
    simpa using this
  obtain⟨x1,hf1,hl1⟩:=wS h1 hw1
  have hk1:=F6 Tryz.underlying22 h1 hl1
  obtain⟨u1,ha1,hb1⟩:=hl1.one
  have hr1:VRel (fun _=>none) (cK W) (.ls (x1.map aK)) v1:=by
    obtain⟨a,len,cap,rfl⟩:=hs1
    have:u1=.slice a len cap:=by simpa[Value.cells]using ha1.symm
    exact this▸hb1
  obtain⟨⟨x4⟩⟩:=x4
  have hv:VRels (fun _=>none) (cK W) [.ls (x0.map aK),.ls (x1.map aK),.int .i64 x2,.int .i64 x3,.str x4] #[v0,v1,.int .i64 x2,.int .i64 x3,.string ⟨⟨x4⟩⟩]:=⟨rfl,fun j y hj=>by
    match j,hj with
    |0,hj=>simp at hj;subst hj;exact hr0
    |1,hj=>simp at hj;subst hj;exact hr1
    |2,hj=>simp at hj;subst hj;exact .int _ _
    |3,hj=>simp at hj;subst hj;exact .int _ _
    |4,hj=>simp at hj;subst hj;exact .str _
    |j+5,hj=>simp at hj⟩
  refine(Tu Tryz.func5 (by kernel_rfl) rfl (gok hL (bi (i:=0) rfl) (bi (i:=1) rfl) (bi (i:=2) rfl) (bi (i:=3) rfl)) hv ((IZ x0 x1 x2 x3 x4 hf0 hf1 (by simp only[Rows.uptoBulkAll,wx,ph,bG]at hcap hk0 hk1;omega) UI AHeap.none).mono fun _ _ e=>e.1)).mono fun e W' ⟨he,hb⟩=>?_
  exact⟨_,he,QK (tb:=4) (by kernel_rfl) (by kernel_rfl) rfl rfl (by kernel_rfl) (by kernel_rfl) hW' hb⟩

end Go.Proofs.YtaepacpodblomaaGreatDoor
