/- What a row's condition on package-level variables gives the machine; a world that meets it. -/
import Derived.Test.YtiflidpifinbjaaGreatDoorEva
import Derived.Test.YtiflidpifinbjaaGreatDoorRows
import Derived.Test.YtiflidpifinbjaaGreatDoorMach7
import Derived.LaidSub
import Derived.Lay
import Derived.MakeChecks
namespace Go.Proofs.YtiflidpifinbjaaGreatDoor
open Go Go.Ev
theorem Qp{α:Type}:∀{l:List α},l.length=2->∃a b,l=[a,b]
  |[a,b],_=>⟨a,b,rfl⟩
  |[],h=>by simp at h
  |[_],h=>by simp at h
  |_::_::_::_,h=>by simp at h
theorem Oj{P:Program}{W:World}{n:String}{g:Nat}{cs:Array Value}(hg:P.globalNamed n=some g)(hv:W.var? P n=some cs):∃t fr,W.heap[g]?=some (.cells cs t fr):=by
  unfold World.var? at hv
  rw[hg]at hv
  simp only[Option.bind_some]at hv
  split at hv
  · rename_i c t fr q;cases hv;exact⟨t,fr,q⟩
  · cases hv
theorem OT{L:List (String×DataW Unit)}{W:World}(h:laidMetH Tryz.prog L W)(m:("pandect/syntax.order",Rows.laid_pandect_syntax_order)∈L):
    Uz (λ_=>none) (cF W) 1 pG:=by
  obtain⟨g,t,cs,fuel,p,hg,ht,hv,hd⟩:=h.funcs m
  obtain rfl:=Option.some.inj ((show Tryz.prog.globalNamed "pandect/syntax.order" =some 1 by kernel_rfl).symm.trans hg)
  obtain rfl:=LI ((show(Tryz.prog.globals[1]?).map (·.type)=some 161 by kernel_rfl).symm.trans ht)
  obtain⟨xs,m,_,ex,hl,hx,hel⟩:=DataW.trod_struct Tryz.underlying161 hd
  have hl:cs.toList.length=2:=hl.trans (by kernel_rfl)
  have ex:(DataW.agg [.held [112,97,110,100,101,99,116,47,115,121,110,116,97,120,46,111,114,100,101,114,36,49],.held [112,97,110,100,101,99,116,47,115,121,110,116,97,120,46,111,114,100,101,114,36,50]]:DataW lar)=.agg (xs.map (·.1)):=(Prod.mk.inj ex).1
  have ex:=DataW.agg.inj ex
  obtain⟨v0,v1,hcs⟩:=Qp hl
  obtain rfl:cs=#[v0,v1]:=Array.toList_inj.1 hcs
  have hlx:xs.length=2:=by have:=congrArg List.length ex;simpa using this.symm
  obtain⟨⟨y0,q0⟩,⟨y1,q1⟩,rfl⟩:=Qp hlx
  simp only[eT,xK,CF,and_true]at ex
  have h0:DataW.trod (funcToken Tryz.prog) Tryz.prog W 0 (λ_=>true) true m 159 (([v0,v1].drop 0).take (Tryz.prog.cellsOf 159))=some (y0,q0):=hel 0 _ rfl
  have h1:DataW.trod (funcToken Tryz.prog) Tryz.prog W 0 (λ_=>true) true m 121 (([v0,v1].drop 1).take (Tryz.prog.cellsOf 121))=some (y1,q1):=hel 1 _ rfl
  have c0:Tryz.prog.cellsOf 159=1:=by kernel_rfl
  have c1:Tryz.prog.cellsOf 121=1:=by kernel_rfl
  rw[c0]at h0
  rw[c1]at h1
  simp only[List.drop_zero,List.drop_succ_cons,List.take_succ_cons,List.take_zero]at h0 h1
  obtain⟨rfl,rfl⟩:=ex
  obtain rfl:=func_of_trod (f0:=344) Tryz.underlying159 (by kernel_rfl) h0
  obtain rfl:=func_of_trod (f0:=345) Tryz.underlying121 (by kernel_rfl) h1
  obtain⟨t2,fr,hc⟩:=Oj hg hv
  have fn:∀f:Nat,VRel (λ_=>none) (cF W) (.func (.func f) [] []) (.func (.func f) #[] #[]):=λf=>.func rfl rfl (λj y h=>by simp at h) (λj y h=>by simp at h)
  refine HR hc ⟨rfl,λj y hj=>?_⟩ (λy hy=>?_) (by decide)
  · match j,hj with
    |0,hj=>simp[pG,AV.cells]at hj;subst hj;exact fn _
    |1,hj=>simp[pG,AV.cells]at hj;subst hj;exact fn _
    |j+2,hj=>simp[pG,AV.cells]at hj
  · simp[pG,AV.cells]at hy
    rcases hy with rfl|rfl<;>rfl
theorem gok{L:List (String×DataW Unit)}{W:World}(h:laidMetH Tryz.prog L W)(m1:("unicode/utf8.acceptRanges",Rows.laid_unicode_utf8_acceptRanges)∈L)(m2:("pandect/unit.names",Rows.laid_pandect_unit_names)∈L)
    (m3:("pandect/unit.below",Rows.laid_pandect_unit_below)∈L)(m4:("pandect/syntax.order",Rows.laid_pandect_syntax_order)∈L)(m5:("pandect/syntax.names",Rows.laid_pandect_syntax_names)∈L):qc G (λ_=>none) (cF W):=by
  have hp:=(laidMetH_iff.1 h).1
  refine HO λp hp'=>?_
  simp only[gl,dO,List.mem_nil_iff,or_false]at hp'
  rcases hp' with rfl|rfl|rfl|rfl|rfl
  · exact vW 9 hp (xV.2 ⟨m1,by kernel_rfl⟩) (by kernel_rfl) (t:=340) (by kernel_rfl) (xs:=Nt.cells) (by kernel_rfl) (ag:=true) rfl rfl
  · exact vW 9 hp (xV.2 ⟨m2,by kernel_rfl⟩) (by kernel_rfl) (t:=347) (by kernel_rfl) (xs:=So.cells) (by kernel_rfl) (ag:=true) rfl rfl
  · exact vW 9 hp (xV.2 ⟨m3,by kernel_rfl⟩) (by kernel_rfl) (t:=290) (by kernel_rfl) (xs:=Sr.cells) (by kernel_rfl) (ag:=true) rfl rfl
  · exact OT h m4
  · exact vW 9 hp (xV.2 ⟨m5,by kernel_rfl⟩) (by kernel_rfl) (t:=118) (by kernel_rfl) (xs:=Sp.cells) (by kernel_rfl) (ag:=true) rfl rfl
end Go.Proofs.YtiflidpifinbjaaGreatDoor
