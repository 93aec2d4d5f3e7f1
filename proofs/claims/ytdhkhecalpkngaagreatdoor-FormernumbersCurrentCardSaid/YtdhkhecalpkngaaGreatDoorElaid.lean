/- What a row's condition on package-level variables gives the machine; a world that meets it. -/
import Derived.Test.YtdhkhecalpkngaaGreatDoorEva
import Derived.Test.YtdhkhecalpkngaaGreatDoorRows
import Derived.Test.YtdhkhecalpkngaaGreatDoorMach8
import Derived.LaidSub
import Derived.Lay
import Derived.MakeChecks
namespace Go.Proofs.YtdhkhecalpkngaaGreatDoor
open Go Go.Ev
theorem PO{α:Type}:∀{l:List α},l.length=2->∃a b,l=[a,b]
  |[a,b],_=>⟨a,b,rfl⟩
  |[],h=>by simp at h
  |[_],h=>by simp at h
  |_::_::_::_,h=>by simp at h
theorem NB{P:Program}{W:World}{n:String}{g:Nat}{cs:Array Value}(hg:P.globalNamed n=some g)(hv:W.var? P n=some cs):∃t fr,W.heap[g]?=some (.cells cs t fr):=by
  unfold World.var? at hv
  rw[hg]at hv
  simp only[Option.bind_some]at hv
  split at hv
  · rename_i c t fr q;cases hv;exact⟨t,fr,q⟩
  · cases hv
theorem OK{L:List (String×DataW Unit)}{W:World}(h:laidMetH Tryz.prog L W)(m:("pandect/syntax.order",Rows.laid_pandect_syntax_order)∈L):
    TM (fun _=>none) (cG W) 0 pP:=by
  obtain⟨g,t,cs,fuel,p,hg,ht,hv,hd⟩:=h.funcs m
  obtain rfl:=Option.some.inj ((show Tryz.prog.globalNamed "pandect/syntax.order" =some 0 by kernel_rfl).symm.trans hg)
  obtain rfl:=Lq ((show(Tryz.prog.globals[0]?).map (·.type)=some 203 by kernel_rfl).symm.trans ht)
  obtain⟨xs,m,_,ex,hl,hx,hel⟩:=DataW.trod_struct Tryz.underlying203 hd
  have hl:cs.toList.length=2:=hl.trans (by kernel_rfl)
  have ex:(DataW.agg [.held [112,97,110,100,101,99,116,47,115,121,110,116,97,120,46,111,114,100,101,114,36,49],.held [112,97,110,100,101,99,116,47,115,121,110,116,97,120,46,111,114,100,101,114,36,50]]:DataW (List UInt8))=.agg (xs.map (·.1)):=(Prod.mk.inj ex).1
  have ex:=DataW.agg.inj ex
  obtain⟨v0,v1,hcs⟩:=PO hl
  obtain rfl:cs=#[v0,v1]:=Array.toList_inj.1 hcs
  have hlx:xs.length=2:=by have:=congrArg List.length ex;simpa using this.symm
  obtain⟨⟨y0,q0⟩,⟨y1,q1⟩,rfl⟩:=PO hlx
  simp only[eg,zX,Ci,and_true]at ex
  have h0:DataW.trod (funcToken Tryz.prog) Tryz.prog W 0 (fun _=>true) true m 201 (([v0,v1].drop 0).take (Tryz.prog.cellsOf 201))=some (y0,q0):=hel 0 _ rfl
  have h1:DataW.trod (funcToken Tryz.prog) Tryz.prog W 0 (fun _=>true) true m 126 (([v0,v1].drop 1).take (Tryz.prog.cellsOf 126))=some (y1,q1):=hel 1 _ rfl
  have c0:Tryz.prog.cellsOf 201=1:=by kernel_rfl
  have c1:Tryz.prog.cellsOf 126=1:=by kernel_rfl
  rw[c0]at h0
  rw[c1]at h1
  simp only[List.drop_zero,List.drop_succ_cons,List.take_succ_cons,List.take_zero]at h0 h1
  obtain⟨rfl,rfl⟩:=ex
  obtain rfl:=func_of_trod (f0:=383) Tryz.underlying201 (by kernel_rfl) h0
  obtain rfl:=func_of_trod (f0:=384) Tryz.underlying126 (by kernel_rfl) h1
  obtain⟨t2,fr,hc⟩:=NB hg hv
  have fn:∀f:Nat,VRel (fun _=>none) (cG W) (.func (.func f) [] []) (.func (.func f) #[] #[]):=fun f=>.func rfl rfl (fun j y h=>by simp at h) (fun j y h=>by simp at h)
  refine HH hc ⟨rfl,fun j y hj=>?_⟩ (fun y hy=>?_) (by decide)
  · match j,hj with
    |0,hj=>simp[pP,AV.cells]at hj;subst hj;exact fn _
    |1,hj=>simp[pP,AV.cells]at hj;subst hj;exact fn _
    |j+2,hj=>simp[pP,AV.cells]at hj
  · simp[pP,AV.cells]at hy
    rcases hy with rfl|rfl<;>rfl
theorem gok{L:List (String×DataW Unit)}{W:World}(h:laidMetH Tryz.prog L W)(m1:("unicode/utf8.acceptRanges",Rows.laid_unicode_utf8_acceptRanges)∈L)(m2:("pandect/unit.names",Rows.laid_pandect_unit_names)∈L)
    (m3:("pandect/unit.below",Rows.laid_pandect_unit_below)∈L)(m4:("pandect/syntax.order",Rows.laid_pandect_syntax_order)∈L):qr G (fun _=>none) (cG W):=by
  have hp:=(laidMetH_iff.1 h).1
  refine HF fun p hp'=>?_
  simp only[gl,dP,List.mem_nil_iff,or_false]at hp'
  rcases hp' with rfl|rfl|rfl|rfl
  · exact AD 9 hp (zW.2 ⟨m1,by kernel_rfl⟩) (by kernel_rfl) (t:=377) (by kernel_rfl) (xs:=M6.cells) (by kernel_rfl) (ag:=true) rfl rfl
  · exact AD 9 hp (zW.2 ⟨m2,by kernel_rfl⟩) (by kernel_rfl) (t:=132) (by kernel_rfl) (xs:=R7.cells) (by kernel_rfl) (ag:=true) rfl rfl
  · exact AD 9 hp (zW.2 ⟨m3,by kernel_rfl⟩) (by kernel_rfl) (t:=338) (by kernel_rfl) (xs:=R9.cells) (by kernel_rfl) (ag:=true) rfl rfl
  · exact OK h m4
end Go.Proofs.YtdhkhecalpkngaaGreatDoor
