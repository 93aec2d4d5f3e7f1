/- What a row's condition on package-level variables gives the machine; a world that meets it. -/
import Derived.Test.YtadodlkibeofjaaGreatDoorEva
import Derived.Test.YtadodlkibeofjaaGreatDoorRows
import Derived.Test.YtadodlkibeofjaaGreatDoorMach8
import Derived.LaidSub
import Derived.Lay
import Derived.MakeChecks
namespace Go.Proofs.YtadodlkibeofjaaGreatDoor
open Go Go.Ev
theorem P5{α:Type}:∀{l:List α},l.length=2->∃a b,l=[a,b]
  |[a,b],_=>⟨a,b,rfl⟩
  |[],h=>by simp at h
  |[_],h=>by simp at h
  |_::_::_::_,h=>by simp at h
theorem Nm{P:Program}{W:World}{n:String}{g:Nat}{cs:Array Value}(hg:P.globalNamed n=some g)(hv:W.var? P n=some cs):∃t fr,W.heap[g]?=some (.cells cs t fr):=by
  unfold World.var? at hv
  rw[hg]at hv
  simp only[Option.bind_some]at hv
  split at hv
  · rename_i c t fr q;cases hv;exact⟨t,fr,q⟩
  · cases hv
theorem N8{L:List (String×DataW Unit)}{W:World}(h:laidMetH Tryz.prog L W)(m:("pandect/syntax.order",Rows.laid_pandect_syntax_order)∈L):
    To (fun _=>none) (cX W) 0 pe:=by
  obtain⟨g,t,cs,fuel,p,hg,ht,hv,hd⟩:=h.funcs m
  obtain rfl:=Option.some.inj ((show Tryz.prog.globalNamed "pandect/syntax.order" =some 0 by kernel_rfl).symm.trans hg)
  obtain rfl:=Fu ((show(Tryz.prog.globals[0]?).map (·.type)=some 187 by kernel_rfl).symm.trans ht)
  obtain⟨xs,m,_,ex,hl,hx,hel⟩:=DataW.trod_struct Tryz.underlying187 hd
  have hl:cs.toList.length=2:=hl.trans (by kernel_rfl)
  have ex:(DataW.agg [.held [112,97,110,100,101,99,116,47,115,121,110,116,97,120,46,111,114,100,101,114,36,49],.held [112,97,110,100,101,99,116,47,115,121,110,116,97,120,46,111,114,100,101,114,36,50]]:DataW (List UInt8))=.agg (xs.map (·.1)):=(Prod.mk.inj ex).1
  have ex:=DataW.agg.inj ex
  obtain⟨v0,v1,hcs⟩:=P5 hl
  obtain rfl:cs=#[v0,v1]:=Array.toList_inj.1 hcs
  have hlx:xs.length=2:=by have:=congrArg List.length ex;simpa using this.symm
  obtain⟨⟨y0,q0⟩,⟨y1,q1⟩,rfl⟩:=P5 hlx
  simp only[eg,wg,CK,and_true]at ex
  have h0:DataW.trod (funcToken Tryz.prog) Tryz.prog W 0 (fun _=>true) true m 133 (([v0,v1].drop 0).take (Tryz.prog.cellsOf 133))=some (y0,q0):=hel 0 _ rfl
  have h1:DataW.trod (funcToken Tryz.prog) Tryz.prog W 0 (fun _=>true) true m 95 (([v0,v1].drop 1).take (Tryz.prog.cellsOf 95))=some (y1,q1):=hel 1 _ rfl
  have c0:Tryz.prog.cellsOf 133=1:=by kernel_rfl
  have c1:Tryz.prog.cellsOf 95=1:=by kernel_rfl
  rw[c0]at h0
  rw[c1]at h1
  simp only[List.drop_zero,List.drop_succ_cons,List.take_succ_cons,CU]at h0 h1
  obtain⟨rfl,rfl⟩:=ex
  obtain rfl:=func_of_trod (f0:=376) Tryz.underlying133 (by kernel_rfl) h0
  obtain rfl:=func_of_trod (f0:=377) Tryz.underlying95 (by kernel_rfl) h1
  obtain⟨t2,fr,hc⟩:=Nm hg hv
  have fn:∀f:Nat,VRel (fun _=>none) (cX W) (.func (.func f) [] []) (.func (.func f) #[] #[]):=fun f=>.func rfl rfl (fun j y h=>by simp at h) (fun j y h=>by simp at h)
  refine Hb hc ⟨rfl,fun j y hj=>?_⟩ (fun y hy=>?_) (by decide)
  · match j,hj with
    |0,hj=>simp[pe,AV.cells]at hj;subst hj;exact fn _
    |1,hj=>simp[pe,AV.cells]at hj;subst hj;exact fn _
    |j+2,hj=>simp[pe,AV.cells]at hj
  · simp[pe,AV.cells]at hy
    rcases hy with rfl|rfl<;>rfl
theorem gok{L:List (String×DataW Unit)}{W:World}(h:laidMetH Tryz.prog L W)(m1:("unicode/utf8.acceptRanges",Rows.laid_unicode_utf8_acceptRanges)∈L)(m2:("pandect/unit.names",Rows.laid_pandect_unit_names)∈L)
    (m3:("pandect/unit.below",Rows.laid_pandect_unit_below)∈L)(m4:("pandect/syntax.order",Rows.laid_pandect_syntax_order)∈L)(m5:("internal/strconv.uint64pow10",Rows.laid_internal_strconv_uint64pow10)∈L):pE G (fun _=>none) (cX W):=by
  have hp:=(laidMetH_iff.1 h).1
  refine Hy fun p hp'=>?_
  simp only[gl,dO,List.mem_nil_iff,or_false]at hp'
  rcases hp' with rfl|rfl|rfl|rfl|rfl
  · exact uo 9 hp (tf.2 ⟨m1,by kernel_rfl⟩) (by kernel_rfl) (t:=377) (by kernel_rfl) (xs:=MF.cells) (by kernel_rfl) (ag:=true) rfl rfl
  · exact uo 9 hp (tf.2 ⟨m2,by kernel_rfl⟩) (by kernel_rfl) (t:=384) (by kernel_rfl) (xs:=R4.cells) (by kernel_rfl) (ag:=true) rfl rfl
  · exact uo 9 hp (tf.2 ⟨m3,by kernel_rfl⟩) (by kernel_rfl) (t:=324) (by kernel_rfl) (xs:=R6.cells) (by kernel_rfl) (ag:=true) rfl rfl
  · exact N8 h m4
  · exact uo 9 hp (tf.2 ⟨m5,by kernel_rfl⟩) (by kernel_rfl) (t:=315) (by kernel_rfl) (xs:=Z0.cells) (by kernel_rfl) (ag:=true) rfl rfl
end Go.Proofs.YtadodlkibeofjaaGreatDoor
