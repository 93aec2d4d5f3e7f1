/- A law's arguments: whatever gazettes are handed in, they are Lean data. -/
import Derived.Test.YtefibmgdgameaaaGreatDoorEva
import Derived.Test.YtefibmgdgameaaaGreatDoorMach7
namespace Go.Proofs.YtefibmgdgameaaaGreatDoor
open Go Go.Ev
section
variable {H : Type} {enc : TypeId × Value → H} {w : World} {base : Nat} {spare : Nat → Bool} {held : Bool} {cs : List Value} {d : DataW H} {p : List MemPlace}
theorem V9:Tryz.prog.cellsOf 121=4:=by kernel_rfl
theorem WZ:Tryz.prog.cellsOf 112=2:=by kernel_rfl
theorem WQ:Tryz.prog.cellsOf 27=8:=by kernel_rfl
theorem Q2:Tryz.prog.cellsOf 59=25:=by kernel_rfl
theorem XF:Tryz.prog.cellsOf 40=7:=by kernel_rfl
theorem XE:Tryz.prog.cellsOf 9=1:=by kernel_rfl
theorem XK {fuel:Nat} (h:DataW.trod enc Tryz.prog w base spare held fuel 23 cs=some (d,p)) (hw:Wt Tryz.prog 23 d) : ∃ a b c,VL (cp w) [.int .i64 a, .int .i64 b, .int .i64 c] cs:=by
  obtain ⟨n,rfl,⟨⟨d0,p0,t0,w0⟩,⟨d1,p1,t1,w1⟩,⟨d2,p2,t2,w2⟩,_⟩,hx⟩:=jc Tryz.underlying23 (by kernel_rfl) h hw
  obtain ⟨a,ha⟩:=iW Tryz.underlying3 t0
  obtain ⟨b,hb⟩:=iW Tryz.underlying3 t1
  obtain ⟨c,hc⟩:=iW Tryz.underlying3 t2
  exact ⟨a,b,c,hx [[_], [_], [_]] ⟨ha,hb,hc,trivial⟩⟩
theorem SE {fuel:Nat} (h:DataW.trod enc Tryz.prog w base spare held fuel 119 cs=some (d,p)) (hw:Wt Tryz.prog 119 d) : ∃ a b c,VL (cp w) [.int .i64 a, .int .i64 b, .int .i64 c] cs:=by
  obtain ⟨n,rfl,⟨⟨d0,p0,t0,w0⟩,⟨d1,p1,t1,w1⟩,⟨d2,p2,t2,w2⟩,_⟩,hx⟩:=jc Tryz.underlying119 (by kernel_rfl) h hw
  obtain ⟨a,ha⟩:=iW Tryz.underlying3 t0
  obtain ⟨b,hb⟩:=iW Tryz.underlying3 t1
  obtain ⟨c,hc⟩:=iW Tryz.underlying3 t2
  exact ⟨a,b,c,hx [[_], [_], [_]] ⟨ha,hb,hc,trivial⟩⟩
theorem Rp {fuel:Nat} (h:DataW.trod enc Tryz.prog w base spare held fuel 121 cs=some (d,p)) (hw:Wt Tryz.prog 121 d) : ∃ x:PWord,True∧VL (cp w) (aQ x).cells cs:=by
  obtain ⟨n,rfl,⟨⟨d0,p0,t0,w0⟩,⟨d1,p1,t1,w1⟩,_⟩,hx⟩:=jc Tryz.underlying121 (by kernel_rfl) h hw
  obtain ⟨s,hs⟩:=ns Tryz.underlying9 t0
  obtain ⟨a,b,c,hm⟩:=SE t1 w1
  exact ⟨⟨s,a,b,c⟩,trivial,hx [[_], [_,_,_]] ⟨hs,hm,trivial⟩⟩
theorem RC {fuel:Nat} (h:DataW.trod enc Tryz.prog w base spare held fuel 112 cs=some (d,p)) (hw:Wt Tryz.prog 112 d) : ∃ x:PStep,True∧VL (cp w) (ak x).cells cs:=by
  obtain ⟨n,rfl,⟨⟨d0,p0,t0,w0⟩,⟨d1,p1,t1,w1⟩,_⟩,hx⟩:=jc Tryz.underlying112 (by kernel_rfl) h hw
  obtain ⟨a,ha⟩:=iW Tryz.underlying3 t0
  obtain ⟨s,hs⟩:=ns Tryz.underlying9 t1
  exact ⟨⟨a,s⟩,trivial,hx [[_], [_]] ⟨ha,hs,trivial⟩⟩
theorem Ek {fuel:Nat} (h:DataW.trod enc Tryz.prog w base spare held fuel 37 cs=some (d,p)) (hw:Wt Tryz.prog 37 d) : ∃ x:PStart,VL (cp w) [.int .i64 x.kind, .int .i64 x.day, .str x.event] cs:=by
  obtain ⟨n,rfl,⟨⟨d0,p0,t0,w0⟩,⟨d1,p1,t1,w1⟩,⟨d2,p2,t2,w2⟩,_⟩,hx⟩:=jc Tryz.underlying37 (by kernel_rfl) h hw
  obtain ⟨a,ha⟩:=iW Tryz.underlying3 t0
  obtain ⟨b,hb⟩:=iW Tryz.underlying3 t1
  obtain ⟨s,hs⟩:=ns Tryz.underlying9 t2
  exact ⟨⟨a,b,s⟩,hx [[_], [_], [_]] ⟨ha,hb,hs,trivial⟩⟩
theorem RB {fuel:Nat} (h:DataW.trod enc Tryz.prog w base spare held fuel 9 cs=some (d,p)) (_:Wt Tryz.prog 9 d) : ∃ x:aP,True∧VL (cp w) (lT x).cells cs:=by
  obtain ⟨s,hs⟩:=ns Tryz.underlying9 h
  exact ⟨s,trivial,hs⟩
theorem DO {fuel:Nat} (h:DataW.trod enc Tryz.prog w base spare held fuel 24 cs=some (d,p)) (hw:Wt Tryz.prog 24 d) : ∃ l:List PWord,l.length<2 ^ 60∧(∀ x,x∈l→True)∧VL (cp w) [.ls (l.map aQ)] cs:=
  lm aQ (fun _=>True) Tryz.underlying24 (by kernel_rfl) (by kernel_rfl) (fun x=>(show (aQ x).cells.length=4 from rfl).trans V9.symm) (fun _=>rfl) iB (fun _ _ _ _ _ h hw=>Rp h hw) h hw
theorem Ej {fuel:Nat} (h:DataW.trod enc Tryz.prog w base spare held fuel 56 cs=some (d,p)) (hw:Wt Tryz.prog 56 d) : ∃ l:List PStep,l.length<2 ^ 60∧(∀ x,x∈l→True)∧VL (cp w) [.ls (l.map ak)] cs:=
  lm ak (fun _=>True) Tryz.underlying56 (by kernel_rfl) (by kernel_rfl) (fun x=>(show (ak x).cells.length=2 from rfl).trans WZ.symm) (fun _=>rfl) GK (fun _ _ _ _ _ h hw=>RC h hw) h hw
theorem Jf {fuel:Nat} (h:DataW.trod enc Tryz.prog w base spare held fuel 57 cs=some (d,p)) (hw:Wt Tryz.prog 57 d) : ∃ l:List aP,l.length<2 ^ 60∧(∀ x,x∈l→True)∧VL (cp w) [.ls (l.map lT)] cs:=
  lm lT (fun _=>True) Tryz.underlying57 (by kernel_rfl) (by kernel_rfl) (fun x=>(show (lT x).cells.length=1 from rfl).trans XE.symm) (fun _=>rfl) Im (fun _ _ _ _ _ h hw=>RB h hw) h hw
theorem Jb (fuel:Nat) : ∀ {cs:List Value} {d:DataW H} {p:List MemPlace},DataW.trod enc Tryz.prog w base spare held fuel 27 cs=some (d,p)→Wt Tryz.prog 27 d→∃ u:TUnit,oq u∧VL (cp w) (cU u) cs:=by
  induction fuel using Nat.strongRecOn with
  | _ fuel ih=>
    intro cs d p h hw
    obtain ⟨n,rfl,⟨⟨d0,p0,t0,w0⟩,⟨d1,p1,t1,w1⟩,⟨d2,p2,t2,w2⟩,⟨d3,p3,t3,w3⟩,⟨d4,p4,t4,w4⟩,⟨d5,p5,t5,w5⟩,_⟩,hx⟩:=jc Tryz.underlying27 (by kernel_rfl) h hw
    obtain ⟨a,b,c,h0⟩:=XK t0 w0
    obtain ⟨k,h1⟩:=iW Tryz.underlying3 t1
    obtain ⟨l,h2⟩:=ns Tryz.underlying9 t2
    obtain ⟨hd,l3,_,h3⟩:=DO t3 w3
    obtain ⟨ws,l4,_,h4⟩:=DO t4 w4
    obtain ⟨ks,l5,f5,h5⟩:=lm aX oq Tryz.underlying25 (by kernel_rfl) (by kernel_rfl) (fun x=>by rw [WQ,aC];rfl) (fun x=>by rw [aC];rfl) gN
      (fun m hm cs d p h hw=>by
        obtain ⟨u,f,v⟩:=ih m (by omega) h hw
        exact ⟨u,f,by rw [aC];exact v⟩) t5 w5
    exact ⟨⟨a,b,c,k,l,hd,ws,ks⟩,nQ.2 ⟨l3,l4,l5,f5⟩,hx [[_,_,_], [_], [_], [_], [_], [_]] ⟨h0,h1,h2,h3,h4,h5,trivial⟩⟩
theorem SM (fuel:Nat) : ∀ {cs:List Value} {d:DataW H} {p:List MemPlace},DataW.trod enc Tryz.prog w base spare held fuel 59 cs=some (d,p)→Wt Tryz.prog 59 d→∃ x:PItem,qK x∧VL (cp w) (cI x) cs:=by
  induction fuel using Nat.strongRecOn with
  | _ fuel ih=>
    intro cs d p h hw
    obtain ⟨n,rfl,⟨⟨d0,p0,t0,w0⟩,⟨d1,p1,t1,w1⟩,⟨d2,p2,t2,w2⟩,⟨d3,p3,t3,w3⟩,⟨d4,p4,t4,w4⟩,⟨d5,p5,t5,w5⟩,⟨d6,p6,t6,w6⟩,⟨d7,p7,t7,w7⟩,⟨d8,p8,t8,w8⟩,⟨d9,p9,t9,w9⟩,⟨d10,p10,t10,w10⟩,⟨d11,p11,t11,w11⟩,⟨d12,p12,t12,w12⟩,⟨d13,p13,t13,w13⟩,⟨d14,p14,t14,w14⟩,⟨d15,p15,t15,w15⟩,_⟩,hx⟩:=jc Tryz.underlying59 (by kernel_rfl) h hw
    obtain ⟨k,h0⟩:=iW Tryz.underlying3 t0
    obtain ⟨at_,l1,_,h1⟩:=Ej t1 w1
    obtain ⟨to,l2,_,h2⟩:=Ej t2 w2
    obtain ⟨wh,h3⟩:=iW Tryz.underlying3 t3
    obtain ⟨nt,h4⟩:=iW Tryz.underlying3 t4
    obtain ⟨u,f5,h5⟩:=Jb _ t5 w5
    obtain ⟨ol,l6,_,h6⟩:=Jf t6 w6
    obtain ⟨ne,l7,_,h7⟩:=Jf t7 w7
    obtain ⟨lb,h8⟩:=ns Tryz.underlying9 t8
    obtain ⟨fo,h9⟩:=ns Tryz.underlying9 t9
    obtain ⟨st,h10⟩:=Ek t10 w10
    obtain ⟨ac,h11⟩:=iW Tryz.underlying3 t11
    obtain ⟨it,h12⟩:=iW Tryz.underlying3 t12
    obtain ⟨dy,h13⟩:=iW Tryz.underlying3 t13
    obtain ⟨ev,h14⟩:=ns Tryz.underlying9 t14
    obtain ⟨bs,l15,f15,h15⟩:=lm MB qK Tryz.underlying38 (by kernel_rfl) (by kernel_rfl) (fun x=>by rw [Q2,fV];rfl) (fun x=>by rw [fV];rfl) GU
      (fun m hm cs d p h hw=>by
        obtain ⟨u,f,v⟩:=ih m (by omega) h hw
        exact ⟨u,f,by rw [fV];exact v⟩) t15 w15
    exact ⟨⟨k,at_,to,wh,nt,u,ol,ne,lb,fo,st,ac,it,dy,ev,bs⟩,sn.2 ⟨l1,l2,l6,l7,l15,f5,f15⟩,
      hx [[_], [_], [_], [_], [_],cU u, [_], [_], [_], [_], [_,_,_], [_], [_], [_], [_], [_]] ⟨h0,h1,h2,h3,h4,h5,h6,h7,h8,h9,h10,h11,h12,h13,h14,h15,trivial⟩⟩
theorem Pa {fuel:Nat} (h:DataW.trod enc Tryz.prog w base spare held fuel 38 cs=some (d,p)) (hw:Wt Tryz.prog 38 d) : ∃ l:List PItem,l.length<2 ^ 60∧(∀ x,x∈l→qK x)∧VL (cp w) [.ls (l.map MB)] cs:=
  lm MB qK Tryz.underlying38 (by kernel_rfl) (by kernel_rfl) (fun x=>by rw [Q2,fV];rfl) (fun x=>by rw [fV];rfl) GU
    (fun m _ cs d p h hw=>by
      obtain ⟨u,f,v⟩:=SM m h hw
      exact ⟨u,f,by rw [fV];exact v⟩) h hw
theorem WK {fuel:Nat} (h:DataW.trod enc Tryz.prog w base spare held fuel 40 cs=some (d,p)) (hw:Wt Tryz.prog 40 d) : ∃ x:PAct,FP x∧VL (cp w) (au x).cells cs:=by
  obtain ⟨n,rfl,⟨⟨d0,p0,t0,w0⟩,⟨d1,p1,t1,w1⟩,⟨d2,p2,t2,w2⟩,⟨d3,p3,t3,w3⟩,⟨d4,p4,t4,w4⟩,_⟩,hx⟩:=jc Tryz.underlying40 (by kernel_rfl) h hw
  obtain ⟨a,h0⟩:=iW Tryz.underlying3 t0
  obtain ⟨ti,h1⟩:=ns Tryz.underlying9 t1
  obtain ⟨dy,h2⟩:=iW Tryz.underlying3 t2
  obtain ⟨st,h3⟩:=Ek t3 w3
  obtain ⟨l,l4,f4,h4⟩:=Pa t4 w4
  exact ⟨⟨a,ti,dy,st,l⟩,⟨l4,f4⟩,hx [[_], [_], [_], [_,_,_], [_]] ⟨h0,h1,h2,h3,h4,trivial⟩⟩
theorem T8 {fuel:Nat} (h:DataW.trod enc Tryz.prog w base spare held fuel 28 cs=some (d,p)) (hw:Wt Tryz.prog 28 d) : ∃ l:List PAct,l.length<2 ^ 60∧(∀ x,x∈l→FP x)∧VL (cp w) [.ls (l.map au)] cs:=
  lm au FP Tryz.underlying28 (by kernel_rfl) (by kernel_rfl) (fun x=>(show (au x).cells.length=7 from rfl).trans XF.symm) (fun _=>rfl) Io (fun _ _ _ _ _ h hw=>WK h hw) h hw
end
end Go.Proofs.YtefibmgdgameaaaGreatDoor
