/- A law's arguments: whatever gazettes are handed in, they are Lean data. -/
import Derived.Test.YtempcdhknnjebaaGreatDoorEva
import Derived.Test.YtempcdhknnjebaaGreatDoorMach7
namespace Go.Proofs.YtempcdhknnjebaaGreatDoor
open Go Go.Ev
section
variable {H : Type} {enc : TypeId × Value → H} {w : World} {base : Nat} {spare : Nat → Bool} {held : Bool} {cs : List Value} {d : DataW H} {p : List MemPlace}
theorem Vw:Tryz.prog.cellsOf 90=4:=by kernel_rfl
theorem Vy:Tryz.prog.cellsOf 112=2:=by kernel_rfl
theorem Vv:Tryz.prog.cellsOf 31=8:=by kernel_rfl
theorem Qq:Tryz.prog.cellsOf 50=25:=by kernel_rfl
theorem WF:Tryz.prog.cellsOf 110=7:=by kernel_rfl
theorem WE:Tryz.prog.cellsOf 58=4:=by kernel_rfl
theorem WD:Tryz.prog.cellsOf 9=1:=by kernel_rfl
theorem Wg {fuel:Nat} (h:DataW.trod enc Tryz.prog w base spare held fuel 27 cs=some (d,p)) (hw:Wt Tryz.prog 27 d) : ∃ a b c,VL (cX w) [.int .i64 a, .int .i64 b, .int .i64 c] cs:=by
  obtain ⟨n,rfl,⟨⟨d0,p0,t0,w0⟩,⟨d1,p1,t1,w1⟩,⟨d2,p2,t2,w2⟩,_⟩,hx⟩:=ie Tryz.underlying27 (by kernel_rfl) h hw
  obtain ⟨a,ha⟩:=gK Tryz.underlying3 t0
  obtain ⟨b,hb⟩:=gK Tryz.underlying3 t1
  obtain ⟨c,hc⟩:=gK Tryz.underlying3 t2
  exact ⟨a,b,c,hx [[_], [_], [_]] ⟨ha,hb,hc,trivial⟩⟩
theorem R6 {fuel:Nat} (h:DataW.trod enc Tryz.prog w base spare held fuel 62 cs=some (d,p)) (hw:Wt Tryz.prog 62 d) : ∃ a b c,VL (cX w) [.int .i64 a, .int .i64 b, .int .i64 c] cs:=by
  obtain ⟨n,rfl,⟨⟨d0,p0,t0,w0⟩,⟨d1,p1,t1,w1⟩,⟨d2,p2,t2,w2⟩,_⟩,hx⟩:=ie Tryz.underlying62 (by kernel_rfl) h hw
  obtain ⟨a,ha⟩:=gK Tryz.underlying3 t0
  obtain ⟨b,hb⟩:=gK Tryz.underlying3 t1
  obtain ⟨c,hc⟩:=gK Tryz.underlying3 t2
  exact ⟨a,b,c,hx [[_], [_], [_]] ⟨ha,hb,hc,trivial⟩⟩
theorem QP {fuel:Nat} (h:DataW.trod enc Tryz.prog w base spare held fuel 90 cs=some (d,p)) (hw:Wt Tryz.prog 90 d) : ∃ x:PWord,True∧VL (cX w) (aQ x).cells cs:=by
  obtain ⟨n,rfl,⟨⟨d0,p0,t0,w0⟩,⟨d1,p1,t1,w1⟩,_⟩,hx⟩:=ie Tryz.underlying90 (by kernel_rfl) h hw
  obtain ⟨s,hs⟩:=m9 Tryz.underlying9 t0
  obtain ⟨a,b,c,hm⟩:=R6 t1 w1
  exact ⟨⟨s,a,b,c⟩,trivial,hx [[_], [_,_,_]] ⟨hs,hm,trivial⟩⟩
theorem Q7 {fuel:Nat} (h:DataW.trod enc Tryz.prog w base spare held fuel 112 cs=some (d,p)) (hw:Wt Tryz.prog 112 d) : ∃ x:PStep,True∧VL (cX w) (ax x).cells cs:=by
  obtain ⟨n,rfl,⟨⟨d0,p0,t0,w0⟩,⟨d1,p1,t1,w1⟩,_⟩,hx⟩:=ie Tryz.underlying112 (by kernel_rfl) h hw
  obtain ⟨a,ha⟩:=gK Tryz.underlying3 t0
  obtain ⟨s,hs⟩:=m9 Tryz.underlying9 t1
  exact ⟨⟨a,s⟩,trivial,hx [[_], [_]] ⟨ha,hs,trivial⟩⟩
theorem EV {fuel:Nat} (h:DataW.trod enc Tryz.prog w base spare held fuel 47 cs=some (d,p)) (hw:Wt Tryz.prog 47 d) : ∃ x:PStart,VL (cX w) [.int .i64 x.kind, .int .i64 x.day, .str x.event] cs:=by
  obtain ⟨n,rfl,⟨⟨d0,p0,t0,w0⟩,⟨d1,p1,t1,w1⟩,⟨d2,p2,t2,w2⟩,_⟩,hx⟩:=ie Tryz.underlying47 (by kernel_rfl) h hw
  obtain ⟨a,ha⟩:=gK Tryz.underlying3 t0
  obtain ⟨b,hb⟩:=gK Tryz.underlying3 t1
  obtain ⟨s,hs⟩:=m9 Tryz.underlying9 t2
  exact ⟨⟨a,b,s⟩,hx [[_], [_], [_]] ⟨ha,hb,hs,trivial⟩⟩
theorem Q6 {fuel:Nat} (h:DataW.trod enc Tryz.prog w base spare held fuel 9 cs=some (d,p)) (_:Wt Tryz.prog 9 d) : ∃ x:aO,True∧VL (cX w) (mr x).cells cs:=by
  obtain ⟨s,hs⟩:=m9 Tryz.underlying9 h
  exact ⟨s,trivial,hs⟩
theorem DT {fuel:Nat} (h:DataW.trod enc Tryz.prog w base spare held fuel 28 cs=some (d,p)) (hw:Wt Tryz.prog 28 d) : ∃ l:List PWord,l.length<2 ^ 60∧(∀ x,x∈l→True)∧VL (cX w) [.ls (l.map aQ)] cs:=
  kp aQ (fun _=>True) Tryz.underlying28 (by kernel_rfl) (by kernel_rfl) (fun x=>(show (aQ x).cells.length=4 from rfl).trans Vw.symm) (fun _=>rfl) iq (fun _ _ _ _ _ h hw=>QP h hw) h hw
theorem EK {fuel:Nat} (h:DataW.trod enc Tryz.prog w base spare held fuel 44 cs=some (d,p)) (hw:Wt Tryz.prog 44 d) : ∃ l:List PStep,l.length<2 ^ 60∧(∀ x,x∈l→True)∧VL (cX w) [.ls (l.map ax)] cs:=
  kp ax (fun _=>True) Tryz.underlying44 (by kernel_rfl) (by kernel_rfl) (fun x=>(show (ax x).cells.length=2 from rfl).trans Vy.symm) (fun _=>rfl) F8 (fun _ _ _ _ _ h hw=>Q7 h hw) h hw
theorem IG {fuel:Nat} (h:DataW.trod enc Tryz.prog w base spare held fuel 45 cs=some (d,p)) (hw:Wt Tryz.prog 45 d) : ∃ l:List aO,l.length<2 ^ 60∧(∀ x,x∈l→True)∧VL (cX w) [.ls (l.map mr)] cs:=
  kp mr (fun _=>True) Tryz.underlying45 (by kernel_rfl) (by kernel_rfl) (fun x=>(show (mr x).cells.length=1 from rfl).trans WD.symm) (fun _=>rfl) IZ (fun _ _ _ _ _ h hw=>Q6 h hw) h hw
theorem Q0 (fuel:Nat) : ∀ {cs:List Value} {d:DataW H} {p:List MemPlace},DataW.trod enc Tryz.prog w base spare held fuel 31 cs=some (d,p)→Wt Tryz.prog 31 d→∃ u:TUnit,oC u∧VL (cX w) (cU u) cs:=by
  induction fuel using Nat.strongRecOn with
  | _ fuel ih=>
    intro cs d p h hw
    obtain ⟨n,rfl,⟨⟨d0,p0,t0,w0⟩,⟨d1,p1,t1,w1⟩,⟨d2,p2,t2,w2⟩,⟨d3,p3,t3,w3⟩,⟨d4,p4,t4,w4⟩,⟨d5,p5,t5,w5⟩,_⟩,hx⟩:=ie Tryz.underlying31 (by kernel_rfl) h hw
    obtain ⟨a,b,c,h0⟩:=Wg t0 w0
    obtain ⟨k,h1⟩:=gK Tryz.underlying3 t1
    obtain ⟨l,h2⟩:=m9 Tryz.underlying9 t2
    obtain ⟨hd,l3,_,h3⟩:=DT t3 w3
    obtain ⟨ws,l4,_,h4⟩:=DT t4 w4
    obtain ⟨ks,l5,f5,h5⟩:=kp aK oC Tryz.underlying29 (by kernel_rfl) (by kernel_rfl) (fun x=>by rw [Vv,aG];rfl) (fun x=>by rw [aG];rfl) gC
      (fun m hm cs d p h hw=>by
        obtain ⟨u,f,v⟩:=ih m (by omega) h hw
        exact ⟨u,f,by rw [aG];exact v⟩) t5 w5
    exact ⟨⟨a,b,c,k,l,hd,ws,ks⟩,kI.2 ⟨l3,l4,l5,f5⟩,hx [[_,_,_], [_], [_], [_], [_], [_]] ⟨h0,h1,h2,h3,h4,h5,trivial⟩⟩
theorem SJ (fuel:Nat) : ∀ {cs:List Value} {d:DataW H} {p:List MemPlace},DataW.trod enc Tryz.prog w base spare held fuel 50 cs=some (d,p)→Wt Tryz.prog 50 d→∃ x:PItem,mI x∧VL (cX w) (cI x) cs:=by
  induction fuel using Nat.strongRecOn with
  | _ fuel ih=>
    intro cs d p h hw
    obtain ⟨n,rfl,⟨⟨d0,p0,t0,w0⟩,⟨d1,p1,t1,w1⟩,⟨d2,p2,t2,w2⟩,⟨d3,p3,t3,w3⟩,⟨d4,p4,t4,w4⟩,⟨d5,p5,t5,w5⟩,⟨d6,p6,t6,w6⟩,⟨d7,p7,t7,w7⟩,⟨d8,p8,t8,w8⟩,⟨d9,p9,t9,w9⟩,⟨d10,p10,t10,w10⟩,⟨d11,p11,t11,w11⟩,⟨d12,p12,t12,w12⟩,⟨d13,p13,t13,w13⟩,⟨d14,p14,t14,w14⟩,⟨d15,p15,t15,w15⟩,_⟩,hx⟩:=ie Tryz.underlying50 (by kernel_rfl) h hw
    obtain ⟨k,h0⟩:=gK Tryz.underlying3 t0
    obtain ⟨at_,l1,_,h1⟩:=EK t1 w1
    obtain ⟨to,l2,_,h2⟩:=EK t2 w2
    obtain ⟨wh,h3⟩:=gK Tryz.underlying3 t3
    obtain ⟨nt,h4⟩:=gK Tryz.underlying3 t4
    obtain ⟨u,f5,h5⟩:=Q0 _ t5 w5
    obtain ⟨ol,l6,_,h6⟩:=IG t6 w6
    obtain ⟨ne,l7,_,h7⟩:=IG t7 w7
    obtain ⟨lb,h8⟩:=m9 Tryz.underlying9 t8
    obtain ⟨fo,h9⟩:=m9 Tryz.underlying9 t9
    obtain ⟨st,h10⟩:=EV t10 w10
    obtain ⟨ac,h11⟩:=gK Tryz.underlying3 t11
    obtain ⟨it,h12⟩:=gK Tryz.underlying3 t12
    obtain ⟨dy,h13⟩:=gK Tryz.underlying3 t13
    obtain ⟨ev,h14⟩:=m9 Tryz.underlying9 t14
    obtain ⟨bs,l15,f15,h15⟩:=kp LL mI Tryz.underlying48 (by kernel_rfl) (by kernel_rfl) (fun x=>by rw [Qq,dR];rfl) (fun x=>by rw [dR];rfl) GZ
      (fun m hm cs d p h hw=>by
        obtain ⟨u,f,v⟩:=ih m (by omega) h hw
        exact ⟨u,f,by rw [dR];exact v⟩) t15 w15
    exact ⟨⟨k,at_,to,wh,nt,u,ol,ne,lb,fo,st,ac,it,dy,ev,bs⟩,qZ.2 ⟨l1,l2,l6,l7,l15,f5,f15⟩,
      hx [[_], [_], [_], [_], [_],cU u, [_], [_], [_], [_], [_,_,_], [_], [_], [_], [_], [_]] ⟨h0,h1,h2,h3,h4,h5,h6,h7,h8,h9,h10,h11,h12,h13,h14,h15,trivial⟩⟩
theorem OG {fuel:Nat} (h:DataW.trod enc Tryz.prog w base spare held fuel 48 cs=some (d,p)) (hw:Wt Tryz.prog 48 d) : ∃ l:List PItem,l.length<2 ^ 60∧(∀ x,x∈l→mI x)∧VL (cX w) [.ls (l.map LL)] cs:=
  kp LL mI Tryz.underlying48 (by kernel_rfl) (by kernel_rfl) (fun x=>by rw [Qq,dR];rfl) (fun x=>by rw [dR];rfl) GZ
    (fun m _ cs d p h hw=>by
      obtain ⟨u,f,v⟩:=SJ m h hw
      exact ⟨u,f,by rw [dR];exact v⟩) h hw
theorem Vh {fuel:Nat} (h:DataW.trod enc Tryz.prog w base spare held fuel 110 cs=some (d,p)) (hw:Wt Tryz.prog 110 d) : ∃ x:PAct,Pe x∧VL (cX w) (ay x).cells cs:=by
  obtain ⟨n,rfl,⟨⟨d0,p0,t0,w0⟩,⟨d1,p1,t1,w1⟩,⟨d2,p2,t2,w2⟩,⟨d3,p3,t3,w3⟩,⟨d4,p4,t4,w4⟩,_⟩,hx⟩:=ie Tryz.underlying110 (by kernel_rfl) h hw
  obtain ⟨a,h0⟩:=gK Tryz.underlying3 t0
  obtain ⟨ti,h1⟩:=m9 Tryz.underlying9 t1
  obtain ⟨dy,h2⟩:=gK Tryz.underlying3 t2
  obtain ⟨st,h3⟩:=EV t3 w3
  obtain ⟨l,l4,f4,h4⟩:=OG t4 w4
  exact ⟨⟨a,ti,dy,st,l⟩,⟨l4,f4⟩,hx [[_], [_], [_], [_,_,_], [_]] ⟨h0,h1,h2,h3,h4,trivial⟩⟩
theorem Ty {fuel:Nat} (h:DataW.trod enc Tryz.prog w base spare held fuel 56 cs=some (d,p)) (hw:Wt Tryz.prog 56 d) : ∃ l:List PAct,l.length<2 ^ 60∧(∀ x,x∈l→Pe x)∧VL (cX w) [.ls (l.map ay)] cs:=
  kp ay Pe Tryz.underlying56 (by kernel_rfl) (by kernel_rfl) (fun x=>(show (ay x).cells.length=7 from rfl).trans WF.symm) (fun _=>rfl) IW (fun _ _ _ _ _ h hw=>Vh h hw) h hw
theorem UP {fuel:Nat} (h:DataW.trod enc Tryz.prog w base spare held fuel 58 cs=some (d,p)) (hw:Wt Tryz.prog 58 d) : ∃ x:PGaz,U1 x∧VL (cX w) (aq x).cells cs:=by
  obtain ⟨n,rfl,⟨⟨d0,p0,t0,w0⟩,⟨d1,p1,t1,w1⟩,⟨d2,p2,t2,w2⟩,⟨d3,p3,t3,w3⟩,_⟩,hx⟩:=ie Tryz.underlying58 (by kernel_rfl) h hw
  obtain ⟨a,h0⟩:=gK Tryz.underlying3 t0
  obtain ⟨dy,h1⟩:=gK Tryz.underlying3 t1
  obtain ⟨pr,h2⟩:=m9 Tryz.underlying9 t2
  obtain ⟨l,l3,f3,h3⟩:=Ty t3 w3
  exact ⟨⟨a,dy,pr,l⟩,⟨l3,f3⟩,hx [[_], [_], [_], [_]] ⟨h0,h1,h2,h3,trivial⟩⟩
/-- Gazettes handed in. -/
theorem Fm {fuel:Nat} (h:DataW.trod enc Tryz.prog w base spare held fuel 22 cs=some (d,p)) (hw:Wt Tryz.prog 22 d) : ∃ gs:List PGaz,pQ gs∧VL (cX w) [.ls (gs.map aq)] cs:=by
  obtain ⟨l,h1,h2,h3⟩:=kp aq U1 Tryz.underlying22 (by kernel_rfl) (by kernel_rfl) (fun x=>(show (aq x).cells.length=4 from rfl).trans WE.symm) (fun _=>rfl) kc (fun _ _ _ _ _ h hw=>UP h hw) h hw
  exact ⟨l,⟨h1,h2⟩,h3⟩
end
end Go.Proofs.YtempcdhknnjebaaGreatDoor
