/- A law's arguments: whatever gazettes are handed in, they are Lean data. -/
import Derived.Test.YtempcdhknnjebaaGreatDoorEva
import Derived.Test.YtempcdhknnjebaaGreatDoorMach7
namespace Go.Proofs.YtempcdhknnjebaaGreatDoor
open Go Go.Ev
section
variable {H : Type} {enc : TypeId × Value → H} {w : World} {base : Nat} {spare : Nat → Bool} {held : Bool} {cs : List Value} {d : DataW H} {p : List MemPlace}
theorem WV:Tryz.prog.cellsOf 90=4:=by kernel_rfl
theorem WU:Tryz.prog.cellsOf 112=2:=by kernel_rfl
theorem WY:Tryz.prog.cellsOf 31=8:=by kernel_rfl
theorem Q4:Tryz.prog.cellsOf 50=25:=by kernel_rfl
theorem XE:Tryz.prog.cellsOf 110=7:=by kernel_rfl
theorem XD:Tryz.prog.cellsOf 58=4:=by kernel_rfl
theorem XC:Tryz.prog.cellsOf 9=1:=by kernel_rfl
theorem Xh {fuel:Nat} (h:DataW.trod enc Tryz.prog w base spare held fuel 27 cs=some (d,p)) (hw:Wt Tryz.prog 27 d) : ∃ a b c,VL (cK w) [.int .i64 a, .int .i64 b, .int .i64 c] cs:=by
  obtain ⟨n,rfl,⟨⟨d0,p0,t0,w0⟩,⟨d1,p1,t1,w1⟩,⟨d2,p2,t2,w2⟩,_⟩,hx⟩:=iB Tryz.underlying27 (by kernel_rfl) h hw
  obtain ⟨a,ha⟩:=gz Tryz.underlying3 t0
  obtain ⟨b,hb⟩:=gz Tryz.underlying3 t1
  obtain ⟨c,hc⟩:=gz Tryz.underlying3 t2
  exact ⟨a,b,c,hx [[_], [_], [_]] ⟨ha,hb,hc,trivial⟩⟩
theorem SS {fuel:Nat} (h:DataW.trod enc Tryz.prog w base spare held fuel 62 cs=some (d,p)) (hw:Wt Tryz.prog 62 d) : ∃ a b c,VL (cK w) [.int .i64 a, .int .i64 b, .int .i64 c] cs:=by
  obtain ⟨n,rfl,⟨⟨d0,p0,t0,w0⟩,⟨d1,p1,t1,w1⟩,⟨d2,p2,t2,w2⟩,_⟩,hx⟩:=iB Tryz.underlying62 (by kernel_rfl) h hw
  obtain ⟨a,ha⟩:=gz Tryz.underlying3 t0
  obtain ⟨b,hb⟩:=gz Tryz.underlying3 t1
  obtain ⟨c,hc⟩:=gz Tryz.underlying3 t2
  exact ⟨a,b,c,hx [[_], [_], [_]] ⟨ha,hb,hc,trivial⟩⟩
theorem Rt {fuel:Nat} (h:DataW.trod enc Tryz.prog w base spare held fuel 90 cs=some (d,p)) (hw:Wt Tryz.prog 90 d) : ∃ x:PWord,True∧VL (cK w) (aQ x).cells cs:=by
  obtain ⟨n,rfl,⟨⟨d0,p0,t0,w0⟩,⟨d1,p1,t1,w1⟩,_⟩,hx⟩:=iB Tryz.underlying90 (by kernel_rfl) h hw
  obtain ⟨s,hs⟩:=nq Tryz.underlying9 t0
  obtain ⟨a,b,c,hm⟩:=SS t1 w1
  exact ⟨⟨s,a,b,c⟩,trivial,hx [[_], [_,_,_]] ⟨hs,hm,trivial⟩⟩
theorem RN {fuel:Nat} (h:DataW.trod enc Tryz.prog w base spare held fuel 112 cs=some (d,p)) (hw:Wt Tryz.prog 112 d) : ∃ x:PStep,True∧VL (cK w) (ax x).cells cs:=by
  obtain ⟨n,rfl,⟨⟨d0,p0,t0,w0⟩,⟨d1,p1,t1,w1⟩,_⟩,hx⟩:=iB Tryz.underlying112 (by kernel_rfl) h hw
  obtain ⟨a,ha⟩:=gz Tryz.underlying3 t0
  obtain ⟨s,hs⟩:=nq Tryz.underlying9 t1
  exact ⟨⟨a,s⟩,trivial,hx [[_], [_]] ⟨ha,hs,trivial⟩⟩
theorem Eh {fuel:Nat} (h:DataW.trod enc Tryz.prog w base spare held fuel 47 cs=some (d,p)) (hw:Wt Tryz.prog 47 d) : ∃ x:PStart,VL (cK w) [.int .i64 x.kind, .int .i64 x.day, .str x.event] cs:=by
  obtain ⟨n,rfl,⟨⟨d0,p0,t0,w0⟩,⟨d1,p1,t1,w1⟩,⟨d2,p2,t2,w2⟩,_⟩,hx⟩:=iB Tryz.underlying47 (by kernel_rfl) h hw
  obtain ⟨a,ha⟩:=gz Tryz.underlying3 t0
  obtain ⟨b,hb⟩:=gz Tryz.underlying3 t1
  obtain ⟨s,hs⟩:=nq Tryz.underlying9 t2
  exact ⟨⟨a,b,s⟩,hx [[_], [_], [_]] ⟨ha,hb,hs,trivial⟩⟩
theorem RM {fuel:Nat} (h:DataW.trod enc Tryz.prog w base spare held fuel 9 cs=some (d,p)) (_:Wt Tryz.prog 9 d) : ∃ x:aN,True∧VL (cK w) (mD x).cells cs:=by
  obtain ⟨s,hs⟩:=nq Tryz.underlying9 h
  exact ⟨s,trivial,hs⟩
theorem Ej {fuel:Nat} (h:DataW.trod enc Tryz.prog w base spare held fuel 28 cs=some (d,p)) (hw:Wt Tryz.prog 28 d) : ∃ l:List PWord,l.length<2 ^ 60∧(∀ x,x∈l→True)∧VL (cK w) [.ls (l.map aQ)] cs:=
  kF aQ (fun _=>True) Tryz.underlying28 (by kernel_rfl) (by kernel_rfl) (fun x=>(show (aQ x).cells.length=4 from rfl).trans WV.symm) (fun _=>rfl) ia (fun _ _ _ _ _ h hw=>Rt h hw) h hw
theorem Eg {fuel:Nat} (h:DataW.trod enc Tryz.prog w base spare held fuel 44 cs=some (d,p)) (hw:Wt Tryz.prog 44 d) : ∃ l:List PStep,l.length<2 ^ 60∧(∀ x,x∈l→True)∧VL (cK w) [.ls (l.map ax)] cs:=
  kF ax (fun _=>True) Tryz.underlying44 (by kernel_rfl) (by kernel_rfl) (fun x=>(show (ax x).cells.length=2 from rfl).trans WU.symm) (fun _=>rfl) Gc (fun _ _ _ _ _ h hw=>RN h hw) h hw
theorem Jq {fuel:Nat} (h:DataW.trod enc Tryz.prog w base spare held fuel 45 cs=some (d,p)) (hw:Wt Tryz.prog 45 d) : ∃ l:List aN,l.length<2 ^ 60∧(∀ x,x∈l→True)∧VL (cK w) [.ls (l.map mD)] cs:=
  kF mD (fun _=>True) Tryz.underlying45 (by kernel_rfl) (by kernel_rfl) (fun x=>(show (mD x).cells.length=1 from rfl).trans XC.symm) (fun _=>rfl) Io (fun _ _ _ _ _ h hw=>RM h hw) h hw
theorem RC (fuel:Nat) : ∀ {cs:List Value} {d:DataW H} {p:List MemPlace},DataW.trod enc Tryz.prog w base spare held fuel 31 cs=some (d,p)→Wt Tryz.prog 31 d→∃ u:TUnit,oO u∧VL (cK w) (cU u) cs:=by
  induction fuel using Nat.strongRecOn with
  | _ fuel ih=>
    intro cs d p h hw
    obtain ⟨n,rfl,⟨⟨d0,p0,t0,w0⟩,⟨d1,p1,t1,w1⟩,⟨d2,p2,t2,w2⟩,⟨d3,p3,t3,w3⟩,⟨d4,p4,t4,w4⟩,⟨d5,p5,t5,w5⟩,_⟩,hx⟩:=iB Tryz.underlying31 (by kernel_rfl) h hw
    obtain ⟨a,b,c,h0⟩:=Xh t0 w0
    obtain ⟨k,h1⟩:=gz Tryz.underlying3 t1
    obtain ⟨l,h2⟩:=nq Tryz.underlying9 t2
    obtain ⟨hd,l3,_,h3⟩:=Ej t3 w3
    obtain ⟨ws,l4,_,h4⟩:=Ej t4 w4
    obtain ⟨ks,l5,f5,h5⟩:=kF aK oO Tryz.underlying29 (by kernel_rfl) (by kernel_rfl) (fun x=>by rw [WY,aI];rfl) (fun x=>by rw [aI];rfl) gH
      (fun m hm cs d p h hw=>by
        obtain ⟨u,f,v⟩:=ih m (by omega) h hw
        exact ⟨u,f,by rw [aI];exact v⟩) t5 w5
    exact ⟨⟨a,b,c,k,l,hd,ws,ks⟩,kR.2 ⟨l3,l4,l5,f5⟩,hx [[_,_,_], [_], [_], [_], [_], [_]] ⟨h0,h1,h2,h3,h4,h5,trivial⟩⟩
theorem S6 (fuel:Nat) : ∀ {cs:List Value} {d:DataW H} {p:List MemPlace},DataW.trod enc Tryz.prog w base spare held fuel 50 cs=some (d,p)→Wt Tryz.prog 50 d→∃ x:PItem,mR x∧VL (cK w) (cI x) cs:=by
  induction fuel using Nat.strongRecOn with
  | _ fuel ih=>
    intro cs d p h hw
    obtain ⟨n,rfl,⟨⟨d0,p0,t0,w0⟩,⟨d1,p1,t1,w1⟩,⟨d2,p2,t2,w2⟩,⟨d3,p3,t3,w3⟩,⟨d4,p4,t4,w4⟩,⟨d5,p5,t5,w5⟩,⟨d6,p6,t6,w6⟩,⟨d7,p7,t7,w7⟩,⟨d8,p8,t8,w8⟩,⟨d9,p9,t9,w9⟩,⟨d10,p10,t10,w10⟩,⟨d11,p11,t11,w11⟩,⟨d12,p12,t12,w12⟩,⟨d13,p13,t13,w13⟩,⟨d14,p14,t14,w14⟩,⟨d15,p15,t15,w15⟩,_⟩,hx⟩:=iB Tryz.underlying50 (by kernel_rfl) h hw
    obtain ⟨k,h0⟩:=gz Tryz.underlying3 t0
    obtain ⟨at_,l1,_,h1⟩:=Eg t1 w1
    obtain ⟨to,l2,_,h2⟩:=Eg t2 w2
    obtain ⟨wh,h3⟩:=gz Tryz.underlying3 t3
    obtain ⟨nt,h4⟩:=gz Tryz.underlying3 t4
    obtain ⟨u,f5,h5⟩:=RC _ t5 w5
    obtain ⟨ol,l6,_,h6⟩:=Jq t6 w6
    obtain ⟨ne,l7,_,h7⟩:=Jq t7 w7
    obtain ⟨lb,h8⟩:=nq Tryz.underlying9 t8
    obtain ⟨fo,h9⟩:=nq Tryz.underlying9 t9
    obtain ⟨st,h10⟩:=Eh t10 w10
    obtain ⟨ac,h11⟩:=gz Tryz.underlying3 t11
    obtain ⟨it,h12⟩:=gz Tryz.underlying3 t12
    obtain ⟨dy,h13⟩:=gz Tryz.underlying3 t13
    obtain ⟨ev,h14⟩:=nq Tryz.underlying9 t14
    obtain ⟨bs,l15,f15,h15⟩:=kF MH mR Tryz.underlying48 (by kernel_rfl) (by kernel_rfl) (fun x=>by rw [Q4,eZ];rfl) (fun x=>by rw [eZ];rfl) Gg
      (fun m hm cs d p h hw=>by
        obtain ⟨u,f,v⟩:=ih m (by omega) h hw
        exact ⟨u,f,by rw [eZ];exact v⟩) t15 w15
    exact ⟨⟨k,at_,to,wh,nt,u,ol,ne,lb,fo,st,ac,it,dy,ev,bs⟩,qz.2 ⟨l1,l2,l6,l7,l15,f5,f15⟩,
      hx [[_], [_], [_], [_], [_],cU u, [_], [_], [_], [_], [_,_,_], [_], [_], [_], [_], [_]] ⟨h0,h1,h2,h3,h4,h5,h6,h7,h8,h9,h10,h11,h12,h13,h14,h15,trivial⟩⟩
theorem Pd {fuel:Nat} (h:DataW.trod enc Tryz.prog w base spare held fuel 48 cs=some (d,p)) (hw:Wt Tryz.prog 48 d) : ∃ l:List PItem,l.length<2 ^ 60∧(∀ x,x∈l→mR x)∧VL (cK w) [.ls (l.map MH)] cs:=
  kF MH mR Tryz.underlying48 (by kernel_rfl) (by kernel_rfl) (fun x=>by rw [Q4,eZ];rfl) (fun x=>by rw [eZ];rfl) Gg
    (fun m _ cs d p h hw=>by
      obtain ⟨u,f,v⟩:=S6 m h hw
      exact ⟨u,f,by rw [eZ];exact v⟩) h hw
theorem Wb {fuel:Nat} (h:DataW.trod enc Tryz.prog w base spare held fuel 110 cs=some (d,p)) (hw:Wt Tryz.prog 110 d) : ∃ x:PAct,QJ x∧VL (cK w) (aj x).cells cs:=by
  obtain ⟨n,rfl,⟨⟨d0,p0,t0,w0⟩,⟨d1,p1,t1,w1⟩,⟨d2,p2,t2,w2⟩,⟨d3,p3,t3,w3⟩,⟨d4,p4,t4,w4⟩,_⟩,hx⟩:=iB Tryz.underlying110 (by kernel_rfl) h hw
  obtain ⟨a,h0⟩:=gz Tryz.underlying3 t0
  obtain ⟨ti,h1⟩:=nq Tryz.underlying9 t1
  obtain ⟨dy,h2⟩:=gz Tryz.underlying3 t2
  obtain ⟨st,h3⟩:=Eh t3 w3
  obtain ⟨l,l4,f4,h4⟩:=Pd t4 w4
  exact ⟨⟨a,ti,dy,st,l⟩,⟨l4,f4⟩,hx [[_], [_], [_], [_,_,_], [_]] ⟨h0,h1,h2,h3,h4,trivial⟩⟩
theorem Uq {fuel:Nat} (h:DataW.trod enc Tryz.prog w base spare held fuel 56 cs=some (d,p)) (hw:Wt Tryz.prog 56 d) : ∃ l:List PAct,l.length<2 ^ 60∧(∀ x,x∈l→QJ x)∧VL (cK w) [.ls (l.map aj)] cs:=
  kF aj QJ Tryz.underlying56 (by kernel_rfl) (by kernel_rfl) (fun x=>(show (aj x).cells.length=7 from rfl).trans XE.symm) (fun _=>rfl) zF (fun _ _ _ _ _ h hw=>Wb h hw) h hw
theorem VH {fuel:Nat} (h:DataW.trod enc Tryz.prog w base spare held fuel 58 cs=some (d,p)) (hw:Wt Tryz.prog 58 d) : ∃ x:PGaz,VP x∧VL (cK w) (aU x).cells cs:=by
  obtain ⟨n,rfl,⟨⟨d0,p0,t0,w0⟩,⟨d1,p1,t1,w1⟩,⟨d2,p2,t2,w2⟩,⟨d3,p3,t3,w3⟩,_⟩,hx⟩:=iB Tryz.underlying58 (by kernel_rfl) h hw
  obtain ⟨a,h0⟩:=gz Tryz.underlying3 t0
  obtain ⟨dy,h1⟩:=gz Tryz.underlying3 t1
  obtain ⟨pr,h2⟩:=nq Tryz.underlying9 t2
  obtain ⟨l,l3,f3,h3⟩:=Uq t3 w3
  exact ⟨⟨a,dy,pr,l⟩,⟨l3,f3⟩,hx [[_], [_], [_], [_]] ⟨h0,h1,h2,h3,trivial⟩⟩
/-- Gazettes handed in. -/
theorem F0 {fuel:Nat} (h:DataW.trod enc Tryz.prog w base spare held fuel 22 cs=some (d,p)) (hw:Wt Tryz.prog 22 d) : ∃ gs:List PGaz,pU gs∧VL (cK w) [.ls (gs.map aU)] cs:=by
  obtain ⟨l,h1,h2,h3⟩:=kF aU VP Tryz.underlying22 (by kernel_rfl) (by kernel_rfl) (fun x=>(show (aU x).cells.length=4 from rfl).trans XD.symm) (fun _=>rfl) Is (fun _ _ _ _ _ h hw=>VH h hw) h hw
  exact ⟨l,⟨h1,h2⟩,h3⟩
end
end Go.Proofs.YtempcdhknnjebaaGreatDoor
