/- A law's arguments: whatever gazettes are handed in, they are Lean data. -/
import Derived.Test.YtidehekfpcgelaaGreatDoorEva
import Derived.Test.YtidehekfpcgelaaGreatDoorMach7
namespace Go.Proofs.YtidehekfpcgelaaGreatDoor
open Go Go.Ev
section
variable {H : Type} {enc : TypeId × Value → H} {w : World} {base : Nat} {spare : Nat → Bool} {held : Bool} {cs : List Value} {d : DataW H} {p : List MemPlace}
theorem V5:Tryz.prog.cellsOf 90=4:=by kernel_rfl
theorem V7:Tryz.prog.cellsOf 112=2:=by kernel_rfl
theorem V6:Tryz.prog.cellsOf 31=8:=by kernel_rfl
theorem QR:Tryz.prog.cellsOf 50=25:=by kernel_rfl
theorem Xi:Tryz.prog.cellsOf 110=7:=by kernel_rfl
theorem Xh:Tryz.prog.cellsOf 58=4:=by kernel_rfl
theorem Xg:Tryz.prog.cellsOf 9=1:=by kernel_rfl
theorem Xz {fuel:Nat} (h:DataW.trod enc Tryz.prog w base spare held fuel 27 cs=some (d,p)) (hw:Wt Tryz.prog 27 d) : ∃ a b c,VL (cq w) [.int .i64 a, .int .i64 b, .int .i64 c] cs:=by
  obtain ⟨n,rfl,⟨⟨d0,p0,t0,w0⟩,⟨d1,p1,t1,w1⟩,⟨d2,p2,t2,w2⟩,_⟩,hx⟩:=iG Tryz.underlying27 (by kernel_rfl) h hw
  obtain ⟨a,ha⟩:=gc Tryz.underlying3 t0
  obtain ⟨b,hb⟩:=gc Tryz.underlying3 t1
  obtain ⟨c,hc⟩:=gc Tryz.underlying3 t2
  exact ⟨a,b,c,hx [[_], [_], [_]] ⟨ha,hb,hc,trivial⟩⟩
theorem SB {fuel:Nat} (h:DataW.trod enc Tryz.prog w base spare held fuel 62 cs=some (d,p)) (hw:Wt Tryz.prog 62 d) : ∃ a b c,VL (cq w) [.int .i64 a, .int .i64 b, .int .i64 c] cs:=by
  obtain ⟨n,rfl,⟨⟨d0,p0,t0,w0⟩,⟨d1,p1,t1,w1⟩,⟨d2,p2,t2,w2⟩,_⟩,hx⟩:=iG Tryz.underlying62 (by kernel_rfl) h hw
  obtain ⟨a,ha⟩:=gc Tryz.underlying3 t0
  obtain ⟨b,hb⟩:=gc Tryz.underlying3 t1
  obtain ⟨c,hc⟩:=gc Tryz.underlying3 t2
  exact ⟨a,b,c,hx [[_], [_], [_]] ⟨ha,hb,hc,trivial⟩⟩
theorem Rh {fuel:Nat} (h:DataW.trod enc Tryz.prog w base spare held fuel 90 cs=some (d,p)) (hw:Wt Tryz.prog 90 d) : ∃ x:PWord,True∧VL (cq w) (aQ x).cells cs:=by
  obtain ⟨n,rfl,⟨⟨d0,p0,t0,w0⟩,⟨d1,p1,t1,w1⟩,_⟩,hx⟩:=iG Tryz.underlying90 (by kernel_rfl) h hw
  obtain ⟨s,hs⟩:=ni Tryz.underlying9 t0
  obtain ⟨a,b,c,hm⟩:=SB t1 w1
  exact ⟨⟨s,a,b,c⟩,trivial,hx [[_], [_,_,_]] ⟨hs,hm,trivial⟩⟩
theorem RB {fuel:Nat} (h:DataW.trod enc Tryz.prog w base spare held fuel 112 cs=some (d,p)) (hw:Wt Tryz.prog 112 d) : ∃ x:PStep,True∧VL (cq w) (az x).cells cs:=by
  obtain ⟨n,rfl,⟨⟨d0,p0,t0,w0⟩,⟨d1,p1,t1,w1⟩,_⟩,hx⟩:=iG Tryz.underlying112 (by kernel_rfl) h hw
  obtain ⟨a,ha⟩:=gc Tryz.underlying3 t0
  obtain ⟨s,hs⟩:=ni Tryz.underlying9 t1
  exact ⟨⟨a,s⟩,trivial,hx [[_], [_]] ⟨ha,hs,trivial⟩⟩
theorem EA {fuel:Nat} (h:DataW.trod enc Tryz.prog w base spare held fuel 47 cs=some (d,p)) (hw:Wt Tryz.prog 47 d) : ∃ x:PStart,VL (cq w) [.int .i64 x.kind, .int .i64 x.day, .str x.event] cs:=by
  obtain ⟨n,rfl,⟨⟨d0,p0,t0,w0⟩,⟨d1,p1,t1,w1⟩,⟨d2,p2,t2,w2⟩,_⟩,hx⟩:=iG Tryz.underlying47 (by kernel_rfl) h hw
  obtain ⟨a,ha⟩:=gc Tryz.underlying3 t0
  obtain ⟨b,hb⟩:=gc Tryz.underlying3 t1
  obtain ⟨s,hs⟩:=ni Tryz.underlying9 t2
  exact ⟨⟨a,b,s⟩,hx [[_], [_], [_]] ⟨ha,hb,hs,trivial⟩⟩
theorem RA {fuel:Nat} (h:DataW.trod enc Tryz.prog w base spare held fuel 9 cs=some (d,p)) (_:Wt Tryz.prog 9 d) : ∃ x:aP,True∧VL (cq w) (mT x).cells cs:=by
  obtain ⟨s,hs⟩:=ni Tryz.underlying9 h
  exact ⟨s,trivial,hs⟩
theorem Ef {fuel:Nat} (h:DataW.trod enc Tryz.prog w base spare held fuel 28 cs=some (d,p)) (hw:Wt Tryz.prog 28 d) : ∃ l:List PWord,l.length<2 ^ 60∧(∀ x,x∈l→True)∧VL (cq w) [.ls (l.map aQ)] cs:=
  kS aQ (fun _=>True) Tryz.underlying28 (by kernel_rfl) (by kernel_rfl) (fun x=>(show (aQ x).cells.length=4 from rfl).trans V5.symm) (fun _=>rfl) ig (fun _ _ _ _ _ h hw=>Rh h hw) h hw
theorem Et {fuel:Nat} (h:DataW.trod enc Tryz.prog w base spare held fuel 44 cs=some (d,p)) (hw:Wt Tryz.prog 44 d) : ∃ l:List PStep,l.length<2 ^ 60∧(∀ x,x∈l→True)∧VL (cq w) [.ls (l.map az)] cs:=
  kS az (fun _=>True) Tryz.underlying44 (by kernel_rfl) (by kernel_rfl) (fun x=>(show (az x).cells.length=2 from rfl).trans V7.symm) (fun _=>rfl) Gf (fun _ _ _ _ _ h hw=>RB h hw) h hw
theorem Jx {fuel:Nat} (h:DataW.trod enc Tryz.prog w base spare held fuel 45 cs=some (d,p)) (hw:Wt Tryz.prog 45 d) : ∃ l:List aP,l.length<2 ^ 60∧(∀ x,x∈l→True)∧VL (cq w) [.ls (l.map mT)] cs:=
  kS mT (fun _=>True) Tryz.underlying45 (by kernel_rfl) (by kernel_rfl) (fun x=>(show (mT x).cells.length=1 from rfl).trans Xg.symm) (fun _=>rfl) Ir (fun _ _ _ _ _ h hw=>RA h hw) h hw
theorem Rn (fuel:Nat) : ∀ {cs:List Value} {d:DataW H} {p:List MemPlace},DataW.trod enc Tryz.prog w base spare held fuel 31 cs=some (d,p)→Wt Tryz.prog 31 d→∃ u:TUnit,o7 u∧VL (cq w) (cU u) cs:=by
  induction fuel using Nat.strongRecOn with
  | _ fuel ih=>
    intro cs d p h hw
    obtain ⟨n,rfl,⟨⟨d0,p0,t0,w0⟩,⟨d1,p1,t1,w1⟩,⟨d2,p2,t2,w2⟩,⟨d3,p3,t3,w3⟩,⟨d4,p4,t4,w4⟩,⟨d5,p5,t5,w5⟩,_⟩,hx⟩:=iG Tryz.underlying31 (by kernel_rfl) h hw
    obtain ⟨a,b,c,h0⟩:=Xz t0 w0
    obtain ⟨k,h1⟩:=gc Tryz.underlying3 t1
    obtain ⟨l,h2⟩:=ni Tryz.underlying9 t2
    obtain ⟨hd,l3,_,h3⟩:=Ef t3 w3
    obtain ⟨ws,l4,_,h4⟩:=Ef t4 w4
    obtain ⟨ks,l5,f5,h5⟩:=kS aV o7 Tryz.underlying29 (by kernel_rfl) (by kernel_rfl) (fun x=>by rw [V6,aA];rfl) (fun x=>by rw [aA];rfl) gO
      (fun m hm cs d p h hw=>by
        obtain ⟨u,f,v⟩:=ih m (by omega) h hw
        exact ⟨u,f,by rw [aA];exact v⟩) t5 w5
    exact ⟨⟨a,b,c,k,l,hd,ws,ks⟩,lY.2 ⟨l3,l4,l5,f5⟩,hx [[_,_,_], [_], [_], [_], [_], [_]] ⟨h0,h1,h2,h3,h4,h5,trivial⟩⟩
theorem SI (fuel:Nat) : ∀ {cs:List Value} {d:DataW H} {p:List MemPlace},DataW.trod enc Tryz.prog w base spare held fuel 50 cs=some (d,p)→Wt Tryz.prog 50 d→∃ x:PItem,nQ x∧VL (cq w) (cI x) cs:=by
  induction fuel using Nat.strongRecOn with
  | _ fuel ih=>
    intro cs d p h hw
    obtain ⟨n,rfl,⟨⟨d0,p0,t0,w0⟩,⟨d1,p1,t1,w1⟩,⟨d2,p2,t2,w2⟩,⟨d3,p3,t3,w3⟩,⟨d4,p4,t4,w4⟩,⟨d5,p5,t5,w5⟩,⟨d6,p6,t6,w6⟩,⟨d7,p7,t7,w7⟩,⟨d8,p8,t8,w8⟩,⟨d9,p9,t9,w9⟩,⟨d10,p10,t10,w10⟩,⟨d11,p11,t11,w11⟩,⟨d12,p12,t12,w12⟩,⟨d13,p13,t13,w13⟩,⟨d14,p14,t14,w14⟩,⟨d15,p15,t15,w15⟩,_⟩,hx⟩:=iG Tryz.underlying50 (by kernel_rfl) h hw
    obtain ⟨k,h0⟩:=gc Tryz.underlying3 t0
    obtain ⟨at_,l1,_,h1⟩:=Et t1 w1
    obtain ⟨to,l2,_,h2⟩:=Et t2 w2
    obtain ⟨wh,h3⟩:=gc Tryz.underlying3 t3
    obtain ⟨nt,h4⟩:=gc Tryz.underlying3 t4
    obtain ⟨u,f5,h5⟩:=Rn _ t5 w5
    obtain ⟨ol,l6,_,h6⟩:=Jx t6 w6
    obtain ⟨ne,l7,_,h7⟩:=Jx t7 w7
    obtain ⟨lb,h8⟩:=ni Tryz.underlying9 t8
    obtain ⟨fo,h9⟩:=ni Tryz.underlying9 t9
    obtain ⟨st,h10⟩:=EA t10 w10
    obtain ⟨ac,h11⟩:=gc Tryz.underlying3 t11
    obtain ⟨it,h12⟩:=gc Tryz.underlying3 t12
    obtain ⟨dy,h13⟩:=gc Tryz.underlying3 t13
    obtain ⟨ev,h14⟩:=ni Tryz.underlying9 t14
    obtain ⟨bs,l15,f15,h15⟩:=kS ME nQ Tryz.underlying48 (by kernel_rfl) (by kernel_rfl) (fun x=>by rw [QR,eV];rfl) (fun x=>by rw [eV];rfl) Gi
      (fun m hm cs d p h hw=>by
        obtain ⟨u,f,v⟩:=ih m (by omega) h hw
        exact ⟨u,f,by rw [eV];exact v⟩) t15 w15
    exact ⟨⟨k,at_,to,wh,nt,u,ol,ne,lb,fo,st,ac,it,dy,ev,bs⟩,qf.2 ⟨l1,l2,l6,l7,l15,f5,f15⟩,
      hx [[_], [_], [_], [_], [_],cU u, [_], [_], [_], [_], [_,_,_], [_], [_], [_], [_], [_]] ⟨h0,h1,h2,h3,h4,h5,h6,h7,h8,h9,h10,h11,h12,h13,h14,h15,trivial⟩⟩
theorem Pa {fuel:Nat} (h:DataW.trod enc Tryz.prog w base spare held fuel 48 cs=some (d,p)) (hw:Wt Tryz.prog 48 d) : ∃ l:List PItem,l.length<2 ^ 60∧(∀ x,x∈l→nQ x)∧VL (cq w) [.ls (l.map ME)] cs:=
  kS ME nQ Tryz.underlying48 (by kernel_rfl) (by kernel_rfl) (fun x=>by rw [QR,eV];rfl) (fun x=>by rw [eV];rfl) Gi
    (fun m _ cs d p h hw=>by
      obtain ⟨u,f,v⟩:=SI m h hw
      exact ⟨u,f,by rw [eV];exact v⟩) h hw
theorem WK {fuel:Nat} (h:DataW.trod enc Tryz.prog w base spare held fuel 110 cs=some (d,p)) (hw:Wt Tryz.prog 110 d) : ∃ x:PAct,QZ x∧VL (cq w) (av x).cells cs:=by
  obtain ⟨n,rfl,⟨⟨d0,p0,t0,w0⟩,⟨d1,p1,t1,w1⟩,⟨d2,p2,t2,w2⟩,⟨d3,p3,t3,w3⟩,⟨d4,p4,t4,w4⟩,_⟩,hx⟩:=iG Tryz.underlying110 (by kernel_rfl) h hw
  obtain ⟨a,h0⟩:=gc Tryz.underlying3 t0
  obtain ⟨ti,h1⟩:=ni Tryz.underlying9 t1
  obtain ⟨dy,h2⟩:=gc Tryz.underlying3 t2
  obtain ⟨st,h3⟩:=EA t3 w3
  obtain ⟨l,l4,f4,h4⟩:=Pa t4 w4
  exact ⟨⟨a,ti,dy,st,l⟩,⟨l4,f4⟩,hx [[_], [_], [_], [_,_,_], [_]] ⟨h0,h1,h2,h3,h4,trivial⟩⟩
theorem T5 {fuel:Nat} (h:DataW.trod enc Tryz.prog w base spare held fuel 56 cs=some (d,p)) (hw:Wt Tryz.prog 56 d) : ∃ l:List PAct,l.length<2 ^ 60∧(∀ x,x∈l→QZ x)∧VL (cq w) [.ls (l.map av)] cs:=
  kS av QZ Tryz.underlying56 (by kernel_rfl) (by kernel_rfl) (fun x=>(show (av x).cells.length=7 from rfl).trans Xi.symm) (fun _=>rfl) It (fun _ _ _ _ _ h hw=>WK h hw) h hw
theorem Vm {fuel:Nat} (h:DataW.trod enc Tryz.prog w base spare held fuel 58 cs=some (d,p)) (hw:Wt Tryz.prog 58 d) : ∃ x:PGaz,Vr x∧VL (cq w) (aM x).cells cs:=by
  obtain ⟨n,rfl,⟨⟨d0,p0,t0,w0⟩,⟨d1,p1,t1,w1⟩,⟨d2,p2,t2,w2⟩,⟨d3,p3,t3,w3⟩,_⟩,hx⟩:=iG Tryz.underlying58 (by kernel_rfl) h hw
  obtain ⟨a,h0⟩:=gc Tryz.underlying3 t0
  obtain ⟨dy,h1⟩:=gc Tryz.underlying3 t1
  obtain ⟨pr,h2⟩:=ni Tryz.underlying9 t2
  obtain ⟨l,l3,f3,h3⟩:=T5 t3 w3
  exact ⟨⟨a,dy,pr,l⟩,⟨l3,f3⟩,hx [[_], [_], [_], [_]] ⟨h0,h1,h2,h3,trivial⟩⟩
/-- Gazettes handed in. -/
theorem F5 {fuel:Nat} (h:DataW.trod enc Tryz.prog w base spare held fuel 22 cs=some (d,p)) (hw:Wt Tryz.prog 22 d) : ∃ gs:List PGaz,pb gs∧VL (cq w) [.ls (gs.map aM)] cs:=by
  obtain ⟨l,h1,h2,h3⟩:=kS aM Vr Tryz.underlying22 (by kernel_rfl) (by kernel_rfl) (fun x=>(show (aM x).cells.length=4 from rfl).trans Xh.symm) (fun _=>rfl) Is (fun _ _ _ _ _ h hw=>Vm h hw) h hw
  exact ⟨l,⟨h1,h2⟩,h3⟩
end
end Go.Proofs.YtidehekfpcgelaaGreatDoor
