/- A law's arguments: whatever gazettes are handed in, they are Lean data. -/
import Derived.Test.YtidehekfpcgelaaGreatDoorEva
import Derived.Test.YtidehekfpcgelaaGreatDoorMach8
namespace Go.Proofs.YtidehekfpcgelaaGreatDoor
open Go Go.Ev
section
variable{H:Type}{enc:TypeId×Value→H}{w:World}{base:Nat}{spare:Nat→Bool}{held:Bool}{cs:List Value}{d:DataW H}{p:List MemPlace}
theorem YS:Tryz.prog.cellsOf 90=4:=by kernel_rfl
theorem Y0:Tryz.prog.cellsOf 112=2:=by kernel_rfl
theorem YT:Tryz.prog.cellsOf 31=8:=by kernel_rfl
theorem S7:Tryz.prog.cellsOf 50=25:=by kernel_rfl
theorem aap:Tryz.prog.cellsOf 110=7:=by kernel_rfl
theorem aao:Tryz.prog.cellsOf 58=4:=by kernel_rfl
theorem aan:Tryz.prog.cellsOf 9=1:=by kernel_rfl
theorem aaa{fuel:Nat}(h:DataW.trod enc Tryz.prog w base spare held fuel 27 cs=some (d,p))(hw:Wt Tryz.prog 27 d):∃a b c,VL (cb w) [.int .i64 a,.int .i64 b,.int .i64 c] cs:=by
  obtain⟨n,rfl,⟨⟨d0,p0,t0,w0⟩,⟨d1,p1,t1,w1⟩,⟨d2,p2,t2,w2⟩,_⟩,hx⟩:=jJ Tryz.underlying27 (by kernel_rfl) h hw
  obtain⟨a,ha⟩:=gM Tryz.underlying3 t0
  obtain⟨b,hb⟩:=gM Tryz.underlying3 t1
  obtain⟨c,hc⟩:=gM Tryz.underlying3 t2
  exact⟨a,b,c,hx [[_],[_],[_]] ⟨ha,hb,hc,trivial⟩⟩
theorem VZ{fuel:Nat}(h:DataW.trod enc Tryz.prog w base spare held fuel 62 cs=some (d,p))(hw:Wt Tryz.prog 62 d):∃a b c,VL (cb w) [.int .i64 a,.int .i64 b,.int .i64 c] cs:=by
  obtain⟨n,rfl,⟨⟨d0,p0,t0,w0⟩,⟨d1,p1,t1,w1⟩,⟨d2,p2,t2,w2⟩,_⟩,hx⟩:=jJ Tryz.underlying62 (by kernel_rfl) h hw
  obtain⟨a,ha⟩:=gM Tryz.underlying3 t0
  obtain⟨b,hb⟩:=gM Tryz.underlying3 t1
  obtain⟨c,hc⟩:=gM Tryz.underlying3 t2
  exact⟨a,b,c,hx [[_],[_],[_]] ⟨ha,hb,hc,trivial⟩⟩
theorem TG{fuel:Nat}(h:DataW.trod enc Tryz.prog w base spare held fuel 90 cs=some (d,p))(hw:Wt Tryz.prog 90 d):∃x:PWord,True∧VL (cb w) (aQ x).cells cs:=by
  obtain⟨n,rfl,⟨⟨d0,p0,t0,w0⟩,⟨d1,p1,t1,w1⟩,_⟩,hx⟩:=jJ Tryz.underlying90 (by kernel_rfl) h hw
  obtain⟨s,hs⟩:=oX Tryz.underlying9 t0
  obtain⟨a,b,c,hm⟩:=VZ t1 w1
  exact⟨⟨s,a,b,c⟩,trivial,hx [[_],[_,_,_]] ⟨hs,hm,trivial⟩⟩
theorem T5{fuel:Nat}(h:DataW.trod enc Tryz.prog w base spare held fuel 112 cs=some (d,p))(hw:Wt Tryz.prog 112 d):∃x:PStep,True∧VL (cb w) (ax x).cells cs:=by
  obtain⟨n,rfl,⟨⟨d0,p0,t0,w0⟩,⟨d1,p1,t1,w1⟩,_⟩,hx⟩:=jJ Tryz.underlying112 (by kernel_rfl) h hw
  obtain⟨a,ha⟩:=gM Tryz.underlying3 t0
  obtain⟨s,hs⟩:=oX Tryz.underlying9 t1
  exact⟨⟨a,s⟩,trivial,hx [[_],[_]] ⟨ha,hs,trivial⟩⟩
theorem F5{fuel:Nat}(h:DataW.trod enc Tryz.prog w base spare held fuel 47 cs=some (d,p))(hw:Wt Tryz.prog 47 d):∃x:PStart,VL (cb w) [.int .i64 x.kind,.int .i64 x.day,.str x.event] cs:=by
  obtain⟨n,rfl,⟨⟨d0,p0,t0,w0⟩,⟨d1,p1,t1,w1⟩,⟨d2,p2,t2,w2⟩,_⟩,hx⟩:=jJ Tryz.underlying47 (by kernel_rfl) h hw
  obtain⟨a,ha⟩:=gM Tryz.underlying3 t0
  obtain⟨b,hb⟩:=gM Tryz.underlying3 t1
  obtain⟨s,hs⟩:=oX Tryz.underlying9 t2
  exact⟨⟨a,b,s⟩,hx [[_],[_],[_]] ⟨ha,hb,hs,trivial⟩⟩
theorem T4{fuel:Nat}(h:DataW.trod enc Tryz.prog w base spare held fuel 9 cs=some (d,p))(_:Wt Tryz.prog 9 d):∃x:aE,True∧VL (cb w) (nr x).cells cs:=by
  obtain⟨s,hs⟩:=oX Tryz.underlying9 h
  exact⟨s,trivial,hs⟩
theorem FG{fuel:Nat}(h:DataW.trod enc Tryz.prog w base spare held fuel 28 cs=some (d,p))(hw:Wt Tryz.prog 28 d):∃l:List PWord,l.length<2^60∧(∀x,x∈l→True)∧VL (cb w) [.ls (l.map aQ)] cs:=
  lE aQ (fun _=>True) Tryz.underlying28 (by kernel_rfl) (by kernel_rfl) (fun x=>(show(aQ x).cells.length=4 from rfl).trans YS.symm) (fun _=>rfl) iS (fun _ _ _ _ _ h hw=>TG h hw) h hw
theorem F3{fuel:Nat}(h:DataW.trod enc Tryz.prog w base spare held fuel 44 cs=some (d,p))(hw:Wt Tryz.prog 44 d):∃l:List PStep,l.length<2^60∧(∀x,x∈l→True)∧VL (cb w) [.ls (l.map ax)] cs:=
  lE ax (fun _=>True) Tryz.underlying44 (by kernel_rfl) (by kernel_rfl) (fun x=>(show(ax x).cells.length=2 from rfl).trans Y0.symm) (fun _=>rfl) HH (fun _ _ _ _ _ h hw=>T5 h hw) h hw
theorem K5{fuel:Nat}(h:DataW.trod enc Tryz.prog w base spare held fuel 45 cs=some (d,p))(hw:Wt Tryz.prog 45 d):∃l:List aE,l.length<2^60∧(∀x,x∈l→True)∧VL (cb w) [.ls (l.map nr)] cs:=
  lE nr (fun _=>True) Tryz.underlying45 (by kernel_rfl) (by kernel_rfl) (fun x=>(show(nr x).cells.length=1 from rfl).trans aan.symm) (fun _=>rfl) J3 (fun _ _ _ _ _ h hw=>T4 h hw) h hw
theorem TM(fuel:Nat):∀{cs:List Value}{d:DataW H}{p:List MemPlace},DataW.trod enc Tryz.prog w base spare held fuel 31 cs=some (d,p)→Wt Tryz.prog 31 d→∃u:TUnit,tw u∧VL (cb w) (cU u) cs:=by
  induction fuel using Nat.strongRecOn with
  | _ fuel ih=>
    intro cs d p h hw
    obtain⟨n,rfl,⟨⟨d0,p0,t0,w0⟩,⟨d1,p1,t1,w1⟩,⟨d2,p2,t2,w2⟩,⟨d3,p3,t3,w3⟩,⟨d4,p4,t4,w4⟩,⟨d5,p5,t5,w5⟩,_⟩,hx⟩:=jJ Tryz.underlying31 (by kernel_rfl) h hw
    obtain⟨a,b,c,h0⟩:=aaa t0 w0
    obtain⟨k,h1⟩:=gM Tryz.underlying3 t1
    obtain⟨l,h2⟩:=oX Tryz.underlying9 t2
    obtain⟨hd,l3,_,h3⟩:=FG t3 w3
    obtain⟨ws,l4,_,h4⟩:=FG t4 w4
    obtain⟨ks,l5,f5,h5⟩:=lE aY tw Tryz.underlying29 (by kernel_rfl) (by kernel_rfl) (fun x=>by rw[YT,aD];rfl) (fun x=>by rw[aD];rfl) ic
      (fun m hm cs d p h hw=>by
        obtain⟨u,f,v⟩:=ih m (by omega) h hw
        exact⟨u,f,by rw[aD];exact v⟩) t5 w5
    exact⟨⟨a,b,c,k,l,hd,ws,ks⟩,ry.2 ⟨l3,l4,l5,f5⟩,hx [[_,_,_],[_],[_],[_],[_],[_]] ⟨h0,h1,h2,h3,h4,h5,trivial⟩⟩
theorem Vz(fuel:Nat):∀{cs:List Value}{d:DataW H}{p:List MemPlace},DataW.trod enc Tryz.prog w base spare held fuel 50 cs=some (d,p)→Wt Tryz.prog 50 d→∃x:PItem,nL x∧VL (cb w) (cI x) cs:=by
  induction fuel using Nat.strongRecOn with
  | _ fuel ih=>
    intro cs d p h hw
    obtain⟨n,rfl,⟨⟨d0,p0,t0,w0⟩,⟨d1,p1,t1,w1⟩,⟨d2,p2,t2,w2⟩,⟨d3,p3,t3,w3⟩,⟨d4,p4,t4,w4⟩,⟨d5,p5,t5,w5⟩,⟨d6,p6,t6,w6⟩,⟨d7,p7,t7,w7⟩,⟨d8,p8,t8,w8⟩,⟨d9,p9,t9,w9⟩,⟨d10,p10,t10,w10⟩,⟨d11,p11,t11,w11⟩,⟨d12,p12,t12,w12⟩,⟨d13,p13,t13,w13⟩,⟨d14,p14,t14,w14⟩,⟨d15,p15,t15,w15⟩,_⟩,hx⟩:=jJ Tryz.underlying50 (by kernel_rfl) h hw
    obtain⟨k,h0⟩:=gM Tryz.underlying3 t0
    obtain⟨at_,l1,_,h1⟩:=F3 t1 w1
    obtain⟨to,l2,_,h2⟩:=F3 t2 w2
    obtain⟨wh,h3⟩:=gM Tryz.underlying3 t3
    obtain⟨nt,h4⟩:=gM Tryz.underlying3 t4
    obtain⟨u,f5,h5⟩:=TM _ t5 w5
    obtain⟨ol,l6,_,h6⟩:=K5 t6 w6
    obtain⟨ne,l7,_,h7⟩:=K5 t7 w7
    obtain⟨lb,h8⟩:=oX Tryz.underlying9 t8
    obtain⟨fo,h9⟩:=oX Tryz.underlying9 t9
    obtain⟨st,h10⟩:=F5 t10 w10
    obtain⟨ac,h11⟩:=gM Tryz.underlying3 t11
    obtain⟨it,h12⟩:=gM Tryz.underlying3 t12
    obtain⟨dy,h13⟩:=gM Tryz.underlying3 t13
    obtain⟨ev,h14⟩:=oX Tryz.underlying9 t14
    obtain⟨bs,l15,f15,h15⟩:=lE Ot nL Tryz.underlying48 (by kernel_rfl) (by kernel_rfl) (fun x=>by rw[S7,eu];rfl) (fun x=>by rw[eu];rfl) HM
      (fun m hm cs d p h hw=>by
        obtain⟨u,f,v⟩:=ih m (by omega) h hw
        exact⟨u,f,by rw[eu];exact v⟩) t15 w15
    exact⟨⟨k,at_,to,wh,nt,u,ol,ne,lb,fo,st,ac,it,dy,ev,bs⟩,ra.2 ⟨l1,l2,l6,l7,l15,f5,f15⟩,
      hx [[_],[_],[_],[_],[_],cU u,[_],[_],[_],[_],[_,_,_],[_],[_],[_],[_],[_]] ⟨h0,h1,h2,h3,h4,h5,h6,h7,h8,h9,h10,h11,h12,h13,h14,h15,trivial⟩⟩
theorem Ra{fuel:Nat}(h:DataW.trod enc Tryz.prog w base spare held fuel 48 cs=some (d,p))(hw:Wt Tryz.prog 48 d):∃l:List PItem,l.length<2^60∧(∀x,x∈l→nL x)∧VL (cb w) [.ls (l.map Ot)] cs:=
  lE Ot nL Tryz.underlying48 (by kernel_rfl) (by kernel_rfl) (fun x=>by rw[S7,eu];rfl) (fun x=>by rw[eu];rfl) HM
    (fun m _ cs d p h hw=>by
      obtain⟨u,f,v⟩:=Vz m h hw
      exact⟨u,f,by rw[eu];exact v⟩) h hw
theorem Y9{fuel:Nat}(h:DataW.trod enc Tryz.prog w base spare held fuel 110 cs=some (d,p))(hw:Wt Tryz.prog 110 d):∃x:PAct,SY x∧VL (cb w) (ay x).cells cs:=by
  obtain⟨n,rfl,⟨⟨d0,p0,t0,w0⟩,⟨d1,p1,t1,w1⟩,⟨d2,p2,t2,w2⟩,⟨d3,p3,t3,w3⟩,⟨d4,p4,t4,w4⟩,_⟩,hx⟩:=jJ Tryz.underlying110 (by kernel_rfl) h hw
  obtain⟨a,h0⟩:=gM Tryz.underlying3 t0
  obtain⟨ti,h1⟩:=oX Tryz.underlying9 t1
  obtain⟨dy,h2⟩:=gM Tryz.underlying3 t2
  obtain⟨st,h3⟩:=F5 t3 w3
  obtain⟨l,l4,f4,h4⟩:=Ra t4 w4
  exact⟨⟨a,ti,dy,st,l⟩,⟨l4,f4⟩,hx [[_],[_],[_],[_,_,_],[_]] ⟨h0,h1,h2,h3,h4,trivial⟩⟩
theorem Wm{fuel:Nat}(h:DataW.trod enc Tryz.prog w base spare held fuel 56 cs=some (d,p))(hw:Wt Tryz.prog 56 d):∃l:List PAct,l.length<2^60∧(∀x,x∈l→SY x)∧VL (cb w) [.ls (l.map ay)] cs:=
  lE ay SY Tryz.underlying56 (by kernel_rfl) (by kernel_rfl) (fun x=>(show(ay x).cells.length=7 from rfl).trans aap.symm) (fun _=>rfl) J5 (fun _ _ _ _ _ h hw=>Y9 h hw) h hw
theorem Ya{fuel:Nat}(h:DataW.trod enc Tryz.prog w base spare held fuel 58 cs=some (d,p))(hw:Wt Tryz.prog 58 d):∃x:PGaz,Yh x∧VL (cb w) (bZ x).cells cs:=by
  obtain⟨n,rfl,⟨⟨d0,p0,t0,w0⟩,⟨d1,p1,t1,w1⟩,⟨d2,p2,t2,w2⟩,⟨d3,p3,t3,w3⟩,_⟩,hx⟩:=jJ Tryz.underlying58 (by kernel_rfl) h hw
  obtain⟨a,h0⟩:=gM Tryz.underlying3 t0
  obtain⟨dy,h1⟩:=gM Tryz.underlying3 t1
  obtain⟨pr,h2⟩:=oX Tryz.underlying9 t2
  obtain⟨l,l3,f3,h3⟩:=Wm t3 w3
  exact⟨⟨a,dy,pr,l⟩,⟨l3,f3⟩,hx [[_],[_],[_],[_]] ⟨h0,h1,h2,h3,trivial⟩⟩
/-- Gazettes handed in. -/
theorem Hy{fuel:Nat}(h:DataW.trod enc Tryz.prog w base spare held fuel 22 cs=some (d,p))(hw:Wt Tryz.prog 22 d):∃gs:List PGaz,qq gs∧VL (cb w) [.ls (gs.map bZ)] cs:=by
  obtain⟨l,h1,h2,h3⟩:=lE bZ Yh Tryz.underlying22 (by kernel_rfl) (by kernel_rfl) (fun x=>(show(bZ x).cells.length=4 from rfl).trans aao.symm) (fun _=>rfl) J4 (fun _ _ _ _ _ h hw=>Ya h hw) h hw
  exact⟨l,⟨h1,h2⟩,h3⟩
end
end Go.Proofs.YtidehekfpcgelaaGreatDoor
