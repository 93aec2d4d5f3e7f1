/- A law's arguments: whatever gazettes are handed in, they are Lean data. -/
import Derived.Test.YtjokefckffbpeaaGreatDoorEva
import Derived.Test.YtjokefckffbpeaaGreatDoorMach7
namespace Go.Proofs.YtjokefckffbpeaaGreatDoor
open Go Go.Ev
section
variable{H:Type}{enc:TypeId×Value→H}{w:World}{base:Nat}{spare:Nat→Bool}{held:Bool}{cs:List Value}{d:DataW H}{p:List MemPlace}
theorem XY:Tryz.prog.cellsOf 91=4:=by kernel_rfl
theorem Xq:Tryz.prog.cellsOf 58=2:=by kernel_rfl
theorem XU:Tryz.prog.cellsOf 36=8:=by kernel_rfl
theorem RI:Tryz.prog.cellsOf 54=25:=by kernel_rfl
theorem YP:Tryz.prog.cellsOf 56=7:=by kernel_rfl
theorem YO:Tryz.prog.cellsOf 61=4:=by kernel_rfl
theorem YN:Tryz.prog.cellsOf 9=1:=by kernel_rfl
theorem Yl{fuel:Nat}(h:DataW.trod enc Tryz.prog w base spare held fuel 24 cs=some (d,p))(hw:Wt Tryz.prog 24 d):∃a b c,VL (cq w) [.int .i64 a,.int .i64 b,.int .i64 c] cs:=by
  obtain⟨n,rfl,⟨⟨d0,p0,t0,w0⟩,⟨d1,p1,t1,w1⟩,⟨d2,p2,t2,w2⟩,_⟩,hx⟩:=iT Tryz.underlying24 (by kernel_rfl) h hw
  obtain⟨a,ha⟩:=gi Tryz.underlying3 t0
  obtain⟨b,hb⟩:=gi Tryz.underlying3 t1
  obtain⟨c,hc⟩:=gi Tryz.underlying3 t2
  exact⟨a,b,c,hx [[_],[_],[_]] ⟨ha,hb,hc,trivial⟩⟩
theorem Tu{fuel:Nat}(h:DataW.trod enc Tryz.prog w base spare held fuel 89 cs=some (d,p))(hw:Wt Tryz.prog 89 d):∃a b c,VL (cq w) [.int .i64 a,.int .i64 b,.int .i64 c] cs:=by
  obtain⟨n,rfl,⟨⟨d0,p0,t0,w0⟩,⟨d1,p1,t1,w1⟩,⟨d2,p2,t2,w2⟩,_⟩,hx⟩:=iT Tryz.underlying89 (by kernel_rfl) h hw
  obtain⟨a,ha⟩:=gi Tryz.underlying3 t0
  obtain⟨b,hb⟩:=gi Tryz.underlying3 t1
  obtain⟨c,hc⟩:=gi Tryz.underlying3 t2
  exact⟨a,b,c,hx [[_],[_],[_]] ⟨ha,hb,hc,trivial⟩⟩
theorem Sm{fuel:Nat}(h:DataW.trod enc Tryz.prog w base spare held fuel 91 cs=some (d,p))(hw:Wt Tryz.prog 91 d):∃x:PWord,True∧VL (cq w) (aQ x).cells cs:=by
  obtain⟨n,rfl,⟨⟨d0,p0,t0,w0⟩,⟨d1,p1,t1,w1⟩,_⟩,hx⟩:=iT Tryz.underlying91 (by kernel_rfl) h hw
  obtain⟨s,hs⟩:=nF Tryz.underlying9 t0
  obtain⟨a,b,c,hm⟩:=Tu t1 w1
  exact⟨⟨s,a,b,c⟩,trivial,hx [[_],[_,_,_]] ⟨hs,hm,trivial⟩⟩
theorem SF{fuel:Nat}(h:DataW.trod enc Tryz.prog w base spare held fuel 58 cs=some (d,p))(hw:Wt Tryz.prog 58 d):∃x:PStep,True∧VL (cq w) (az x).cells cs:=by
  obtain⟨n,rfl,⟨⟨d0,p0,t0,w0⟩,⟨d1,p1,t1,w1⟩,_⟩,hx⟩:=iT Tryz.underlying58 (by kernel_rfl) h hw
  obtain⟨a,ha⟩:=gi Tryz.underlying3 t0
  obtain⟨s,hs⟩:=nF Tryz.underlying9 t1
  exact⟨⟨a,s⟩,trivial,hx [[_],[_]] ⟨ha,hs,trivial⟩⟩
theorem E2{fuel:Nat}(h:DataW.trod enc Tryz.prog w base spare held fuel 50 cs=some (d,p))(hw:Wt Tryz.prog 50 d):∃x:PStart,VL (cq w) [.int .i64 x.kind,.int .i64 x.day,.str x.event] cs:=by
  obtain⟨n,rfl,⟨⟨d0,p0,t0,w0⟩,⟨d1,p1,t1,w1⟩,⟨d2,p2,t2,w2⟩,_⟩,hx⟩:=iT Tryz.underlying50 (by kernel_rfl) h hw
  obtain⟨a,ha⟩:=gi Tryz.underlying3 t0
  obtain⟨b,hb⟩:=gi Tryz.underlying3 t1
  obtain⟨s,hs⟩:=nF Tryz.underlying9 t2
  exact⟨⟨a,b,s⟩,hx [[_],[_],[_]] ⟨ha,hb,hs,trivial⟩⟩
theorem SE{fuel:Nat}(h:DataW.trod enc Tryz.prog w base spare held fuel 9 cs=some (d,p))(_:Wt Tryz.prog 9 d):∃x:aO,True∧VL (cq w) (m0 x).cells cs:=by
  obtain⟨s,hs⟩:=nF Tryz.underlying9 h
  exact⟨s,trivial,hs⟩
theorem EF{fuel:Nat}(h:DataW.trod enc Tryz.prog w base spare held fuel 33 cs=some (d,p))(hw:Wt Tryz.prog 33 d):∃l:List PWord,l.length<2^60∧(∀x,x∈l→True)∧VL (cq w) [.ls (l.map aQ)] cs:=
  lz aQ (fun _=>True) Tryz.underlying33 (by kernel_rfl) (by kernel_rfl) (fun x=>(show(aQ x).cells.length=4 from rfl).trans XY.symm) (fun _=>rfl) iG (fun _ _ _ _ _ h hw=>Sm h hw) h hw
theorem ET{fuel:Nat}(h:DataW.trod enc Tryz.prog w base spare held fuel 51 cs=some (d,p))(hw:Wt Tryz.prog 51 d):∃l:List PStep,l.length<2^60∧(∀x,x∈l→True)∧VL (cq w) [.ls (l.map az)] cs:=
  lz az (fun _=>True) Tryz.underlying51 (by kernel_rfl) (by kernel_rfl) (fun x=>(show(az x).cells.length=2 from rfl).trans Xq.symm) (fun _=>rfl) GP (fun _ _ _ _ _ h hw=>SF h hw) h hw
theorem JM{fuel:Nat}(h:DataW.trod enc Tryz.prog w base spare held fuel 47 cs=some (d,p))(hw:Wt Tryz.prog 47 d):∃l:List aO,l.length<2^60∧(∀x,x∈l→True)∧VL (cq w) [.ls (l.map m0)] cs:=
  lz m0 (fun _=>True) Tryz.underlying47 (by kernel_rfl) (by kernel_rfl) (fun x=>(show(m0 x).cells.length=1 from rfl).trans YN.symm) (fun _=>rfl) JW (fun _ _ _ _ _ h hw=>SE h hw) h hw
theorem Ss(fuel:Nat):∀{cs:List Value}{d:DataW H}{p:List MemPlace},DataW.trod enc Tryz.prog w base spare held fuel 36 cs=some (d,p)→Wt Tryz.prog 36 d→∃u:TUnit,oy u∧VL (cq w) (cU u) cs:=by
  induction fuel using Nat.strongRecOn with
  | _ fuel ih=>
    intro cs d p h hw
    obtain⟨n,rfl,⟨⟨d0,p0,t0,w0⟩,⟨d1,p1,t1,w1⟩,⟨d2,p2,t2,w2⟩,⟨d3,p3,t3,w3⟩,⟨d4,p4,t4,w4⟩,⟨d5,p5,t5,w5⟩,_⟩,hx⟩:=iT Tryz.underlying36 (by kernel_rfl) h hw
    obtain⟨a,b,c,h0⟩:=Yl t0 w0
    obtain⟨k,h1⟩:=gi Tryz.underlying3 t1
    obtain⟨l,h2⟩:=nF Tryz.underlying9 t2
    obtain⟨hd,l3,_,h3⟩:=EF t3 w3
    obtain⟨ws,l4,_,h4⟩:=EF t4 w4
    obtain⟨ks,l5,f5,h5⟩:=lz aV oy Tryz.underlying34 (by kernel_rfl) (by kernel_rfl) (fun x=>by rw[XU,aR];rfl) (fun x=>by rw[aR];rfl) iK
      (fun m hm cs d p h hw=>by
        obtain⟨u,f,v⟩:=ih m (by omega) h hw
        exact⟨u,f,by rw[aR];exact v⟩) t5 w5
    exact⟨⟨a,b,c,k,l,hd,ws,ks⟩,ov.2 ⟨l3,l4,l5,f5⟩,hx [[_,_,_],[_],[_],[_],[_],[_]] ⟨h0,h1,h2,h3,h4,h5,trivial⟩⟩
theorem TG(fuel:Nat):∀{cs:List Value}{d:DataW H}{p:List MemPlace},DataW.trod enc Tryz.prog w base spare held fuel 54 cs=some (d,p)→Wt Tryz.prog 54 d→∃x:PItem,nW x∧VL (cq w) (cI x) cs:=by
  induction fuel using Nat.strongRecOn with
  | _ fuel ih=>
    intro cs d p h hw
    obtain⟨n,rfl,⟨⟨d0,p0,t0,w0⟩,⟨d1,p1,t1,w1⟩,⟨d2,p2,t2,w2⟩,⟨d3,p3,t3,w3⟩,⟨d4,p4,t4,w4⟩,⟨d5,p5,t5,w5⟩,⟨d6,p6,t6,w6⟩,⟨d7,p7,t7,w7⟩,⟨d8,p8,t8,w8⟩,⟨d9,p9,t9,w9⟩,⟨d10,p10,t10,w10⟩,⟨d11,p11,t11,w11⟩,⟨d12,p12,t12,w12⟩,⟨d13,p13,t13,w13⟩,⟨d14,p14,t14,w14⟩,⟨d15,p15,t15,w15⟩,_⟩,hx⟩:=iT Tryz.underlying54 (by kernel_rfl) h hw
    obtain⟨k,h0⟩:=gi Tryz.underlying3 t0
    obtain⟨at_,l1,_,h1⟩:=ET t1 w1
    obtain⟨to,l2,_,h2⟩:=ET t2 w2
    obtain⟨wh,h3⟩:=gi Tryz.underlying3 t3
    obtain⟨nt,h4⟩:=gi Tryz.underlying3 t4
    obtain⟨u,f5,h5⟩:=Ss _ t5 w5
    obtain⟨ol,l6,_,h6⟩:=JM t6 w6
    obtain⟨ne,l7,_,h7⟩:=JM t7 w7
    obtain⟨lb,h8⟩:=nF Tryz.underlying9 t8
    obtain⟨fo,h9⟩:=nF Tryz.underlying9 t9
    obtain⟨st,h10⟩:=E2 t10 w10
    obtain⟨ac,h11⟩:=gi Tryz.underlying3 t11
    obtain⟨it,h12⟩:=gi Tryz.underlying3 t12
    obtain⟨dy,h13⟩:=gi Tryz.underlying3 t13
    obtain⟨ev,h14⟩:=nF Tryz.underlying9 t14
    obtain⟨bs,l15,f15,h15⟩:=lz NA nW Tryz.underlying52 (by kernel_rfl) (by kernel_rfl) (fun x=>by rw[RI,eb];rfl) (fun x=>by rw[eb];rfl) GT
      (fun m hm cs d p h hw=>by
        obtain⟨u,f,v⟩:=ih m (by omega) h hw
        exact⟨u,f,by rw[eb];exact v⟩) t15 w15
    exact⟨⟨k,at_,to,wh,nt,u,ol,ne,lb,fo,st,ac,it,dy,ev,bs⟩,qA.2 ⟨l1,l2,l6,l7,l15,f5,f15⟩,
      hx [[_],[_],[_],[_],[_],cU u,[_],[_],[_],[_],[_,_,_],[_],[_],[_],[_],[_]] ⟨h0,h1,h2,h3,h4,h5,h6,h7,h8,h9,h10,h11,h12,h13,h14,h15,trivial⟩⟩
theorem Qw{fuel:Nat}(h:DataW.trod enc Tryz.prog w base spare held fuel 52 cs=some (d,p))(hw:Wt Tryz.prog 52 d):∃l:List PItem,l.length<2^60∧(∀x,x∈l→nW x)∧VL (cq w) [.ls (l.map NA)] cs:=
  lz NA nW Tryz.underlying52 (by kernel_rfl) (by kernel_rfl) (fun x=>by rw[RI,eb];rfl) (fun x=>by rw[eb];rfl) GT
    (fun m _ cs d p h hw=>by
      obtain⟨u,f,v⟩:=TG m h hw
      exact⟨u,f,by rw[eb];exact v⟩) h hw
theorem Xe{fuel:Nat}(h:DataW.trod enc Tryz.prog w base spare held fuel 56 cs=some (d,p))(hw:Wt Tryz.prog 56 d):∃x:PAct,Q4 x∧VL (cq w) (ab x).cells cs:=by
  obtain⟨n,rfl,⟨⟨d0,p0,t0,w0⟩,⟨d1,p1,t1,w1⟩,⟨d2,p2,t2,w2⟩,⟨d3,p3,t3,w3⟩,⟨d4,p4,t4,w4⟩,_⟩,hx⟩:=iT Tryz.underlying56 (by kernel_rfl) h hw
  obtain⟨a,h0⟩:=gi Tryz.underlying3 t0
  obtain⟨ti,h1⟩:=nF Tryz.underlying9 t1
  obtain⟨dy,h2⟩:=gi Tryz.underlying3 t2
  obtain⟨st,h3⟩:=E2 t3 w3
  obtain⟨l,l4,f4,h4⟩:=Qw t4 w4
  exact⟨⟨a,ti,dy,st,l⟩,⟨l4,f4⟩,hx [[_],[_],[_],[_,_,_],[_]] ⟨h0,h1,h2,h3,h4,trivial⟩⟩
theorem U8{fuel:Nat}(h:DataW.trod enc Tryz.prog w base spare held fuel 59 cs=some (d,p))(hw:Wt Tryz.prog 59 d):∃l:List PAct,l.length<2^60∧(∀x,x∈l→Q4 x)∧VL (cq w) [.ls (l.map ab)] cs:=
  lz ab Q4 Tryz.underlying59 (by kernel_rfl) (by kernel_rfl) (fun x=>(show(ab x).cells.length=7 from rfl).trans YP.symm) (fun _=>rfl) JY (fun _ _ _ _ _ h hw=>Xe h hw) h hw
theorem WB{fuel:Nat}(h:DataW.trod enc Tryz.prog w base spare held fuel 61 cs=some (d,p))(hw:Wt Tryz.prog 61 d):∃x:PGaz,WH x∧VL (cq w) (al x).cells cs:=by
  obtain⟨n,rfl,⟨⟨d0,p0,t0,w0⟩,⟨d1,p1,t1,w1⟩,⟨d2,p2,t2,w2⟩,⟨d3,p3,t3,w3⟩,_⟩,hx⟩:=iT Tryz.underlying61 (by kernel_rfl) h hw
  obtain⟨a,h0⟩:=gi Tryz.underlying3 t0
  obtain⟨dy,h1⟩:=gi Tryz.underlying3 t1
  obtain⟨pr,h2⟩:=nF Tryz.underlying9 t2
  obtain⟨l,l3,f3,h3⟩:=U8 t3 w3
  exact⟨⟨a,dy,pr,l⟩,⟨l3,f3⟩,hx [[_],[_],[_],[_]] ⟨h0,h1,h2,h3,trivial⟩⟩
/-- Gazettes handed in. -/
theorem Gb{fuel:Nat}(h:DataW.trod enc Tryz.prog w base spare held fuel 22 cs=some (d,p))(hw:Wt Tryz.prog 22 d):∃gs:List PGaz,oa gs∧VL (cq w) [.ls (gs.map al)] cs:=by
  obtain⟨l,h1,h2,h3⟩:=lz al WH Tryz.underlying22 (by kernel_rfl) (by kernel_rfl) (fun x=>(show(al x).cells.length=4 from rfl).trans YO.symm) (fun _=>rfl) JV (fun _ _ _ _ _ h hw=>WB h hw) h hw
  exact⟨l,⟨h1,h2⟩,h3⟩
end
end Go.Proofs.YtjokefckffbpeaaGreatDoor
