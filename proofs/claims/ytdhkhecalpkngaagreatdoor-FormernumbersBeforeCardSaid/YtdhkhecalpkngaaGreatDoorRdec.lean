/- A law's arguments: whatever gazettes are handed in, they are Lean data. -/
import Derived.Test.YtdhkhecalpkngaaGreatDoorEva
import Derived.Test.YtdhkhecalpkngaaGreatDoorMach7
namespace Go.Proofs.YtdhkhecalpkngaaGreatDoor
open Go Go.Ev
section
variable{H:Type}{enc:TypeId×Value->H}{w:World}{base:Nat}{spare:Nat->Bool}{held:Bool}{cs:List Value}{d:DataW H}{p:List MemPlace}
theorem XE:Tryz.prog.cellsOf 125=4:=by kernel_rfl
theorem SZ:Tryz.prog.cellsOf 68=2:=by kernel_rfl
theorem XF:Tryz.prog.cellsOf 30=8:=by kernel_rfl
theorem SX:Tryz.prog.cellsOf 60=25:=by kernel_rfl
theorem ZV:Tryz.prog.cellsOf 74=7:=by kernel_rfl
theorem ZK:Tryz.prog.cellsOf 72=4:=by kernel_rfl
theorem ZJ:Tryz.prog.cellsOf 9=1:=by kernel_rfl
theorem YR{fuel:Nat}(h:DataW.trod enc Tryz.prog w base spare held fuel 26 cs=some (d,p))(hw:Wt Tryz.prog 26 d):∃a b c,VL (b0 w) [.int .i64 a,.int .i64 b,.int .i64 c] cs:=by
  obtain⟨n,rfl,⟨⟨d0,p0,t0,w0⟩,⟨d1,p1,t1,w1⟩,⟨d2,p2,t2,w2⟩,_⟩,hx⟩:=gu Tryz.underlying26 (by kernel_rfl) h hw
  obtain⟨a,ha⟩:=fH Tryz.underlying3 t0
  obtain⟨b,hb⟩:=fH Tryz.underlying3 t1
  obtain⟨c,hc⟩:=fH Tryz.underlying3 t2
  exact⟨a,b,c,hx [[_],[_],[_]] ⟨ha,hb,hc,trivial⟩⟩
theorem T5{fuel:Nat}(h:DataW.trod enc Tryz.prog w base spare held fuel 123 cs=some (d,p))(hw:Wt Tryz.prog 123 d):∃a b c,VL (b0 w) [.int .i64 a,.int .i64 b,.int .i64 c] cs:=by
  obtain⟨n,rfl,⟨⟨d0,p0,t0,w0⟩,⟨d1,p1,t1,w1⟩,⟨d2,p2,t2,w2⟩,_⟩,hx⟩:=gu Tryz.underlying123 (by kernel_rfl) h hw
  obtain⟨a,ha⟩:=fH Tryz.underlying3 t0
  obtain⟨b,hb⟩:=fH Tryz.underlying3 t1
  obtain⟨c,hc⟩:=fH Tryz.underlying3 t2
  exact⟨a,b,c,hx [[_],[_],[_]] ⟨ha,hb,hc,trivial⟩⟩
theorem SM{fuel:Nat}(h:DataW.trod enc Tryz.prog w base spare held fuel 125 cs=some (d,p))(hw:Wt Tryz.prog 125 d):∃x:PWord,True/\VL (b0 w) (aQ x).cells cs:=by
  obtain⟨n,rfl,⟨⟨d0,p0,t0,w0⟩,⟨d1,p1,t1,w1⟩,_⟩,hx⟩:=gu Tryz.underlying125 (by kernel_rfl) h hw
  obtain⟨s,hs⟩:=nR Tryz.underlying9 t0
  obtain⟨a,b,c,hm⟩:=T5 t1 w1
  exact⟨⟨s,a,b,c⟩,trivial,hx [[_],[_,_,_]] ⟨hs,hm,trivial⟩⟩
theorem S7{fuel:Nat}(h:DataW.trod enc Tryz.prog w base spare held fuel 68 cs=some (d,p))(hw:Wt Tryz.prog 68 d):∃x:PStep,True/\VL (b0 w) (aY x).cells cs:=by
  obtain⟨n,rfl,⟨⟨d0,p0,t0,w0⟩,⟨d1,p1,t1,w1⟩,_⟩,hx⟩:=gu Tryz.underlying68 (by kernel_rfl) h hw
  obtain⟨a,ha⟩:=fH Tryz.underlying3 t0
  obtain⟨s,hs⟩:=nR Tryz.underlying9 t1
  exact⟨⟨a,s⟩,trivial,hx [[_],[_]] ⟨ha,hs,trivial⟩⟩
theorem Fp{fuel:Nat}(h:DataW.trod enc Tryz.prog w base spare held fuel 57 cs=some (d,p))(hw:Wt Tryz.prog 57 d):∃x:PStart,VL (b0 w) [.int .i64 x.kind,.int .i64 x.day,.str x.event] cs:=by
  obtain⟨n,rfl,⟨⟨d0,p0,t0,w0⟩,⟨d1,p1,t1,w1⟩,⟨d2,p2,t2,w2⟩,_⟩,hx⟩:=gu Tryz.underlying57 (by kernel_rfl) h hw
  obtain⟨a,ha⟩:=fH Tryz.underlying3 t0
  obtain⟨b,hb⟩:=fH Tryz.underlying3 t1
  obtain⟨s,hs⟩:=nR Tryz.underlying9 t2
  exact⟨⟨a,b,s⟩,hx [[_],[_],[_]] ⟨ha,hb,hs,trivial⟩⟩
theorem S5{fuel:Nat}(h:DataW.trod enc Tryz.prog w base spare held fuel 9 cs=some (d,p))(_:Wt Tryz.prog 9 d):∃x:bZ,True/\VL (b0 w) (nK x).cells cs:=by
  obtain⟨s,hs⟩:=nR Tryz.underlying9 h
  exact⟨s,trivial,hs⟩
theorem Fx{fuel:Nat}(h:DataW.trod enc Tryz.prog w base spare held fuel 27 cs=some (d,p))(hw:Wt Tryz.prog 27 d):∃l:List PWord,l.length<2^60/\(∀x,x∈l->True)/\VL (b0 w) [.ls (l.map aQ)] cs:=
  kK aQ (fun _=>True) Tryz.underlying27 (by kernel_rfl) (by kernel_rfl) (fun x=>(show(aQ x).cells.length=4 from rfl).trans XE.symm) (fun _=>rfl) iS (fun _ _ _ _ _ h hw=>SM h hw) h hw
theorem Fo{fuel:Nat}(h:DataW.trod enc Tryz.prog w base spare held fuel 34 cs=some (d,p))(hw:Wt Tryz.prog 34 d):∃l:List PStep,l.length<2^60/\(∀x,x∈l->True)/\VL (b0 w) [.ls (l.map aY)] cs:=
  kK aY (fun _=>True) Tryz.underlying34 (by kernel_rfl) (by kernel_rfl) (fun x=>(show(aY x).cells.length=2 from rfl).trans SZ.symm) (fun _=>rfl) xf (fun _ _ _ _ _ h hw=>S7 h hw) h hw
theorem KX{fuel:Nat}(h:DataW.trod enc Tryz.prog w base spare held fuel 37 cs=some (d,p))(hw:Wt Tryz.prog 37 d):∃l:List bZ,l.length<2^60/\(∀x,x∈l->True)/\VL (b0 w) [.ls (l.map nK)] cs:=
  kK nK (fun _=>True) Tryz.underlying37 (by kernel_rfl) (by kernel_rfl) (fun x=>(show(nK x).cells.length=1 from rfl).trans ZJ.symm) (fun _=>rfl) Ji (fun _ _ _ _ _ h hw=>S5 h hw) h hw
theorem SR(fuel:Nat):∀{cs:List Value}{d:DataW H}{p:List MemPlace},DataW.trod enc Tryz.prog w base spare held fuel 30 cs=some (d,p)->Wt Tryz.prog 30 d->∃u:TUnit,tK u/\VL (b0 w) (cU u) cs:=by
  induction fuel using Nat.strongRecOn with
  | _ fuel ih=>
    intro cs d p h hw
    obtain⟨n,rfl,⟨⟨d0,p0,t0,w0⟩,⟨d1,p1,t1,w1⟩,⟨d2,p2,t2,w2⟩,⟨d3,p3,t3,w3⟩,⟨d4,p4,t4,w4⟩,⟨d5,p5,t5,w5⟩,_⟩,hx⟩:=gu Tryz.underlying30 (by kernel_rfl) h hw
    obtain⟨a,b,c,h0⟩:=YR t0 w0
    obtain⟨k,h1⟩:=fH Tryz.underlying3 t1
    obtain⟨l,h2⟩:=nR Tryz.underlying9 t2
    obtain⟨hd,l3,_,h3⟩:=Fx t3 w3
    obtain⟨ws,l4,_,h4⟩:=Fx t4 w4
    obtain⟨ks,l5,f5,h5⟩:=kK aq tK Tryz.underlying28 (by kernel_rfl) (by kernel_rfl) (fun x=>by rw[XF,aR];rfl) (fun x=>by rw[aR];rfl) iU
      (fun m hm cs d p h hw=>by
        obtain⟨u,f,v⟩:=ih m (by omega) h hw
        exact⟨u,f,by rw[aR];exact v⟩) t5 w5
    exact⟨⟨a,b,c,k,l,hd,ws,ks⟩,qR.2 ⟨l3,l4,l5,f5⟩,hx [[_,_,_],[_],[_],[_],[_],[_]] ⟨h0,h1,h2,h3,h4,h5,trivial⟩⟩
theorem UX(fuel:Nat):∀{cs:List Value}{d:DataW H}{p:List MemPlace},DataW.trod enc Tryz.prog w base spare held fuel 60 cs=some (d,p)->Wt Tryz.prog 60 d->∃x:PItem,nc x/\VL (b0 w) (cI x) cs:=by
  induction fuel using Nat.strongRecOn with
  | _ fuel ih=>
    intro cs d p h hw
    obtain⟨n,rfl,⟨⟨d0,p0,t0,w0⟩,⟨d1,p1,t1,w1⟩,⟨d2,p2,t2,w2⟩,⟨d3,p3,t3,w3⟩,⟨d4,p4,t4,w4⟩,⟨d5,p5,t5,w5⟩,⟨d6,p6,t6,w6⟩,⟨d7,p7,t7,w7⟩,⟨d8,p8,t8,w8⟩,⟨d9,p9,t9,w9⟩,⟨d10,p10,t10,w10⟩,⟨d11,p11,t11,w11⟩,⟨d12,p12,t12,w12⟩,⟨d13,p13,t13,w13⟩,⟨d14,p14,t14,w14⟩,⟨d15,p15,t15,w15⟩,_⟩,hx⟩:=gu Tryz.underlying60 (by kernel_rfl) h hw
    obtain⟨k,h0⟩:=fH Tryz.underlying3 t0
    obtain⟨at_,l1,_,h1⟩:=Fo t1 w1
    obtain⟨to,l2,_,h2⟩:=Fo t2 w2
    obtain⟨wh,h3⟩:=fH Tryz.underlying3 t3
    obtain⟨nt,h4⟩:=fH Tryz.underlying3 t4
    obtain⟨u,f5,h5⟩:=SR _ t5 w5
    obtain⟨ol,l6,_,h6⟩:=KX t6 w6
    obtain⟨ne,l7,_,h7⟩:=KX t7 w7
    obtain⟨lb,h8⟩:=nR Tryz.underlying9 t8
    obtain⟨fo,h9⟩:=nR Tryz.underlying9 t9
    obtain⟨st,h10⟩:=Fp t10 w10
    obtain⟨ac,h11⟩:=fH Tryz.underlying3 t11
    obtain⟨it,h12⟩:=fH Tryz.underlying3 t12
    obtain⟨dy,h13⟩:=fH Tryz.underlying3 t13
    obtain⟨ev,h14⟩:=nR Tryz.underlying9 t14
    obtain⟨bs,l15,f15,h15⟩:=kK NO nc Tryz.underlying58 (by kernel_rfl) (by kernel_rfl) (fun x=>by rw[SX,eb];rfl) (fun x=>by rw[eb];rfl) Hg
      (fun m hm cs d p h hw=>by
        obtain⟨u,f,v⟩:=ih m (by omega) h hw
        exact⟨u,f,by rw[eb];exact v⟩) t15 w15
    exact⟨⟨k,at_,to,wh,nt,u,ol,ne,lb,fo,st,ac,it,dy,ev,bs⟩,qS.2 ⟨l1,l2,l6,l7,l15,f5,f15⟩,
      hx [[_],[_],[_],[_],[_],cU u,[_],[_],[_],[_],[_,_,_],[_],[_],[_],[_],[_]] ⟨h0,h1,h2,h3,h4,h5,h6,h7,h8,h9,h10,h11,h12,h13,h14,h15,trivial⟩⟩
theorem Qa{fuel:Nat}(h:DataW.trod enc Tryz.prog w base spare held fuel 58 cs=some (d,p))(hw:Wt Tryz.prog 58 d):∃l:List PItem,l.length<2^60/\(∀x,x∈l->nc x)/\VL (b0 w) [.ls (l.map NO)] cs:=
  kK NO nc Tryz.underlying58 (by kernel_rfl) (by kernel_rfl) (fun x=>by rw[SX,eb];rfl) (fun x=>by rw[eb];rfl) Hg
    (fun m _ cs d p h hw=>by
      obtain⟨u,f,v⟩:=UX m h hw
      exact⟨u,f,by rw[eb];exact v⟩) h hw
theorem XS{fuel:Nat}(h:DataW.trod enc Tryz.prog w base spare held fuel 74 cs=some (d,p))(hw:Wt Tryz.prog 74 d):∃x:PAct,RZ x/\VL (b0 w) (ay x).cells cs:=by
  obtain⟨n,rfl,⟨⟨d0,p0,t0,w0⟩,⟨d1,p1,t1,w1⟩,⟨d2,p2,t2,w2⟩,⟨d3,p3,t3,w3⟩,⟨d4,p4,t4,w4⟩,_⟩,hx⟩:=gu Tryz.underlying74 (by kernel_rfl) h hw
  obtain⟨a,h0⟩:=fH Tryz.underlying3 t0
  obtain⟨ti,h1⟩:=nR Tryz.underlying9 t1
  obtain⟨dy,h2⟩:=fH Tryz.underlying3 t2
  obtain⟨st,h3⟩:=Fp t3 w3
  obtain⟨l,l4,f4,h4⟩:=Qa t4 w4
  exact⟨⟨a,ti,dy,st,l⟩,⟨l4,f4⟩,hx [[_],[_],[_],[_,_,_],[_]] ⟨h0,h1,h2,h3,h4,trivial⟩⟩
theorem Vd{fuel:Nat}(h:DataW.trod enc Tryz.prog w base spare held fuel 70 cs=some (d,p))(hw:Wt Tryz.prog 70 d):∃l:List PAct,l.length<2^60/\(∀x,x∈l->RZ x)/\VL (b0 w) [.ls (l.map ay)] cs:=
  kK ay RZ Tryz.underlying70 (by kernel_rfl) (by kernel_rfl) (fun x=>(show(ay x).cells.length=7 from rfl).trans ZV.symm) (fun _=>rfl) Jn (fun _ _ _ _ _ h hw=>XS h hw) h hw
theorem XV{fuel:Nat}(h:DataW.trod enc Tryz.prog w base spare held fuel 72 cs=some (d,p))(hw:Wt Tryz.prog 72 d):∃x:PGaz,Xx x/\VL (b0 w) (am x).cells cs:=by
  obtain⟨n,rfl,⟨⟨d0,p0,t0,w0⟩,⟨d1,p1,t1,w1⟩,⟨d2,p2,t2,w2⟩,⟨d3,p3,t3,w3⟩,_⟩,hx⟩:=gu Tryz.underlying72 (by kernel_rfl) h hw
  obtain⟨a,h0⟩:=fH Tryz.underlying3 t0
  obtain⟨dy,h1⟩:=fH Tryz.underlying3 t1
  obtain⟨pr,h2⟩:=nR Tryz.underlying9 t2
  obtain⟨l,l3,f3,h3⟩:=Vd t3 w3
  exact⟨⟨a,dy,pr,l⟩,⟨l3,f3⟩,hx [[_],[_],[_],[_]] ⟨h0,h1,h2,h3,trivial⟩⟩
theorem G6{fuel:Nat}(h:DataW.trod enc Tryz.prog w base spare held fuel 22 cs=some (d,p))(hw:Wt Tryz.prog 22 d):∃gs:List PGaz,pF gs/\VL (b0 w) [.ls (gs.map am)] cs:=by
  obtain⟨l,h1,h2,h3⟩:=kK am Xx Tryz.underlying22 (by kernel_rfl) (by kernel_rfl) (fun x=>(show(am x).cells.length=4 from rfl).trans ZK.symm) (fun _=>rfl) Jm (fun _ _ _ _ _ h hw=>XV h hw) h hw
  exact⟨l,⟨h1,h2⟩,h3⟩
end
end Go.Proofs.YtdhkhecalpkngaaGreatDoor
