/- A law's arguments: whatever gazettes are handed in, they are Lean data. -/
import Derived.Test.YtdhkhecalpkngaaGreatDoorEva
import Derived.Test.YtdhkhecalpkngaaGreatDoorMach8
namespace Go.Proofs.YtdhkhecalpkngaaGreatDoor
open Go Go.Ev
section
variable{H:Type}{enc:TypeId×Value->H}{w:World}{base:Nat}{spare:Nat->Bool}{held:Bool}{cs:List Value}{d:DataW H}{p:List MemPlace}
theorem YG:Tryz.prog.cellsOf 125=4:=by kernel_rfl
theorem YI:Tryz.prog.cellsOf 68=2:=by kernel_rfl
theorem YH:Tryz.prog.cellsOf 30=8:=by kernel_rfl
theorem S9:Tryz.prog.cellsOf 60=25:=by kernel_rfl
theorem aaq:Tryz.prog.cellsOf 74=7:=by kernel_rfl
theorem aap:Tryz.prog.cellsOf 72=4:=by kernel_rfl
theorem aao:Tryz.prog.cellsOf 9=1:=by kernel_rfl
theorem Z0{fuel:Nat}(h:DataW.trod enc Tryz.prog w base spare held fuel 26 cs=some (d,p))(hw:Wt Tryz.prog 26 d):∃a b c,VL (cG w) [.int .i64 a,.int .i64 b,.int .i64 c] cs:=by
  obtain⟨n,rfl,⟨⟨d0,p0,t0,w0⟩,⟨d1,p1,t1,w1⟩,⟨d2,p2,t2,w2⟩,_⟩,hx⟩:=jd Tryz.underlying26 (by kernel_rfl) h hw
  obtain⟨a,ha⟩:=g0 Tryz.underlying3 t0
  obtain⟨b,hb⟩:=g0 Tryz.underlying3 t1
  obtain⟨c,hc⟩:=g0 Tryz.underlying3 t2
  exact⟨a,b,c,hx [[_],[_],[_]] ⟨ha,hb,hc,trivial⟩⟩
theorem VX{fuel:Nat}(h:DataW.trod enc Tryz.prog w base spare held fuel 123 cs=some (d,p))(hw:Wt Tryz.prog 123 d):∃a b c,VL (cG w) [.int .i64 a,.int .i64 b,.int .i64 c] cs:=by
  obtain⟨n,rfl,⟨⟨d0,p0,t0,w0⟩,⟨d1,p1,t1,w1⟩,⟨d2,p2,t2,w2⟩,_⟩,hx⟩:=jd Tryz.underlying123 (by kernel_rfl) h hw
  obtain⟨a,ha⟩:=g0 Tryz.underlying3 t0
  obtain⟨b,hb⟩:=g0 Tryz.underlying3 t1
  obtain⟨c,hc⟩:=g0 Tryz.underlying3 t2
  exact⟨a,b,c,hx [[_],[_],[_]] ⟨ha,hb,hc,trivial⟩⟩
theorem T0{fuel:Nat}(h:DataW.trod enc Tryz.prog w base spare held fuel 125 cs=some (d,p))(hw:Wt Tryz.prog 125 d):∃x:PWord,True/\VL (cG w) (aQ x).cells cs:=by
  obtain⟨n,rfl,⟨⟨d0,p0,t0,w0⟩,⟨d1,p1,t1,w1⟩,_⟩,hx⟩:=jd Tryz.underlying125 (by kernel_rfl) h hw
  obtain⟨s,hs⟩:=oz Tryz.underlying9 t0
  obtain⟨a,b,c,hm⟩:=VX t1 w1
  exact⟨⟨s,a,b,c⟩,trivial,hx [[_],[_,_,_]] ⟨hs,hm,trivial⟩⟩
theorem UW{fuel:Nat}(h:DataW.trod enc Tryz.prog w base spare held fuel 68 cs=some (d,p))(hw:Wt Tryz.prog 68 d):∃x:PStep,True/\VL (cG w) (aK x).cells cs:=by
  obtain⟨n,rfl,⟨⟨d0,p0,t0,w0⟩,⟨d1,p1,t1,w1⟩,_⟩,hx⟩:=jd Tryz.underlying68 (by kernel_rfl) h hw
  obtain⟨a,ha⟩:=g0 Tryz.underlying3 t0
  obtain⟨s,hs⟩:=oz Tryz.underlying9 t1
  exact⟨⟨a,s⟩,trivial,hx [[_],[_]] ⟨ha,hs,trivial⟩⟩
theorem Gg{fuel:Nat}(h:DataW.trod enc Tryz.prog w base spare held fuel 57 cs=some (d,p))(hw:Wt Tryz.prog 57 d):∃x:PStart,VL (cG w) [.int .i64 x.kind,.int .i64 x.day,.str x.event] cs:=by
  obtain⟨n,rfl,⟨⟨d0,p0,t0,w0⟩,⟨d1,p1,t1,w1⟩,⟨d2,p2,t2,w2⟩,_⟩,hx⟩:=jd Tryz.underlying57 (by kernel_rfl) h hw
  obtain⟨a,ha⟩:=g0 Tryz.underlying3 t0
  obtain⟨b,hb⟩:=g0 Tryz.underlying3 t1
  obtain⟨s,hs⟩:=oz Tryz.underlying9 t2
  exact⟨⟨a,b,s⟩,hx [[_],[_],[_]] ⟨ha,hb,hs,trivial⟩⟩
theorem UX{fuel:Nat}(h:DataW.trod enc Tryz.prog w base spare held fuel 9 cs=some (d,p))(_:Wt Tryz.prog 9 d):∃x:au,True/\VL (cG w) (nP x).cells cs:=by
  obtain⟨s,hs⟩:=oz Tryz.underlying9 h
  exact⟨s,trivial,hs⟩
theorem GZ{fuel:Nat}(h:DataW.trod enc Tryz.prog w base spare held fuel 27 cs=some (d,p))(hw:Wt Tryz.prog 27 d):∃l:List PWord,l.length<2^60/\(∀x,x∈l->True)/\VL (cG w) [.ls (l.map aQ)] cs:=
  mX aQ (fun _=>True) Tryz.underlying27 (by kernel_rfl) (by kernel_rfl) (fun x=>(show(aQ x).cells.length=4 from rfl).trans YG.symm) (fun _=>rfl) jx (fun _ _ _ _ _ h hw=>T0 h hw) h hw
theorem Gf{fuel:Nat}(h:DataW.trod enc Tryz.prog w base spare held fuel 34 cs=some (d,p))(hw:Wt Tryz.prog 34 d):∃l:List PStep,l.length<2^60/\(∀x,x∈l->True)/\VL (cG w) [.ls (l.map aK)] cs:=
  mX aK (fun _=>True) Tryz.underlying34 (by kernel_rfl) (by kernel_rfl) (fun x=>(show(aK x).cells.length=2 from rfl).trans YI.symm) (fun _=>rfl) Ix (fun _ _ _ _ _ h hw=>UW h hw) h hw
theorem Lh{fuel:Nat}(h:DataW.trod enc Tryz.prog w base spare held fuel 37 cs=some (d,p))(hw:Wt Tryz.prog 37 d):∃l:List au,l.length<2^60/\(∀x,x∈l->True)/\VL (cG w) [.ls (l.map nP)] cs:=
  mX nP (fun _=>True) Tryz.underlying37 (by kernel_rfl) (by kernel_rfl) (fun x=>(show(nP x).cells.length=1 from rfl).trans aao.symm) (fun _=>rfl) KE (fun _ _ _ _ _ h hw=>UX h hw) h hw
theorem T5(fuel:Nat):∀{cs:List Value}{d:DataW H}{p:List MemPlace},DataW.trod enc Tryz.prog w base spare held fuel 30 cs=some (d,p)->Wt Tryz.prog 30 d->∃u:TUnit,uW u/\VL (cG w) (cU u) cs:=by
  induction fuel using Nat.strongRecOn with
  | _ fuel ih=>
    intro cs d p h hw
    obtain⟨n,rfl,⟨⟨d0,p0,t0,w0⟩,⟨d1,p1,t1,w1⟩,⟨d2,p2,t2,w2⟩,⟨d3,p3,t3,w3⟩,⟨d4,p4,t4,w4⟩,⟨d5,p5,t5,w5⟩,_⟩,hx⟩:=jd Tryz.underlying30 (by kernel_rfl) h hw
    obtain⟨a,b,c,h0⟩:=Z0 t0 w0
    obtain⟨k,h1⟩:=g0 Tryz.underlying3 t1
    obtain⟨l,h2⟩:=oz Tryz.underlying9 t2
    obtain⟨hd,l3,_,h3⟩:=GZ t3 w3
    obtain⟨ws,l4,_,h4⟩:=GZ t4 w4
    obtain⟨ks,l5,f5,h5⟩:=mX aY uW Tryz.underlying28 (by kernel_rfl) (by kernel_rfl) (fun x=>by rw[YH,aR];rfl) (fun x=>by rw[aR];rfl) iB
      (fun m hm cs d p h hw=>by
        obtain⟨u,f,v⟩:=ih m (by omega) h hw
        exact⟨u,f,by rw[aR];exact v⟩) t5 w5
    exact⟨⟨a,b,c,k,l,hd,ws,ks⟩,ru.2 ⟨l3,l4,l5,f5⟩,hx [[_,_,_],[_],[_],[_],[_],[_]] ⟨h0,h1,h2,h3,h4,h5,trivial⟩⟩
theorem VU(fuel:Nat):∀{cs:List Value}{d:DataW H}{p:List MemPlace},DataW.trod enc Tryz.prog w base spare held fuel 60 cs=some (d,p)->Wt Tryz.prog 60 d->∃x:PItem,n6 x/\VL (cG w) (cI x) cs:=by
  induction fuel using Nat.strongRecOn with
  | _ fuel ih=>
    intro cs d p h hw
    obtain⟨n,rfl,⟨⟨d0,p0,t0,w0⟩,⟨d1,p1,t1,w1⟩,⟨d2,p2,t2,w2⟩,⟨d3,p3,t3,w3⟩,⟨d4,p4,t4,w4⟩,⟨d5,p5,t5,w5⟩,⟨d6,p6,t6,w6⟩,⟨d7,p7,t7,w7⟩,⟨d8,p8,t8,w8⟩,⟨d9,p9,t9,w9⟩,⟨d10,p10,t10,w10⟩,⟨d11,p11,t11,w11⟩,⟨d12,p12,t12,w12⟩,⟨d13,p13,t13,w13⟩,⟨d14,p14,t14,w14⟩,⟨d15,p15,t15,w15⟩,_⟩,hx⟩:=jd Tryz.underlying60 (by kernel_rfl) h hw
    obtain⟨k,h0⟩:=g0 Tryz.underlying3 t0
    obtain⟨at_,l1,_,h1⟩:=Gf t1 w1
    obtain⟨to,l2,_,h2⟩:=Gf t2 w2
    obtain⟨wh,h3⟩:=g0 Tryz.underlying3 t3
    obtain⟨nt,h4⟩:=g0 Tryz.underlying3 t4
    obtain⟨u,f5,h5⟩:=T5 _ t5 w5
    obtain⟨ol,l6,_,h6⟩:=Lh t6 w6
    obtain⟨ne,l7,_,h7⟩:=Lh t7 w7
    obtain⟨lb,h8⟩:=oz Tryz.underlying9 t8
    obtain⟨fo,h9⟩:=oz Tryz.underlying9 t9
    obtain⟨st,h10⟩:=Gg t10 w10
    obtain⟨ac,h11⟩:=g0 Tryz.underlying3 t11
    obtain⟨it,h12⟩:=g0 Tryz.underlying3 t12
    obtain⟨dy,h13⟩:=g0 Tryz.underlying3 t13
    obtain⟨ev,h14⟩:=oz Tryz.underlying9 t14
    obtain⟨bs,l15,f15,h15⟩:=mX OS n6 Tryz.underlying58 (by kernel_rfl) (by kernel_rfl) (fun x=>by rw[S9,eT];rfl) (fun x=>by rw[eT];rfl) Iw
      (fun m hm cs d p h hw=>by
        obtain⟨u,f,v⟩:=ih m (by omega) h hw
        exact⟨u,f,by rw[eT];exact v⟩) t15 w15
    exact⟨⟨k,at_,to,wh,nt,u,ol,ne,lb,fo,st,ac,it,dy,ev,bs⟩,rA.2 ⟨l1,l2,l6,l7,l15,f5,f15⟩,
      hx [[_],[_],[_],[_],[_],cU u,[_],[_],[_],[_],[_,_,_],[_],[_],[_],[_],[_]] ⟨h0,h1,h2,h3,h4,h5,h6,h7,h8,h9,h10,h11,h12,h13,h14,h15,trivial⟩⟩
theorem Rh{fuel:Nat}(h:DataW.trod enc Tryz.prog w base spare held fuel 58 cs=some (d,p))(hw:Wt Tryz.prog 58 d):∃l:List PItem,l.length<2^60/\(∀x,x∈l->n6 x)/\VL (cG w) [.ls (l.map OS)] cs:=
  mX OS n6 Tryz.underlying58 (by kernel_rfl) (by kernel_rfl) (fun x=>by rw[S9,eT];rfl) (fun x=>by rw[eT];rfl) Iw
    (fun m _ cs d p h hw=>by
      obtain⟨u,f,v⟩:=VU m h hw
      exact⟨u,f,by rw[eT];exact v⟩) h hw
theorem Y2{fuel:Nat}(h:DataW.trod enc Tryz.prog w base spare held fuel 74 cs=some (d,p))(hw:Wt Tryz.prog 74 d):∃x:PAct,Sq x/\VL (cG w) (ay x).cells cs:=by
  obtain⟨n,rfl,⟨⟨d0,p0,t0,w0⟩,⟨d1,p1,t1,w1⟩,⟨d2,p2,t2,w2⟩,⟨d3,p3,t3,w3⟩,⟨d4,p4,t4,w4⟩,_⟩,hx⟩:=jd Tryz.underlying74 (by kernel_rfl) h hw
  obtain⟨a,h0⟩:=g0 Tryz.underlying3 t0
  obtain⟨ti,h1⟩:=oz Tryz.underlying9 t1
  obtain⟨dy,h2⟩:=g0 Tryz.underlying3 t2
  obtain⟨st,h3⟩:=Gg t3 w3
  obtain⟨l,l4,f4,h4⟩:=Rh t4 w4
  exact⟨⟨a,ti,dy,st,l⟩,⟨l4,f4⟩,hx [[_],[_],[_],[_,_,_],[_]] ⟨h0,h1,h2,h3,h4,trivial⟩⟩
theorem We{fuel:Nat}(h:DataW.trod enc Tryz.prog w base spare held fuel 70 cs=some (d,p))(hw:Wt Tryz.prog 70 d):∃l:List PAct,l.length<2^60/\(∀x,x∈l->Sq x)/\VL (cG w) [.ls (l.map ay)] cs:=
  mX ay Sq Tryz.underlying70 (by kernel_rfl) (by kernel_rfl) (fun x=>(show(ay x).cells.length=7 from rfl).trans aaq.symm) (fun _=>rfl) KG (fun _ _ _ _ _ h hw=>Y2 h hw) h hw
theorem YU{fuel:Nat}(h:DataW.trod enc Tryz.prog w base spare held fuel 72 cs=some (d,p))(hw:Wt Tryz.prog 72 d):∃x:PGaz,Yv x/\VL (cG w) (aI x).cells cs:=by
  obtain⟨n,rfl,⟨⟨d0,p0,t0,w0⟩,⟨d1,p1,t1,w1⟩,⟨d2,p2,t2,w2⟩,⟨d3,p3,t3,w3⟩,_⟩,hx⟩:=jd Tryz.underlying72 (by kernel_rfl) h hw
  obtain⟨a,h0⟩:=g0 Tryz.underlying3 t0
  obtain⟨dy,h1⟩:=g0 Tryz.underlying3 t1
  obtain⟨pr,h2⟩:=oz Tryz.underlying9 t2
  obtain⟨l,l3,f3,h3⟩:=We t3 w3
  exact⟨⟨a,dy,pr,l⟩,⟨l3,f3⟩,hx [[_],[_],[_],[_]] ⟨h0,h1,h2,h3,trivial⟩⟩
theorem HL{fuel:Nat}(h:DataW.trod enc Tryz.prog w base spare held fuel 22 cs=some (d,p))(hw:Wt Tryz.prog 22 d):∃gs:List PGaz,qh gs/\VL (cG w) [.ls (gs.map aI)] cs:=by
  obtain⟨l,h1,h2,h3⟩:=mX aI Yv Tryz.underlying22 (by kernel_rfl) (by kernel_rfl) (fun x=>(show(aI x).cells.length=4 from rfl).trans aap.symm) (fun _=>rfl) KF (fun _ _ _ _ _ h hw=>YU h hw) h hw
  exact⟨l,⟨h1,h2⟩,h3⟩
end
end Go.Proofs.YtdhkhecalpkngaaGreatDoor
