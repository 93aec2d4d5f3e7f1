/- A law's arguments: whatever gazettes are handed in, they are Lean data. -/
import Derived.Test.YtiflidpifinbjaaGreatDoorEva
import Derived.Test.YtiflidpifinbjaaGreatDoorMach7
namespace Go.Proofs.YtiflidpifinbjaaGreatDoor
open Go Go.Ev
section
variable{H:Type}{enc:TypeId×Value->H}{w:World}{base:Nat}{spare:Nat->Bool}{held:Bool}{cs:lao}{d:DataW H}{p:laz}
theorem Zn:Tryz.prog.cellsOf 175=4:=by kernel_rfl
theorem Zp:Tryz.prog.cellsOf 86=2:=by kernel_rfl
theorem Zo:Tryz.prog.cellsOf 31=8:=by kernel_rfl
theorem Tu:Tryz.prog.cellsOf 43=25:=by kernel_rfl
theorem abt:Tryz.prog.cellsOf 88=7:=by kernel_rfl
theorem abr:Tryz.prog.cellsOf 57=4:=by kernel_rfl
theorem abq:Tryz.prog.cellsOf 9=1:=by kernel_rfl
theorem aaX{fuel:Nat}(h:DataW.trod enc Tryz.prog w base spare held fuel 28 cs=some (d,p))(hw:Wt Tryz.prog 28 d):∃a b c,VL (cF w) [.int .i64 a,.int .i64 b,.int .i64 c] cs:=by
  obtain⟨n,rfl,⟨⟨d0,p0,t0,w0⟩,⟨d1,p1,t1,w1⟩,⟨d2,p2,t2,w2⟩,_⟩,hx⟩:=jY Tryz.underlying28 (by kernel_rfl) h hw
  obtain⟨a,ha⟩:=gI Tryz.underlying3 t0
  obtain⟨b,hb⟩:=gI Tryz.underlying3 t1
  obtain⟨c,hc⟩:=gI Tryz.underlying3 t2
  exact⟨a,b,c,hx [[_],[_],[_]] ⟨ha,hb,hc,trivial⟩⟩
theorem Vo{fuel:Nat}(h:DataW.trod enc Tryz.prog w base spare held fuel 173 cs=some (d,p))(hw:Wt Tryz.prog 173 d):∃a b c,VL (cF w) [.int .i64 a,.int .i64 b,.int .i64 c] cs:=by
  obtain⟨n,rfl,⟨⟨d0,p0,t0,w0⟩,⟨d1,p1,t1,w1⟩,⟨d2,p2,t2,w2⟩,_⟩,hx⟩:=jY Tryz.underlying173 (by kernel_rfl) h hw
  obtain⟨a,ha⟩:=gI Tryz.underlying3 t0
  obtain⟨b,hb⟩:=gI Tryz.underlying3 t1
  obtain⟨c,hc⟩:=gI Tryz.underlying3 t2
  exact⟨a,b,c,hx [[_],[_],[_]] ⟨ha,hb,hc,trivial⟩⟩
theorem Uy{fuel:Nat}(h:DataW.trod enc Tryz.prog w base spare held fuel 175 cs=some (d,p))(hw:Wt Tryz.prog 175 d):∃x:PWord,True/\VL (cF w) (aQ x).cells cs:=by
  obtain⟨n,rfl,⟨⟨d0,p0,t0,w0⟩,⟨d1,p1,t1,w1⟩,_⟩,hx⟩:=jY Tryz.underlying175 (by kernel_rfl) h hw
  obtain⟨s,hs⟩:=oY Tryz.underlying9 t0
  obtain⟨a,b,c,hm⟩:=Vo t1 w1
  exact⟨⟨s,a,b,c⟩,trivial,hx [[_],[_,_,_]] ⟨hs,hm,trivial⟩⟩
theorem Ur{fuel:Nat}(h:DataW.trod enc Tryz.prog w base spare held fuel 86 cs=some (d,p))(hw:Wt Tryz.prog 86 d):∃x:PStep,True/\VL (cF w) (aq x).cells cs:=by
  obtain⟨n,rfl,⟨⟨d0,p0,t0,w0⟩,⟨d1,p1,t1,w1⟩,_⟩,hx⟩:=jY Tryz.underlying86 (by kernel_rfl) h hw
  obtain⟨a,ha⟩:=gI Tryz.underlying3 t0
  obtain⟨s,hs⟩:=oY Tryz.underlying9 t1
  exact⟨⟨a,s⟩,trivial,hx [[_],[_]] ⟨ha,hs,trivial⟩⟩
theorem Gm{fuel:Nat}(h:DataW.trod enc Tryz.prog w base spare held fuel 40 cs=some (d,p))(hw:Wt Tryz.prog 40 d):∃x:PStart,VL (cF w) [.int .i64 x.kind,.int .i64 x.day,.str x.event] cs:=by
  obtain⟨n,rfl,⟨⟨d0,p0,t0,w0⟩,⟨d1,p1,t1,w1⟩,⟨d2,p2,t2,w2⟩,_⟩,hx⟩:=jY Tryz.underlying40 (by kernel_rfl) h hw
  obtain⟨a,ha⟩:=gI Tryz.underlying3 t0
  obtain⟨b,hb⟩:=gI Tryz.underlying3 t1
  obtain⟨s,hs⟩:=oY Tryz.underlying9 t2
  exact⟨⟨a,b,s⟩,hx [[_],[_],[_]] ⟨ha,hb,hs,trivial⟩⟩
theorem Up{fuel:Nat}(h:DataW.trod enc Tryz.prog w base spare held fuel 9 cs=some (d,p))(_:Wt Tryz.prog 9 d):∃x:bZ,True/\VL (cF w) (nD x).cells cs:=by
  obtain⟨s,hs⟩:=oY Tryz.underlying9 h
  exact⟨s,trivial,hs⟩
theorem Gj{fuel:Nat}(h:DataW.trod enc Tryz.prog w base spare held fuel 29 cs=some (d,p))(hw:Wt Tryz.prog 29 d):∃l:lag,l.length<2^60/\(∀x,x∈l->True)/\VL (cF w) [.ls (l.map aQ)] cs:=
  nQ aQ (λ_=>True) Tryz.underlying29 (by kernel_rfl) (by kernel_rfl) (λx=>(show(aQ x).cells.length=4 from rfl).trans Zn.symm) (λ_=>rfl) i9 (λ_ _ _ _ _ h hw=>Uy h hw) h hw
theorem Gl{fuel:Nat}(h:DataW.trod enc Tryz.prog w base spare held fuel 37 cs=some (d,p))(hw:Wt Tryz.prog 37 d):∃l:lap,l.length<2^60/\(∀x,x∈l->True)/\VL (cF w) [.ls (l.map aq)] cs:=
  nQ aq (λ_=>True) Tryz.underlying37 (by kernel_rfl) (by kernel_rfl) (λx=>(show(aq x).cells.length=2 from rfl).trans Zp.symm) (λ_=>rfl) Ib (λ_ _ _ _ _ h hw=>Ur h hw) h hw
theorem L6{fuel:Nat}(h:DataW.trod enc Tryz.prog w base spare held fuel 38 cs=some (d,p))(hw:Wt Tryz.prog 38 d):∃l:laj,l.length<2^60/\(∀x,x∈l->True)/\VL (cF w) [.ls (l.map nD)] cs:=
  nQ nD (λ_=>True) Tryz.underlying38 (by kernel_rfl) (by kernel_rfl) (λx=>(show(nD x).cells.length=1 from rfl).trans abq.symm) (λ_=>rfl) K9 (λ_ _ _ _ _ h hw=>Up h hw) h hw
theorem Ue(fuel:Nat):∀{cs:lao}{d:DataW H}{p:laz},DataW.trod enc Tryz.prog w base spare held fuel 31 cs=some (d,p)->Wt Tryz.prog 31 d->∃u:TUnit,tT u/\VL (cF w) (cU u) cs:=by
  induction fuel using Nat.strongRecOn with
  | _ fuel ih=>
    intro cs d p h hw
    obtain⟨n,rfl,⟨⟨d0,p0,t0,w0⟩,⟨d1,p1,t1,w1⟩,⟨d2,p2,t2,w2⟩,⟨d3,p3,t3,w3⟩,⟨d4,p4,t4,w4⟩,⟨d5,p5,t5,w5⟩,_⟩,hx⟩:=jY Tryz.underlying31 (by kernel_rfl) h hw
    obtain⟨a,b,c,h0⟩:=aaX t0 w0
    obtain⟨k,h1⟩:=gI Tryz.underlying3 t1
    obtain⟨l,h2⟩:=oY Tryz.underlying9 t2
    obtain⟨hd,l3,_,h3⟩:=Gj t3 w3
    obtain⟨ws,l4,_,h4⟩:=Gj t4 w4
    obtain⟨ks,l5,f5,h5⟩:=nQ aU tT Tryz.underlying25 (by kernel_rfl) (by kernel_rfl) (λx=>by rw[Zo,bQ];rfl) (λx=>by rw[bQ];rfl) gO
      (λm hm cs d p h hw=>by
        obtain⟨u,f,v⟩:=ih m (by omega) h hw
        exact⟨u,f,by rw[bQ];exact v⟩) t5 w5
    exact⟨⟨a,b,c,k,l,hd,ws,ks⟩,re.2 ⟨l3,l4,l5,f5⟩,hx [[_,_,_],[_],[_],[_],[_],[_]] ⟨h0,h1,h2,h3,h4,h5,trivial⟩⟩
theorem VA(fuel:Nat):∀{cs:lao}{d:DataW H}{p:laz},DataW.trod enc Tryz.prog w base spare held fuel 43 cs=some (d,p)->Wt Tryz.prog 43 d->∃x:PItem,nP x/\VL (cF w) (cI x) cs:=by
  induction fuel using Nat.strongRecOn with
  | _ fuel ih=>
    intro cs d p h hw
    obtain⟨n,rfl,⟨⟨d0,p0,t0,w0⟩,⟨d1,p1,t1,w1⟩,⟨d2,p2,t2,w2⟩,⟨d3,p3,t3,w3⟩,⟨d4,p4,t4,w4⟩,⟨d5,p5,t5,w5⟩,⟨d6,p6,t6,w6⟩,⟨d7,p7,t7,w7⟩,⟨d8,p8,t8,w8⟩,⟨d9,p9,t9,w9⟩,⟨d10,p10,t10,w10⟩,⟨d11,p11,t11,w11⟩,⟨d12,p12,t12,w12⟩,⟨d13,p13,t13,w13⟩,⟨d14,p14,t14,w14⟩,⟨d15,p15,t15,w15⟩,_⟩,hx⟩:=jY Tryz.underlying43 (by kernel_rfl) h hw
    obtain⟨k,h0⟩:=gI Tryz.underlying3 t0
    obtain⟨at_,l1,_,h1⟩:=Gl t1 w1
    obtain⟨to,l2,_,h2⟩:=Gl t2 w2
    obtain⟨wh,h3⟩:=gI Tryz.underlying3 t3
    obtain⟨nt,h4⟩:=gI Tryz.underlying3 t4
    obtain⟨u,f5,h5⟩:=Ue _ t5 w5
    obtain⟨ol,l6,_,h6⟩:=L6 t6 w6
    obtain⟨ne,l7,_,h7⟩:=L6 t7 w7
    obtain⟨lb,h8⟩:=oY Tryz.underlying9 t8
    obtain⟨fo,h9⟩:=oY Tryz.underlying9 t9
    obtain⟨st,h10⟩:=Gm t10 w10
    obtain⟨ac,h11⟩:=gI Tryz.underlying3 t11
    obtain⟨it,h12⟩:=gI Tryz.underlying3 t12
    obtain⟨dy,h13⟩:=gI Tryz.underlying3 t13
    obtain⟨ev,h14⟩:=oY Tryz.underlying9 t14
    obtain⟨bs,l15,f15,h15⟩:=nQ PB nP Tryz.underlying41 (by kernel_rfl) (by kernel_rfl) (λx=>by rw[Tu,eG];rfl) (λx=>by rw[eG];rfl) Ig
      (λm hm cs d p h hw=>by
        obtain⟨u,f,v⟩:=ih m (by omega) h hw
        exact⟨u,f,by rw[eG];exact v⟩) t15 w15
    exact⟨⟨k,at_,to,wh,nt,u,ol,ne,lb,fo,st,ac,it,dy,ev,bs⟩,rf.2 ⟨l1,l2,l6,l7,l15,f5,f15⟩,
      hx [[_],[_],[_],[_],[_],cU u,[_],[_],[_],[_],[_,_,_],[_],[_],[_],[_],[_]] ⟨h0,h1,h2,h3,h4,h5,h6,h7,h8,h9,h10,h11,h12,h13,h14,h15,trivial⟩⟩
theorem R5{fuel:Nat}(h:DataW.trod enc Tryz.prog w base spare held fuel 41 cs=some (d,p))(hw:Wt Tryz.prog 41 d):∃l:lat,l.length<2^60/\(∀x,x∈l->nP x)/\VL (cF w) [.ls (l.map PB)] cs:=
  nQ PB nP Tryz.underlying41 (by kernel_rfl) (by kernel_rfl) (λx=>by rw[Tu,eG];rfl) (λx=>by rw[eG];rfl) Ig
    (λm _ cs d p h hw=>by
      obtain⟨u,f,v⟩:=VA m h hw
      exact⟨u,f,by rw[eG];exact v⟩) h hw
theorem ZN{fuel:Nat}(h:DataW.trod enc Tryz.prog w base spare held fuel 88 cs=some (d,p))(hw:Wt Tryz.prog 88 d):∃x:PAct,Pd x/\VL (cF w) (aa x).cells cs:=by
  obtain⟨n,rfl,⟨⟨d0,p0,t0,w0⟩,⟨d1,p1,t1,w1⟩,⟨d2,p2,t2,w2⟩,⟨d3,p3,t3,w3⟩,⟨d4,p4,t4,w4⟩,_⟩,hx⟩:=jY Tryz.underlying88 (by kernel_rfl) h hw
  obtain⟨a,h0⟩:=gI Tryz.underlying3 t0
  obtain⟨ti,h1⟩:=oY Tryz.underlying9 t1
  obtain⟨dy,h2⟩:=gI Tryz.underlying3 t2
  obtain⟨st,h3⟩:=Gm t3 w3
  obtain⟨l,l4,f4,h4⟩:=R5 t4 w4
  exact⟨⟨a,ti,dy,st,l⟩,⟨l4,f4⟩,hx [[_],[_],[_],[_,_,_],[_]] ⟨h0,h1,h2,h3,h4,trivial⟩⟩
theorem Xw{fuel:Nat}(h:DataW.trod enc Tryz.prog w base spare held fuel 55 cs=some (d,p))(hw:Wt Tryz.prog 55 d):∃l:lah,l.length<2^60/\(∀x,x∈l->Pd x)/\VL (cF w) [.ls (l.map aa)] cs:=
  nQ aa Pd Tryz.underlying55 (by kernel_rfl) (by kernel_rfl) (λx=>(show(aa x).cells.length=7 from rfl).trans abt.symm) (λ_=>rfl) LW (λ_ _ _ _ _ h hw=>ZN h hw) h hw
theorem Y5{fuel:Nat}(h:DataW.trod enc Tryz.prog w base spare held fuel 57 cs=some (d,p))(hw:Wt Tryz.prog 57 d):∃x:PGaz,ZX x/\VL (cF w) (am x).cells cs:=by
  obtain⟨n,rfl,⟨⟨d0,p0,t0,w0⟩,⟨d1,p1,t1,w1⟩,⟨d2,p2,t2,w2⟩,⟨d3,p3,t3,w3⟩,_⟩,hx⟩:=jY Tryz.underlying57 (by kernel_rfl) h hw
  obtain⟨a,h0⟩:=gI Tryz.underlying3 t0
  obtain⟨dy,h1⟩:=gI Tryz.underlying3 t1
  obtain⟨pr,h2⟩:=oY Tryz.underlying9 t2
  obtain⟨l,l3,f3,h3⟩:=Xw t3 w3
  exact⟨⟨a,dy,pr,l⟩,⟨l3,f3⟩,hx [[_],[_],[_],[_]] ⟨h0,h1,h2,h3,trivial⟩⟩
end
end Go.Proofs.YtiflidpifinbjaaGreatDoor
