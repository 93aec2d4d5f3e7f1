/- A law's arguments: whatever gazettes are handed in, they are Lean data. -/
import Derived.Test.YtjokefckffbpeaaGreatDoorEva
import Derived.Test.YtjokefckffbpeaaGreatDoorMach7
namespace Go.Proofs.YtjokefckffbpeaaGreatDoor
open Go Go.Ev
section
variable{H:Type}{enc:TypeId×Value→H}{w:World}{base:Nat}{spare:Nat→Bool}{held:Bool}{cs:List Value}{d:DataW H}{p:List MemPlace}
theorem Xq:Tryz.prog.cellsOf 91=4:=by kernel_rfl
theorem Xx:Tryz.prog.cellsOf 58=2:=by kernel_rfl
theorem Xz:Tryz.prog.cellsOf 36=8:=by kernel_rfl
theorem RN:Tryz.prog.cellsOf 54=25:=by kernel_rfl
theorem YO:Tryz.prog.cellsOf 56=7:=by kernel_rfl
theorem YN:Tryz.prog.cellsOf 61=4:=by kernel_rfl
theorem YM:Tryz.prog.cellsOf 9=1:=by kernel_rfl
theorem Vh{fuel:Nat}(h:DataW.trod enc Tryz.prog w base spare held fuel 24 cs=some (d,p))(hw:Wt Tryz.prog 24 d):∃a b c,VL (cK w) [.int .i64 a,.int .i64 b,.int .i64 c] cs:=by
  obtain⟨n,rfl,⟨⟨d0,p0,t0,w0⟩,⟨d1,p1,t1,w1⟩,⟨d2,p2,t2,w2⟩,_⟩,hx⟩:=jQ Tryz.underlying24 (by kernel_rfl) h hw
  obtain⟨a,ha⟩:=gC Tryz.underlying3 t0
  obtain⟨b,hb⟩:=gC Tryz.underlying3 t1
  obtain⟨c,hc⟩:=gC Tryz.underlying3 t2
  exact⟨a,b,c,hx [[_],[_],[_]] ⟨ha,hb,hc,trivial⟩⟩
theorem TE{fuel:Nat}(h:DataW.trod enc Tryz.prog w base spare held fuel 89 cs=some (d,p))(hw:Wt Tryz.prog 89 d):∃a b c,VL (cK w) [.int .i64 a,.int .i64 b,.int .i64 c] cs:=by
  obtain⟨n,rfl,⟨⟨d0,p0,t0,w0⟩,⟨d1,p1,t1,w1⟩,⟨d2,p2,t2,w2⟩,_⟩,hx⟩:=jQ Tryz.underlying89 (by kernel_rfl) h hw
  obtain⟨a,ha⟩:=gC Tryz.underlying3 t0
  obtain⟨b,hb⟩:=gC Tryz.underlying3 t1
  obtain⟨c,hc⟩:=gC Tryz.underlying3 t2
  exact⟨a,b,c,hx [[_],[_],[_]] ⟨ha,hb,hc,trivial⟩⟩
theorem Sr{fuel:Nat}(h:DataW.trod enc Tryz.prog w base spare held fuel 91 cs=some (d,p))(hw:Wt Tryz.prog 91 d):∃x:PWord,True∧VL (cK w) (aQ x).cells cs:=by
  obtain⟨n,rfl,⟨⟨d0,p0,t0,w0⟩,⟨d1,p1,t1,w1⟩,_⟩,hx⟩:=jQ Tryz.underlying91 (by kernel_rfl) h hw
  obtain⟨s,hs⟩:=nN Tryz.underlying9 t0
  obtain⟨a,b,c,hm⟩:=TE t1 w1
  exact⟨⟨s,a,b,c⟩,trivial,hx [[_],[_,_,_]] ⟨hs,hm,trivial⟩⟩
theorem SM{fuel:Nat}(h:DataW.trod enc Tryz.prog w base spare held fuel 58 cs=some (d,p))(hw:Wt Tryz.prog 58 d):∃x:PStep,True∧VL (cK w) (az x).cells cs:=by
  obtain⟨n,rfl,⟨⟨d0,p0,t0,w0⟩,⟨d1,p1,t1,w1⟩,_⟩,hx⟩:=jQ Tryz.underlying58 (by kernel_rfl) h hw
  obtain⟨a,ha⟩:=gC Tryz.underlying3 t0
  obtain⟨s,hs⟩:=nN Tryz.underlying9 t1
  exact⟨⟨a,s⟩,trivial,hx [[_],[_]] ⟨ha,hs,trivial⟩⟩
theorem FJ{fuel:Nat}(h:DataW.trod enc Tryz.prog w base spare held fuel 50 cs=some (d,p))(hw:Wt Tryz.prog 50 d):∃x:PStart,VL (cK w) [.int .i64 x.kind,.int .i64 x.day,.str x.event] cs:=by
  obtain⟨n,rfl,⟨⟨d0,p0,t0,w0⟩,⟨d1,p1,t1,w1⟩,⟨d2,p2,t2,w2⟩,_⟩,hx⟩:=jQ Tryz.underlying50 (by kernel_rfl) h hw
  obtain⟨a,ha⟩:=gC Tryz.underlying3 t0
  obtain⟨b,hb⟩:=gC Tryz.underlying3 t1
  obtain⟨s,hs⟩:=nN Tryz.underlying9 t2
  exact⟨⟨a,b,s⟩,hx [[_],[_],[_]] ⟨ha,hb,hs,trivial⟩⟩
theorem SL{fuel:Nat}(h:DataW.trod enc Tryz.prog w base spare held fuel 9 cs=some (d,p))(_:Wt Tryz.prog 9 d):∃x:aT,True∧VL (cK w) (nW x).cells cs:=by
  obtain⟨s,hs⟩:=nN Tryz.underlying9 h
  exact⟨s,trivial,hs⟩
theorem ET{fuel:Nat}(h:DataW.trod enc Tryz.prog w base spare held fuel 33 cs=some (d,p))(hw:Wt Tryz.prog 33 d):∃l:List PWord,l.length<2^60∧(∀x,x∈l→True)∧VL (cK w) [.ls (l.map aQ)] cs:=
  lj aQ (fun _=>True) Tryz.underlying33 (by kernel_rfl) (by kernel_rfl) (fun x=>(show(aQ x).cells.length=4 from rfl).trans Xq.symm) (fun _=>rfl) iM (fun _ _ _ _ _ h hw=>Sr h hw) h hw
theorem FW{fuel:Nat}(h:DataW.trod enc Tryz.prog w base spare held fuel 51 cs=some (d,p))(hw:Wt Tryz.prog 51 d):∃l:List PStep,l.length<2^60∧(∀x,x∈l→True)∧VL (cK w) [.ls (l.map az)] cs:=
  lj az (fun _=>True) Tryz.underlying51 (by kernel_rfl) (by kernel_rfl) (fun x=>(show(az x).cells.length=2 from rfl).trans Xx.symm) (fun _=>rfl) G6 (fun _ _ _ _ _ h hw=>SM h hw) h hw
theorem J0{fuel:Nat}(h:DataW.trod enc Tryz.prog w base spare held fuel 47 cs=some (d,p))(hw:Wt Tryz.prog 47 d):∃l:List aT,l.length<2^60∧(∀x,x∈l→True)∧VL (cK w) [.ls (l.map nW)] cs:=
  lj nW (fun _=>True) Tryz.underlying47 (by kernel_rfl) (by kernel_rfl) (fun x=>(show(nW x).cells.length=1 from rfl).trans YM.symm) (fun _=>rfl) Jq (fun _ _ _ _ _ h hw=>SL h hw) h hw
theorem SC(fuel:Nat):∀{cs:List Value}{d:DataW H}{p:List MemPlace},DataW.trod enc Tryz.prog w base spare held fuel 36 cs=some (d,p)→Wt Tryz.prog 36 d→∃u:TUnit,mb u∧VL (cK w) (cU u) cs:=by
  induction fuel using Nat.strongRecOn with
  | _ fuel ih=>
    intro cs d p h hw
    obtain⟨n,rfl,⟨⟨d0,p0,t0,w0⟩,⟨d1,p1,t1,w1⟩,⟨d2,p2,t2,w2⟩,⟨d3,p3,t3,w3⟩,⟨d4,p4,t4,w4⟩,⟨d5,p5,t5,w5⟩,_⟩,hx⟩:=jQ Tryz.underlying36 (by kernel_rfl) h hw
    obtain⟨a,b,c,h0⟩:=Vh t0 w0
    obtain⟨k,h1⟩:=gC Tryz.underlying3 t1
    obtain⟨l,h2⟩:=nN Tryz.underlying9 t2
    obtain⟨hd,l3,_,h3⟩:=ET t3 w3
    obtain⟨ws,l4,_,h4⟩:=ET t4 w4
    obtain⟨ks,l5,f5,h5⟩:=lj aV mb Tryz.underlying34 (by kernel_rfl) (by kernel_rfl) (fun x=>by rw[Xz,aO];rfl) (fun x=>by rw[aO];rfl) iY
      (fun m hm cs d p h hw=>by
        obtain⟨u,f,v⟩:=ih m (by omega) h hw
        exact⟨u,f,by rw[aO];exact v⟩) t5 w5
    exact⟨⟨a,b,c,k,l,hd,ws,ks⟩,ll.2 ⟨l3,l4,l5,f5⟩,hx [[_,_,_],[_],[_],[_],[_],[_]] ⟨h0,h1,h2,h3,h4,h5,trivial⟩⟩
theorem TO(fuel:Nat):∀{cs:List Value}{d:DataW H}{p:List MemPlace},DataW.trod enc Tryz.prog w base spare held fuel 54 cs=some (d,p)→Wt Tryz.prog 54 d→∃x:PItem,nb x∧VL (cK w) (cI x) cs:=by
  induction fuel using Nat.strongRecOn with
  | _ fuel ih=>
    intro cs d p h hw
    obtain⟨n,rfl,⟨⟨d0,p0,t0,w0⟩,⟨d1,p1,t1,w1⟩,⟨d2,p2,t2,w2⟩,⟨d3,p3,t3,w3⟩,⟨d4,p4,t4,w4⟩,⟨d5,p5,t5,w5⟩,⟨d6,p6,t6,w6⟩,⟨d7,p7,t7,w7⟩,⟨d8,p8,t8,w8⟩,⟨d9,p9,t9,w9⟩,⟨d10,p10,t10,w10⟩,⟨d11,p11,t11,w11⟩,⟨d12,p12,t12,w12⟩,⟨d13,p13,t13,w13⟩,⟨d14,p14,t14,w14⟩,⟨d15,p15,t15,w15⟩,_⟩,hx⟩:=jQ Tryz.underlying54 (by kernel_rfl) h hw
    obtain⟨k,h0⟩:=gC Tryz.underlying3 t0
    obtain⟨at_,l1,_,h1⟩:=FW t1 w1
    obtain⟨to,l2,_,h2⟩:=FW t2 w2
    obtain⟨wh,h3⟩:=gC Tryz.underlying3 t3
    obtain⟨nt,h4⟩:=gC Tryz.underlying3 t4
    obtain⟨u,f5,h5⟩:=SC _ t5 w5
    obtain⟨ol,l6,_,h6⟩:=J0 t6 w6
    obtain⟨ne,l7,_,h7⟩:=J0 t7 w7
    obtain⟨lb,h8⟩:=nN Tryz.underlying9 t8
    obtain⟨fo,h9⟩:=nN Tryz.underlying9 t9
    obtain⟨st,h10⟩:=FJ t10 w10
    obtain⟨ac,h11⟩:=gC Tryz.underlying3 t11
    obtain⟨it,h12⟩:=gC Tryz.underlying3 t12
    obtain⟨dy,h13⟩:=gC Tryz.underlying3 t13
    obtain⟨ev,h14⟩:=nN Tryz.underlying9 t14
    obtain⟨bs,l15,f15,h15⟩:=lj NE nb Tryz.underlying52 (by kernel_rfl) (by kernel_rfl) (fun x=>by rw[RN,eb];rfl) (fun x=>by rw[eb];rfl) G9
      (fun m hm cs d p h hw=>by
        obtain⟨u,f,v⟩:=ih m (by omega) h hw
        exact⟨u,f,by rw[eb];exact v⟩) t15 w15
    exact⟨⟨k,at_,to,wh,nt,u,ol,ne,lb,fo,st,ac,it,dy,ev,bs⟩,qA.2 ⟨l1,l2,l6,l7,l15,f5,f15⟩,
      hx [[_],[_],[_],[_],[_],cU u,[_],[_],[_],[_],[_,_,_],[_],[_],[_],[_],[_]] ⟨h0,h1,h2,h3,h4,h5,h6,h7,h8,h9,h10,h11,h12,h13,h14,h15,trivial⟩⟩
theorem Qv{fuel:Nat}(h:DataW.trod enc Tryz.prog w base spare held fuel 52 cs=some (d,p))(hw:Wt Tryz.prog 52 d):∃l:List PItem,l.length<2^60∧(∀x,x∈l→nb x)∧VL (cK w) [.ls (l.map NE)] cs:=
  lj NE nb Tryz.underlying52 (by kernel_rfl) (by kernel_rfl) (fun x=>by rw[RN,eb];rfl) (fun x=>by rw[eb];rfl) G9
    (fun m _ cs d p h hw=>by
      obtain⟨u,f,v⟩:=TO m h hw
      exact⟨u,f,by rw[eb];exact v⟩) h hw
theorem Xg{fuel:Nat}(h:DataW.trod enc Tryz.prog w base spare held fuel 56 cs=some (d,p))(hw:Wt Tryz.prog 56 d):∃x:PAct,Q6 x∧VL (cK w) (aa x).cells cs:=by
  obtain⟨n,rfl,⟨⟨d0,p0,t0,w0⟩,⟨d1,p1,t1,w1⟩,⟨d2,p2,t2,w2⟩,⟨d3,p3,t3,w3⟩,⟨d4,p4,t4,w4⟩,_⟩,hx⟩:=jQ Tryz.underlying56 (by kernel_rfl) h hw
  obtain⟨a,h0⟩:=gC Tryz.underlying3 t0
  obtain⟨ti,h1⟩:=nN Tryz.underlying9 t1
  obtain⟨dy,h2⟩:=gC Tryz.underlying3 t2
  obtain⟨st,h3⟩:=FJ t3 w3
  obtain⟨l,l4,f4,h4⟩:=Qv t4 w4
  exact⟨⟨a,ti,dy,st,l⟩,⟨l4,f4⟩,hx [[_],[_],[_],[_,_,_],[_]] ⟨h0,h1,h2,h3,h4,trivial⟩⟩
theorem U9{fuel:Nat}(h:DataW.trod enc Tryz.prog w base spare held fuel 59 cs=some (d,p))(hw:Wt Tryz.prog 59 d):∃l:List PAct,l.length<2^60∧(∀x,x∈l→Q6 x)∧VL (cK w) [.ls (l.map aa)] cs:=
  lj aa Q6 Tryz.underlying59 (by kernel_rfl) (by kernel_rfl) (fun x=>(show(aa x).cells.length=7 from rfl).trans YO.symm) (fun _=>rfl) Jk (fun _ _ _ _ _ h hw=>Xg h hw) h hw
theorem WE{fuel:Nat}(h:DataW.trod enc Tryz.prog w base spare held fuel 61 cs=some (d,p))(hw:Wt Tryz.prog 61 d):∃x:PGaz,WL x∧VL (cK w) (ap x).cells cs:=by
  obtain⟨n,rfl,⟨⟨d0,p0,t0,w0⟩,⟨d1,p1,t1,w1⟩,⟨d2,p2,t2,w2⟩,⟨d3,p3,t3,w3⟩,_⟩,hx⟩:=jQ Tryz.underlying61 (by kernel_rfl) h hw
  obtain⟨a,h0⟩:=gC Tryz.underlying3 t0
  obtain⟨dy,h1⟩:=gC Tryz.underlying3 t1
  obtain⟨pr,h2⟩:=nN Tryz.underlying9 t2
  obtain⟨l,l3,f3,h3⟩:=U9 t3 w3
  exact⟨⟨a,dy,pr,l⟩,⟨l3,f3⟩,hx [[_],[_],[_],[_]] ⟨h0,h1,h2,h3,trivial⟩⟩
/-- Gazettes handed in. -/
theorem Gr{fuel:Nat}(h:DataW.trod enc Tryz.prog w base spare held fuel 22 cs=some (d,p))(hw:Wt Tryz.prog 22 d):∃gs:List PGaz,og gs∧VL (cK w) [.ls (gs.map ap)] cs:=by
  obtain⟨l,h1,h2,h3⟩:=lj ap WL Tryz.underlying22 (by kernel_rfl) (by kernel_rfl) (fun x=>(show(ap x).cells.length=4 from rfl).trans YN.symm) (fun _=>rfl) Jj (fun _ _ _ _ _ h hw=>WE h hw) h hw
  exact⟨l,⟨h1,h2⟩,h3⟩
end
end Go.Proofs.YtjokefckffbpeaaGreatDoor
