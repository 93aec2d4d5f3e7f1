/- A law's arguments: whatever gazettes are handed in, they are Lean data. -/
import Derived.Test.YtaepacpodblomaaGreatDoorEva
import Derived.Test.YtaepacpodblomaaGreatDoorMach7
namespace Go.Proofs.YtaepacpodblomaaGreatDoor
open Go Go.Ev
section
variable{H:Type}{enc:TypeId×Value→H}{w:World}{base:Nat}{spare:Nat→Bool}{held:Bool}{cs:List Value}{d:DataW H}{p:List MemPlace}
theorem Xw:Tryz.prog.cellsOf 102=4:=by kernel_rfl
theorem Xy:Tryz.prog.cellsOf 126=2:=by kernel_rfl
theorem Xv:Tryz.prog.cellsOf 38=8:=by kernel_rfl
theorem RE:Tryz.prog.cellsOf 62=25:=by kernel_rfl
theorem Y2:Tryz.prog.cellsOf 81=7:=by kernel_rfl
theorem Y1:Tryz.prog.cellsOf 52=4:=by kernel_rfl
theorem Y0:Tryz.prog.cellsOf 9=1:=by kernel_rfl
theorem Yu{fuel:Nat}(h:DataW.trod enc Tryz.prog w base spare held fuel 34 cs=some (d,p))(hw:Wt Tryz.prog 34 d):∃a b c,VL (cK w) [.int .i64 a,.int .i64 b,.int .i64 c] cs:=by
  obtain⟨n,rfl,⟨⟨d0,p0,t0,w0⟩,⟨d1,p1,t1,w1⟩,⟨d2,p2,t2,w2⟩,_⟩,hx⟩:=iN Tryz.underlying34 (by kernel_rfl) h hw
  obtain⟨a,ha⟩:=gm Tryz.underlying3 t0
  obtain⟨b,hb⟩:=gm Tryz.underlying3 t1
  obtain⟨c,hc⟩:=gm Tryz.underlying3 t2
  exact⟨a,b,c,hx [[_],[_],[_]] ⟨ha,hb,hc,trivial⟩⟩
theorem Tn{fuel:Nat}(h:DataW.trod enc Tryz.prog w base spare held fuel 100 cs=some (d,p))(hw:Wt Tryz.prog 100 d):∃a b c,VL (cK w) [.int .i64 a,.int .i64 b,.int .i64 c] cs:=by
  obtain⟨n,rfl,⟨⟨d0,p0,t0,w0⟩,⟨d1,p1,t1,w1⟩,⟨d2,p2,t2,w2⟩,_⟩,hx⟩:=iN Tryz.underlying100 (by kernel_rfl) h hw
  obtain⟨a,ha⟩:=gm Tryz.underlying3 t0
  obtain⟨b,hb⟩:=gm Tryz.underlying3 t1
  obtain⟨c,hc⟩:=gm Tryz.underlying3 t2
  exact⟨a,b,c,hx [[_],[_],[_]] ⟨ha,hb,hc,trivial⟩⟩
theorem Sb{fuel:Nat}(h:DataW.trod enc Tryz.prog w base spare held fuel 102 cs=some (d,p))(hw:Wt Tryz.prog 102 d):∃x:PWord,True∧VL (cK w) (aQ x).cells cs:=by
  obtain⟨n,rfl,⟨⟨d0,p0,t0,w0⟩,⟨d1,p1,t1,w1⟩,_⟩,hx⟩:=iN Tryz.underlying102 (by kernel_rfl) h hw
  obtain⟨s,hs⟩:=nE Tryz.underlying9 t0
  obtain⟨a,b,c,hm⟩:=Tn t1 w1
  exact⟨⟨s,a,b,c⟩,trivial,hx [[_],[_,_,_]] ⟨hs,hm,trivial⟩⟩
theorem Sp{fuel:Nat}(h:DataW.trod enc Tryz.prog w base spare held fuel 126 cs=some (d,p))(hw:Wt Tryz.prog 126 d):∃x:PStep,True∧VL (cK w) (ak x).cells cs:=by
  obtain⟨n,rfl,⟨⟨d0,p0,t0,w0⟩,⟨d1,p1,t1,w1⟩,_⟩,hx⟩:=iN Tryz.underlying126 (by kernel_rfl) h hw
  obtain⟨a,ha⟩:=gm Tryz.underlying3 t0
  obtain⟨s,hs⟩:=nE Tryz.underlying9 t1
  exact⟨⟨a,s⟩,trivial,hx [[_],[_]] ⟨ha,hs,trivial⟩⟩
theorem FJ{fuel:Nat}(h:DataW.trod enc Tryz.prog w base spare held fuel 59 cs=some (d,p))(hw:Wt Tryz.prog 59 d):∃x:PStart,VL (cK w) [.int .i64 x.kind,.int .i64 x.day,.str x.event] cs:=by
  obtain⟨n,rfl,⟨⟨d0,p0,t0,w0⟩,⟨d1,p1,t1,w1⟩,⟨d2,p2,t2,w2⟩,_⟩,hx⟩:=iN Tryz.underlying59 (by kernel_rfl) h hw
  obtain⟨a,ha⟩:=gm Tryz.underlying3 t0
  obtain⟨b,hb⟩:=gm Tryz.underlying3 t1
  obtain⟨s,hs⟩:=nE Tryz.underlying9 t2
  exact⟨⟨a,b,s⟩,hx [[_],[_],[_]] ⟨ha,hb,hs,trivial⟩⟩
theorem So{fuel:Nat}(h:DataW.trod enc Tryz.prog w base spare held fuel 9 cs=some (d,p))(_:Wt Tryz.prog 9 d):∃x:aP,True∧VL (cK w) (mT x).cells cs:=by
  obtain⟨s,hs⟩:=nE Tryz.underlying9 h
  exact⟨s,trivial,hs⟩
theorem E3{fuel:Nat}(h:DataW.trod enc Tryz.prog w base spare held fuel 35 cs=some (d,p))(hw:Wt Tryz.prog 35 d):∃l:List PWord,l.length<2^60∧(∀x,x∈l→True)∧VL (cK w) [.ls (l.map aQ)] cs:=
  lZ aQ (fun _=>True) Tryz.underlying35 (by kernel_rfl) (by kernel_rfl) (fun x=>(show(aQ x).cells.length=4 from rfl).trans Xw.symm) (fun _=>rfl) iD (fun _ _ _ _ _ h hw=>Sb h hw) h hw
theorem FW{fuel:Nat}(h:DataW.trod enc Tryz.prog w base spare held fuel 56 cs=some (d,p))(hw:Wt Tryz.prog 56 d):∃l:List PStep,l.length<2^60∧(∀x,x∈l→True)∧VL (cK w) [.ls (l.map ak)] cs:=
  lZ ak (fun _=>True) Tryz.underlying56 (by kernel_rfl) (by kernel_rfl) (fun x=>(show(ak x).cells.length=2 from rfl).trans Xy.symm) (fun _=>rfl) G4 (fun _ _ _ _ _ h hw=>Sp h hw) h hw
theorem JN{fuel:Nat}(h:DataW.trod enc Tryz.prog w base spare held fuel 57 cs=some (d,p))(hw:Wt Tryz.prog 57 d):∃l:List aP,l.length<2^60∧(∀x,x∈l→True)∧VL (cK w) [.ls (l.map mT)] cs:=
  lZ mT (fun _=>True) Tryz.underlying57 (by kernel_rfl) (by kernel_rfl) (fun x=>(show(mT x).cells.length=1 from rfl).trans Y0.symm) (fun _=>rfl) JU (fun _ _ _ _ _ h hw=>So h hw) h hw
theorem Sg(fuel:Nat):∀{cs:List Value}{d:DataW H}{p:List MemPlace},DataW.trod enc Tryz.prog w base spare held fuel 38 cs=some (d,p)→Wt Tryz.prog 38 d→∃u:TUnit,pY u∧VL (cK w) (cU u) cs:=by
  induction fuel using Nat.strongRecOn with
  | _ fuel ih=>
    intro cs d p h hw
    obtain⟨n,rfl,⟨⟨d0,p0,t0,w0⟩,⟨d1,p1,t1,w1⟩,⟨d2,p2,t2,w2⟩,⟨d3,p3,t3,w3⟩,⟨d4,p4,t4,w4⟩,⟨d5,p5,t5,w5⟩,_⟩,hx⟩:=iN Tryz.underlying38 (by kernel_rfl) h hw
    obtain⟨a,b,c,h0⟩:=Yu t0 w0
    obtain⟨k,h1⟩:=gm Tryz.underlying3 t1
    obtain⟨l,h2⟩:=nE Tryz.underlying9 t2
    obtain⟨hd,l3,_,h3⟩:=E3 t3 w3
    obtain⟨ws,l4,_,h4⟩:=E3 t4 w4
    obtain⟨ks,l5,f5,h5⟩:=lZ aY pY Tryz.underlying36 (by kernel_rfl) (by kernel_rfl) (fun x=>by rw[Xv,aO];rfl) (fun x=>by rw[aO];rfl) iZ
      (fun m hm cs d p h hw=>by
        obtain⟨u,f,v⟩:=ih m (by omega) h hw
        exact⟨u,f,by rw[aO];exact v⟩) t5 w5
    exact⟨⟨a,b,c,k,l,hd,ws,ks⟩,lq.2 ⟨l3,l4,l5,f5⟩,hx [[_,_,_],[_],[_],[_],[_],[_]] ⟨h0,h1,h2,h3,h4,h5,trivial⟩⟩
theorem TD(fuel:Nat):∀{cs:List Value}{d:DataW H}{p:List MemPlace},DataW.trod enc Tryz.prog w base spare held fuel 62 cs=some (d,p)→Wt Tryz.prog 62 d→∃x:PItem,nW x∧VL (cK w) (cI x) cs:=by
  induction fuel using Nat.strongRecOn with
  | _ fuel ih=>
    intro cs d p h hw
    obtain⟨n,rfl,⟨⟨d0,p0,t0,w0⟩,⟨d1,p1,t1,w1⟩,⟨d2,p2,t2,w2⟩,⟨d3,p3,t3,w3⟩,⟨d4,p4,t4,w4⟩,⟨d5,p5,t5,w5⟩,⟨d6,p6,t6,w6⟩,⟨d7,p7,t7,w7⟩,⟨d8,p8,t8,w8⟩,⟨d9,p9,t9,w9⟩,⟨d10,p10,t10,w10⟩,⟨d11,p11,t11,w11⟩,⟨d12,p12,t12,w12⟩,⟨d13,p13,t13,w13⟩,⟨d14,p14,t14,w14⟩,⟨d15,p15,t15,w15⟩,_⟩,hx⟩:=iN Tryz.underlying62 (by kernel_rfl) h hw
    obtain⟨k,h0⟩:=gm Tryz.underlying3 t0
    obtain⟨at_,l1,_,h1⟩:=FW t1 w1
    obtain⟨to,l2,_,h2⟩:=FW t2 w2
    obtain⟨wh,h3⟩:=gm Tryz.underlying3 t3
    obtain⟨nt,h4⟩:=gm Tryz.underlying3 t4
    obtain⟨u,f5,h5⟩:=Sg _ t5 w5
    obtain⟨ol,l6,_,h6⟩:=JN t6 w6
    obtain⟨ne,l7,_,h7⟩:=JN t7 w7
    obtain⟨lb,h8⟩:=nE Tryz.underlying9 t8
    obtain⟨fo,h9⟩:=nE Tryz.underlying9 t9
    obtain⟨st,h10⟩:=FJ t10 w10
    obtain⟨ac,h11⟩:=gm Tryz.underlying3 t11
    obtain⟨it,h12⟩:=gm Tryz.underlying3 t12
    obtain⟨dy,h13⟩:=gm Tryz.underlying3 t13
    obtain⟨ev,h14⟩:=nE Tryz.underlying9 t14
    obtain⟨bs,l15,f15,h15⟩:=lZ Np nW Tryz.underlying60 (by kernel_rfl) (by kernel_rfl) (fun x=>by rw[RE,ej];rfl) (fun x=>by rw[ej];rfl) G7
      (fun m hm cs d p h hw=>by
        obtain⟨u,f,v⟩:=ih m (by omega) h hw
        exact⟨u,f,by rw[ej];exact v⟩) t15 w15
    exact⟨⟨k,at_,to,wh,nt,u,ol,ne,lb,fo,st,ac,it,dy,ev,bs⟩,qr.2 ⟨l1,l2,l6,l7,l15,f5,f15⟩,
      hx [[_],[_],[_],[_],[_],cU u,[_],[_],[_],[_],[_,_,_],[_],[_],[_],[_],[_]] ⟨h0,h1,h2,h3,h4,h5,h6,h7,h8,h9,h10,h11,h12,h13,h14,h15,trivial⟩⟩
theorem Qq{fuel:Nat}(h:DataW.trod enc Tryz.prog w base spare held fuel 60 cs=some (d,p))(hw:Wt Tryz.prog 60 d):∃l:List PItem,l.length<2^60∧(∀x,x∈l→nW x)∧VL (cK w) [.ls (l.map Np)] cs:=
  lZ Np nW Tryz.underlying60 (by kernel_rfl) (by kernel_rfl) (fun x=>by rw[RE,ej];rfl) (fun x=>by rw[ej];rfl) G7
    (fun m _ cs d p h hw=>by
      obtain⟨u,f,v⟩:=TD m h hw
      exact⟨u,f,by rw[ej];exact v⟩) h hw
theorem Xp{fuel:Nat}(h:DataW.trod enc Tryz.prog w base spare held fuel 81 cs=some (d,p))(hw:Wt Tryz.prog 81 d):∃x:PAct,QS x∧VL (cK w) (aa x).cells cs:=by
  obtain⟨n,rfl,⟨⟨d0,p0,t0,w0⟩,⟨d1,p1,t1,w1⟩,⟨d2,p2,t2,w2⟩,⟨d3,p3,t3,w3⟩,⟨d4,p4,t4,w4⟩,_⟩,hx⟩:=iN Tryz.underlying81 (by kernel_rfl) h hw
  obtain⟨a,h0⟩:=gm Tryz.underlying3 t0
  obtain⟨ti,h1⟩:=nE Tryz.underlying9 t1
  obtain⟨dy,h2⟩:=gm Tryz.underlying3 t2
  obtain⟨st,h3⟩:=FJ t3 w3
  obtain⟨l,l4,f4,h4⟩:=Qq t4 w4
  exact⟨⟨a,ti,dy,st,l⟩,⟨l4,f4⟩,hx [[_],[_],[_],[_,_,_],[_]] ⟨h0,h1,h2,h3,h4,trivial⟩⟩
theorem U3{fuel:Nat}(h:DataW.trod enc Tryz.prog w base spare held fuel 50 cs=some (d,p))(hw:Wt Tryz.prog 50 d):∃l:List PAct,l.length<2^60∧(∀x,x∈l→QS x)∧VL (cK w) [.ls (l.map aa)] cs:=
  lZ aa QS Tryz.underlying50 (by kernel_rfl) (by kernel_rfl) (fun x=>(show(aa x).cells.length=7 from rfl).trans Y2.symm) (fun _=>rfl) Jx (fun _ _ _ _ _ h hw=>Xp h hw) h hw
theorem WG{fuel:Nat}(h:DataW.trod enc Tryz.prog w base spare held fuel 52 cs=some (d,p))(hw:Wt Tryz.prog 52 d):∃x:PGaz,WN x∧VL (cK w) (aK x).cells cs:=by
  obtain⟨n,rfl,⟨⟨d0,p0,t0,w0⟩,⟨d1,p1,t1,w1⟩,⟨d2,p2,t2,w2⟩,⟨d3,p3,t3,w3⟩,_⟩,hx⟩:=iN Tryz.underlying52 (by kernel_rfl) h hw
  obtain⟨a,h0⟩:=gm Tryz.underlying3 t0
  obtain⟨dy,h1⟩:=gm Tryz.underlying3 t1
  obtain⟨pr,h2⟩:=nE Tryz.underlying9 t2
  obtain⟨l,l3,f3,h3⟩:=U3 t3 w3
  exact⟨⟨a,dy,pr,l⟩,⟨l3,f3⟩,hx [[_],[_],[_],[_]] ⟨h0,h1,h2,h3,trivial⟩⟩
/-- Gazettes handed in. -/
theorem wS{fuel:Nat}(h:DataW.trod enc Tryz.prog w base spare held fuel 22 cs=some (d,p))(hw:Wt Tryz.prog 22 d):∃gs:List PGaz,ni gs∧VL (cK w) [.ls (gs.map aK)] cs:=by
  obtain⟨l,h1,h2,h3⟩:=lZ aK WN Tryz.underlying22 (by kernel_rfl) (by kernel_rfl) (fun x=>(show(aK x).cells.length=4 from rfl).trans Y1.symm) (fun _=>rfl) iE (fun _ _ _ _ _ h hw=>WG h hw) h hw
  exact⟨l,⟨h1,h2⟩,h3⟩
end
end Go.Proofs.YtaepacpodblomaaGreatDoor
