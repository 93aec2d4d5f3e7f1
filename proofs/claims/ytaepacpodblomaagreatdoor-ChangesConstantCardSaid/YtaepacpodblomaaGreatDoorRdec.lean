/- A law's arguments: whatever gazettes are handed in, they are Lean data. -/
import Derived.Test.YtaepacpodblomaaGreatDoorEva
import Derived.Test.YtaepacpodblomaaGreatDoorMach7
namespace Go.Proofs.YtaepacpodblomaaGreatDoor
open Go Go.Ev
section
variable{H:Type}{enc:TypeId×Value→H}{w:World}{base:Nat}{spare:Nat→Bool}{held:Bool}{cs:List Value}{d:DataW H}{p:List MemPlace}
theorem Xf:Tryz.prog.cellsOf 102=4:=by kernel_rfl
theorem Xh:Tryz.prog.cellsOf 126=2:=by kernel_rfl
theorem Xg:Tryz.prog.cellsOf 38=8:=by kernel_rfl
theorem R0:Tryz.prog.cellsOf 62=25:=by kernel_rfl
theorem Y4:Tryz.prog.cellsOf 81=7:=by kernel_rfl
theorem Y3:Tryz.prog.cellsOf 52=4:=by kernel_rfl
theorem Y2:Tryz.prog.cellsOf 9=1:=by kernel_rfl
theorem Yi{fuel:Nat}(h:DataW.trod enc Tryz.prog w base spare held fuel 34 cs=some (d,p))(hw:Wt Tryz.prog 34 d):∃a b c,VL (ce w) [.int .i64 a,.int .i64 b,.int .i64 c] cs:=by
  obtain⟨n,rfl,⟨⟨d0,p0,t0,w0⟩,⟨d1,p1,t1,w1⟩,⟨d2,p2,t2,w2⟩,_⟩,hx⟩:=iI Tryz.underlying34 (by kernel_rfl) h hw
  obtain⟨a,ha⟩:=gd Tryz.underlying3 t0
  obtain⟨b,hb⟩:=gd Tryz.underlying3 t1
  obtain⟨c,hc⟩:=gd Tryz.underlying3 t2
  exact⟨a,b,c,hx [[_],[_],[_]] ⟨ha,hb,hc,trivial⟩⟩
theorem TN{fuel:Nat}(h:DataW.trod enc Tryz.prog w base spare held fuel 100 cs=some (d,p))(hw:Wt Tryz.prog 100 d):∃a b c,VL (ce w) [.int .i64 a,.int .i64 b,.int .i64 c] cs:=by
  obtain⟨n,rfl,⟨⟨d0,p0,t0,w0⟩,⟨d1,p1,t1,w1⟩,⟨d2,p2,t2,w2⟩,_⟩,hx⟩:=iI Tryz.underlying100 (by kernel_rfl) h hw
  obtain⟨a,ha⟩:=gd Tryz.underlying3 t0
  obtain⟨b,hb⟩:=gd Tryz.underlying3 t1
  obtain⟨c,hc⟩:=gd Tryz.underlying3 t2
  exact⟨a,b,c,hx [[_],[_],[_]] ⟨ha,hb,hc,trivial⟩⟩
theorem SC{fuel:Nat}(h:DataW.trod enc Tryz.prog w base spare held fuel 102 cs=some (d,p))(hw:Wt Tryz.prog 102 d):∃x:PWord,True∧VL (ce w) (aQ x).cells cs:=by
  obtain⟨n,rfl,⟨⟨d0,p0,t0,w0⟩,⟨d1,p1,t1,w1⟩,_⟩,hx⟩:=iI Tryz.underlying102 (by kernel_rfl) h hw
  obtain⟨s,hs⟩:=np Tryz.underlying9 t0
  obtain⟨a,b,c,hm⟩:=TN t1 w1
  exact⟨⟨s,a,b,c⟩,trivial,hx [[_],[_,_,_]] ⟨hs,hm,trivial⟩⟩
theorem SP{fuel:Nat}(h:DataW.trod enc Tryz.prog w base spare held fuel 126 cs=some (d,p))(hw:Wt Tryz.prog 126 d):∃x:PStep,True∧VL (ce w) (az x).cells cs:=by
  obtain⟨n,rfl,⟨⟨d0,p0,t0,w0⟩,⟨d1,p1,t1,w1⟩,_⟩,hx⟩:=iI Tryz.underlying126 (by kernel_rfl) h hw
  obtain⟨a,ha⟩:=gd Tryz.underlying3 t0
  obtain⟨s,hs⟩:=np Tryz.underlying9 t1
  exact⟨⟨a,s⟩,trivial,hx [[_],[_]] ⟨ha,hs,trivial⟩⟩
theorem Fw{fuel:Nat}(h:DataW.trod enc Tryz.prog w base spare held fuel 59 cs=some (d,p))(hw:Wt Tryz.prog 59 d):∃x:PStart,VL (ce w) [.int .i64 x.kind,.int .i64 x.day,.str x.event] cs:=by
  obtain⟨n,rfl,⟨⟨d0,p0,t0,w0⟩,⟨d1,p1,t1,w1⟩,⟨d2,p2,t2,w2⟩,_⟩,hx⟩:=iI Tryz.underlying59 (by kernel_rfl) h hw
  obtain⟨a,ha⟩:=gd Tryz.underlying3 t0
  obtain⟨b,hb⟩:=gd Tryz.underlying3 t1
  obtain⟨s,hs⟩:=np Tryz.underlying9 t2
  exact⟨⟨a,b,s⟩,hx [[_],[_],[_]] ⟨ha,hb,hs,trivial⟩⟩
theorem SO{fuel:Nat}(h:DataW.trod enc Tryz.prog w base spare held fuel 9 cs=some (d,p))(_:Wt Tryz.prog 9 d):∃x:aI,True∧VL (ce w) (m0 x).cells cs:=by
  obtain⟨s,hs⟩:=np Tryz.underlying9 h
  exact⟨s,trivial,hs⟩
theorem FW{fuel:Nat}(h:DataW.trod enc Tryz.prog w base spare held fuel 35 cs=some (d,p))(hw:Wt Tryz.prog 35 d):∃l:List PWord,l.length<2^60∧(∀x,x∈l→True)∧VL (ce w) [.ls (l.map aQ)] cs:=
  mn aQ (fun _=>True) Tryz.underlying35 (by kernel_rfl) (by kernel_rfl) (fun x=>(show(aQ x).cells.length=4 from rfl).trans Xf.symm) (fun _=>rfl) iD (fun _ _ _ _ _ h hw=>SC h hw) h hw
theorem Fk{fuel:Nat}(h:DataW.trod enc Tryz.prog w base spare held fuel 56 cs=some (d,p))(hw:Wt Tryz.prog 56 d):∃l:List PStep,l.length<2^60∧(∀x,x∈l→True)∧VL (ce w) [.ls (l.map az)] cs:=
  mn az (fun _=>True) Tryz.underlying56 (by kernel_rfl) (by kernel_rfl) (fun x=>(show(az x).cells.length=2 from rfl).trans Xh.symm) (fun _=>rfl) HU (fun _ _ _ _ _ h hw=>SP h hw) h hw
theorem KZ{fuel:Nat}(h:DataW.trod enc Tryz.prog w base spare held fuel 57 cs=some (d,p))(hw:Wt Tryz.prog 57 d):∃l:List aI,l.length<2^60∧(∀x,x∈l→True)∧VL (ce w) [.ls (l.map m0)] cs:=
  mn m0 (fun _=>True) Tryz.underlying57 (by kernel_rfl) (by kernel_rfl) (fun x=>(show(m0 x).cells.length=1 from rfl).trans Y2.symm) (fun _=>rfl) Jg (fun _ _ _ _ _ h hw=>SO h hw) h hw
theorem SG(fuel:Nat):∀{cs:List Value}{d:DataW H}{p:List MemPlace},DataW.trod enc Tryz.prog w base spare held fuel 38 cs=some (d,p)→Wt Tryz.prog 38 d→∃u:TUnit,jq u∧VL (ce w) (cU u) cs:=by
  induction fuel using Nat.strongRecOn with
  | _ fuel ih=>
    intro cs d p h hw
    obtain⟨n,rfl,⟨⟨d0,p0,t0,w0⟩,⟨d1,p1,t1,w1⟩,⟨d2,p2,t2,w2⟩,⟨d3,p3,t3,w3⟩,⟨d4,p4,t4,w4⟩,⟨d5,p5,t5,w5⟩,_⟩,hx⟩:=iI Tryz.underlying38 (by kernel_rfl) h hw
    obtain⟨a,b,c,h0⟩:=Yi t0 w0
    obtain⟨k,h1⟩:=gd Tryz.underlying3 t1
    obtain⟨l,h2⟩:=np Tryz.underlying9 t2
    obtain⟨hd,l3,_,h3⟩:=FW t3 w3
    obtain⟨ws,l4,_,h4⟩:=FW t4 w4
    obtain⟨ks,l5,f5,h5⟩:=mn aK jq Tryz.underlying36 (by kernel_rfl) (by kernel_rfl) (fun x=>by rw[Xg,aR];rfl) (fun x=>by rw[aR];rfl) iW
      (fun m hm cs d p h hw=>by
        obtain⟨u,f,v⟩:=ih m (by omega) h hw
        exact⟨u,f,by rw[aR];exact v⟩) t5 w5
    exact⟨⟨a,b,c,k,l,hd,ws,ks⟩,lx.2 ⟨l3,l4,l5,f5⟩,hx [[_,_,_],[_],[_],[_],[_],[_]] ⟨h0,h1,h2,h3,h4,h5,trivial⟩⟩
theorem T3(fuel:Nat):∀{cs:List Value}{d:DataW H}{p:List MemPlace},DataW.trod enc Tryz.prog w base spare held fuel 62 cs=some (d,p)→Wt Tryz.prog 62 d→∃x:PItem,nX x∧VL (ce w) (cI x) cs:=by
  induction fuel using Nat.strongRecOn with
  | _ fuel ih=>
    intro cs d p h hw
    obtain⟨n,rfl,⟨⟨d0,p0,t0,w0⟩,⟨d1,p1,t1,w1⟩,⟨d2,p2,t2,w2⟩,⟨d3,p3,t3,w3⟩,⟨d4,p4,t4,w4⟩,⟨d5,p5,t5,w5⟩,⟨d6,p6,t6,w6⟩,⟨d7,p7,t7,w7⟩,⟨d8,p8,t8,w8⟩,⟨d9,p9,t9,w9⟩,⟨d10,p10,t10,w10⟩,⟨d11,p11,t11,w11⟩,⟨d12,p12,t12,w12⟩,⟨d13,p13,t13,w13⟩,⟨d14,p14,t14,w14⟩,⟨d15,p15,t15,w15⟩,_⟩,hx⟩:=iI Tryz.underlying62 (by kernel_rfl) h hw
    obtain⟨k,h0⟩:=gd Tryz.underlying3 t0
    obtain⟨at_,l1,_,h1⟩:=Fk t1 w1
    obtain⟨to,l2,_,h2⟩:=Fk t2 w2
    obtain⟨wh,h3⟩:=gd Tryz.underlying3 t3
    obtain⟨nt,h4⟩:=gd Tryz.underlying3 t4
    obtain⟨u,f5,h5⟩:=SG _ t5 w5
    obtain⟨ol,l6,_,h6⟩:=KZ t6 w6
    obtain⟨ne,l7,_,h7⟩:=KZ t7 w7
    obtain⟨lb,h8⟩:=np Tryz.underlying9 t8
    obtain⟨fo,h9⟩:=np Tryz.underlying9 t9
    obtain⟨st,h10⟩:=Fw t10 w10
    obtain⟨ac,h11⟩:=gd Tryz.underlying3 t11
    obtain⟨it,h12⟩:=gd Tryz.underlying3 t12
    obtain⟨dy,h13⟩:=gd Tryz.underlying3 t13
    obtain⟨ev,h14⟩:=np Tryz.underlying9 t14
    obtain⟨bs,l15,f15,h15⟩:=mn NT nX Tryz.underlying60 (by kernel_rfl) (by kernel_rfl) (fun x=>by rw[R0,ee];rfl) (fun x=>by rw[ee];rfl) Hx
      (fun m hm cs d p h hw=>by
        obtain⟨u,f,v⟩:=ih m (by omega) h hw
        exact⟨u,f,by rw[ee];exact v⟩) t15 w15
    exact⟨⟨k,at_,to,wh,nt,u,ol,ne,lb,fo,st,ac,it,dy,ev,bs⟩,qr.2 ⟨l1,l2,l6,l7,l15,f5,f15⟩,
      hx [[_],[_],[_],[_],[_],cU u,[_],[_],[_],[_],[_,_,_],[_],[_],[_],[_],[_]] ⟨h0,h1,h2,h3,h4,h5,h6,h7,h8,h9,h10,h11,h12,h13,h14,h15,trivial⟩⟩
theorem Qe{fuel:Nat}(h:DataW.trod enc Tryz.prog w base spare held fuel 60 cs=some (d,p))(hw:Wt Tryz.prog 60 d):∃l:List PItem,l.length<2^60∧(∀x,x∈l→nX x)∧VL (ce w) [.ls (l.map NT)] cs:=
  mn NT nX Tryz.underlying60 (by kernel_rfl) (by kernel_rfl) (fun x=>by rw[R0,ee];rfl) (fun x=>by rw[ee];rfl) Hx
    (fun m _ cs d p h hw=>by
      obtain⟨u,f,v⟩:=T3 m h hw
      exact⟨u,f,by rw[ee];exact v⟩) h hw
theorem XD{fuel:Nat}(h:DataW.trod enc Tryz.prog w base spare held fuel 81 cs=some (d,p))(hw:Wt Tryz.prog 81 d):∃x:PAct,NE x∧VL (ce w) (ay x).cells cs:=by
  obtain⟨n,rfl,⟨⟨d0,p0,t0,w0⟩,⟨d1,p1,t1,w1⟩,⟨d2,p2,t2,w2⟩,⟨d3,p3,t3,w3⟩,⟨d4,p4,t4,w4⟩,_⟩,hx⟩:=iI Tryz.underlying81 (by kernel_rfl) h hw
  obtain⟨a,h0⟩:=gd Tryz.underlying3 t0
  obtain⟨ti,h1⟩:=np Tryz.underlying9 t1
  obtain⟨dy,h2⟩:=gd Tryz.underlying3 t2
  obtain⟨st,h3⟩:=Fw t3 w3
  obtain⟨l,l4,f4,h4⟩:=Qe t4 w4
  exact⟨⟨a,ti,dy,st,l⟩,⟨l4,f4⟩,hx [[_],[_],[_],[_,_,_],[_]] ⟨h0,h1,h2,h3,h4,trivial⟩⟩
theorem Vq{fuel:Nat}(h:DataW.trod enc Tryz.prog w base spare held fuel 50 cs=some (d,p))(hw:Wt Tryz.prog 50 d):∃l:List PAct,l.length<2^60∧(∀x,x∈l→NE x)∧VL (ce w) [.ls (l.map ay)] cs:=
  mn ay NE Tryz.underlying50 (by kernel_rfl) (by kernel_rfl) (fun x=>(show(ay x).cells.length=7 from rfl).trans Y4.symm) (fun _=>rfl) Jm (fun _ _ _ _ _ h hw=>XD h hw) h hw
theorem WR{fuel:Nat}(h:DataW.trod enc Tryz.prog w base spare held fuel 52 cs=some (d,p))(hw:Wt Tryz.prog 52 d):∃x:PGaz,W6 x∧VL (ce w) (af x).cells cs:=by
  obtain⟨n,rfl,⟨⟨d0,p0,t0,w0⟩,⟨d1,p1,t1,w1⟩,⟨d2,p2,t2,w2⟩,⟨d3,p3,t3,w3⟩,_⟩,hx⟩:=iI Tryz.underlying52 (by kernel_rfl) h hw
  obtain⟨a,h0⟩:=gd Tryz.underlying3 t0
  obtain⟨dy,h1⟩:=gd Tryz.underlying3 t1
  obtain⟨pr,h2⟩:=np Tryz.underlying9 t2
  obtain⟨l,l3,f3,h3⟩:=Vq t3 w3
  exact⟨⟨a,dy,pr,l⟩,⟨l3,f3⟩,hx [[_],[_],[_],[_]] ⟨h0,h1,h2,h3,trivial⟩⟩
end
end Go.Proofs.YtaepacpodblomaaGreatDoor
