/- A law's arguments: whatever gazettes are handed in, they are Lean data. -/
import Derived.Test.YtaepacpodblomaaGreatDoorEva
import Derived.Test.YtaepacpodblomaaGreatDoorMach7
namespace Go.Proofs.YtaepacpodblomaaGreatDoor
open Go Go.Ev
section
variable{H:Type}{enc:TypeId×Value→H}{w:World}{base:Nat}{spare:Nat→Bool}{held:Bool}{cs:List Value}{d:DataW H}{p:List MemPlace}
theorem YU:Tryz.prog.cellsOf 102=4:=by kernel_rfl
theorem Yz:Tryz.prog.cellsOf 126=2:=by kernel_rfl
theorem Yq:Tryz.prog.cellsOf 38=8:=by kernel_rfl
theorem SI:Tryz.prog.cellsOf 62=25:=by kernel_rfl
theorem ZH:Tryz.prog.cellsOf 81=7:=by kernel_rfl
theorem ZG:Tryz.prog.cellsOf 52=4:=by kernel_rfl
theorem ZF:Tryz.prog.cellsOf 9=1:=by kernel_rfl
theorem Zz{fuel:Nat}(h:DataW.trod enc Tryz.prog w base spare held fuel 34 cs=some (d,p))(hw:Wt Tryz.prog 34 d):∃a b c,VL (cw w) [.int .i64 a,.int .i64 b,.int .i64 c] cs:=by
  obtain⟨n,rfl,⟨⟨d0,p0,t0,w0⟩,⟨d1,p1,t1,w1⟩,⟨d2,p2,t2,w2⟩,_⟩,hx⟩:=jK Tryz.underlying34 (by kernel_rfl) h hw
  obtain⟨a,ha⟩:=gF Tryz.underlying3 t0
  obtain⟨b,hb⟩:=gF Tryz.underlying3 t1
  obtain⟨c,hc⟩:=gF Tryz.underlying3 t2
  exact⟨a,b,c,hx [[_],[_],[_]] ⟨ha,hb,hc,trivial⟩⟩
theorem Up{fuel:Nat}(h:DataW.trod enc Tryz.prog w base spare held fuel 100 cs=some (d,p))(hw:Wt Tryz.prog 100 d):∃a b c,VL (cw w) [.int .i64 a,.int .i64 b,.int .i64 c] cs:=by
  obtain⟨n,rfl,⟨⟨d0,p0,t0,w0⟩,⟨d1,p1,t1,w1⟩,⟨d2,p2,t2,w2⟩,_⟩,hx⟩:=jK Tryz.underlying100 (by kernel_rfl) h hw
  obtain⟨a,ha⟩:=gF Tryz.underlying3 t0
  obtain⟨b,hb⟩:=gF Tryz.underlying3 t1
  obtain⟨c,hc⟩:=gF Tryz.underlying3 t2
  exact⟨a,b,c,hx [[_],[_],[_]] ⟨ha,hb,hc,trivial⟩⟩
theorem Te{fuel:Nat}(h:DataW.trod enc Tryz.prog w base spare held fuel 102 cs=some (d,p))(hw:Wt Tryz.prog 102 d):∃x:PWord,True∧VL (cw w) (aQ x).cells cs:=by
  obtain⟨n,rfl,⟨⟨d0,p0,t0,w0⟩,⟨d1,p1,t1,w1⟩,_⟩,hx⟩:=jK Tryz.underlying102 (by kernel_rfl) h hw
  obtain⟨s,hs⟩:=nI Tryz.underlying9 t0
  obtain⟨a,b,c,hm⟩:=Up t1 w1
  exact⟨⟨s,a,b,c⟩,trivial,hx [[_],[_,_,_]] ⟨hs,hm,trivial⟩⟩
theorem Tt{fuel:Nat}(h:DataW.trod enc Tryz.prog w base spare held fuel 126 cs=some (d,p))(hw:Wt Tryz.prog 126 d):∃x:PStep,True∧VL (cw w) (aj x).cells cs:=by
  obtain⟨n,rfl,⟨⟨d0,p0,t0,w0⟩,⟨d1,p1,t1,w1⟩,_⟩,hx⟩:=jK Tryz.underlying126 (by kernel_rfl) h hw
  obtain⟨a,ha⟩:=gF Tryz.underlying3 t0
  obtain⟨s,hs⟩:=nI Tryz.underlying9 t1
  exact⟨⟨a,s⟩,trivial,hx [[_],[_]] ⟨ha,hs,trivial⟩⟩
theorem FI{fuel:Nat}(h:DataW.trod enc Tryz.prog w base spare held fuel 59 cs=some (d,p))(hw:Wt Tryz.prog 59 d):∃x:PStart,VL (cw w) [.int .i64 x.kind,.int .i64 x.day,.str x.event] cs:=by
  obtain⟨n,rfl,⟨⟨d0,p0,t0,w0⟩,⟨d1,p1,t1,w1⟩,⟨d2,p2,t2,w2⟩,_⟩,hx⟩:=jK Tryz.underlying59 (by kernel_rfl) h hw
  obtain⟨a,ha⟩:=gF Tryz.underlying3 t0
  obtain⟨b,hb⟩:=gF Tryz.underlying3 t1
  obtain⟨s,hs⟩:=nI Tryz.underlying9 t2
  exact⟨⟨a,b,s⟩,hx [[_],[_],[_]] ⟨ha,hb,hs,trivial⟩⟩
theorem Ts{fuel:Nat}(h:DataW.trod enc Tryz.prog w base spare held fuel 9 cs=some (d,p))(_:Wt Tryz.prog 9 d):∃x:aR,True∧VL (cw w) (nQ x).cells cs:=by
  obtain⟨s,hs⟩:=nI Tryz.underlying9 h
  exact⟨s,trivial,hs⟩
theorem Fl{fuel:Nat}(h:DataW.trod enc Tryz.prog w base spare held fuel 35 cs=some (d,p))(hw:Wt Tryz.prog 35 d):∃l:List PWord,l.length<2^60∧(∀x,x∈l→True)∧VL (cw w) [.ls (l.map aQ)] cs:=
  ld aQ (fun _=>True) Tryz.underlying35 (by kernel_rfl) (by kernel_rfl) (fun x=>(show(aQ x).cells.length=4 from rfl).trans YU.symm) (fun _=>rfl) iT (fun _ _ _ _ _ h hw=>Te h hw) h hw
theorem FH{fuel:Nat}(h:DataW.trod enc Tryz.prog w base spare held fuel 56 cs=some (d,p))(hw:Wt Tryz.prog 56 d):∃l:List PStep,l.length<2^60∧(∀x,x∈l→True)∧VL (cw w) [.ls (l.map aj)] cs:=
  ld aj (fun _=>True) Tryz.underlying56 (by kernel_rfl) (by kernel_rfl) (fun x=>(show(aj x).cells.length=2 from rfl).trans Yz.symm) (fun _=>rfl) HC (fun _ _ _ _ _ h hw=>Tt h hw) h hw
theorem K3{fuel:Nat}(h:DataW.trod enc Tryz.prog w base spare held fuel 57 cs=some (d,p))(hw:Wt Tryz.prog 57 d):∃l:List aR,l.length<2^60∧(∀x,x∈l→True)∧VL (cw w) [.ls (l.map nQ)] cs:=
  ld nQ (fun _=>True) Tryz.underlying57 (by kernel_rfl) (by kernel_rfl) (fun x=>(show(nQ x).cells.length=1 from rfl).trans ZF.symm) (fun _=>rfl) JT (fun _ _ _ _ _ h hw=>Ts h hw) h hw
theorem Ti(fuel:Nat):∀{cs:List Value}{d:DataW H}{p:List MemPlace},DataW.trod enc Tryz.prog w base spare held fuel 38 cs=some (d,p)→Wt Tryz.prog 38 d→∃u:TUnit,qT u∧VL (cw w) (cU u) cs:=by
  induction fuel using Nat.strongRecOn with
  | _ fuel ih=>
    intro cs d p h hw
    obtain⟨n,rfl,⟨⟨d0,p0,t0,w0⟩,⟨d1,p1,t1,w1⟩,⟨d2,p2,t2,w2⟩,⟨d3,p3,t3,w3⟩,⟨d4,p4,t4,w4⟩,⟨d5,p5,t5,w5⟩,_⟩,hx⟩:=jK Tryz.underlying38 (by kernel_rfl) h hw
    obtain⟨a,b,c,h0⟩:=Zz t0 w0
    obtain⟨k,h1⟩:=gF Tryz.underlying3 t1
    obtain⟨l,h2⟩:=nI Tryz.underlying9 t2
    obtain⟨hd,l3,_,h3⟩:=Fl t3 w3
    obtain⟨ws,l4,_,h4⟩:=Fl t4 w4
    obtain⟨ks,l5,f5,h5⟩:=ld aY qT Tryz.underlying36 (by kernel_rfl) (by kernel_rfl) (fun x=>by rw[Yq,aT];rfl) (fun x=>by rw[aT];rfl) iw
      (fun m hm cs d p h hw=>by
        obtain⟨u,f,v⟩:=ih m (by omega) h hw
        exact⟨u,f,by rw[aT];exact v⟩) t5 w5
    exact⟨⟨a,b,c,k,l,hd,ws,ks⟩,og.2 ⟨l3,l4,l5,f5⟩,hx [[_,_,_],[_],[_],[_],[_],[_]] ⟨h0,h1,h2,h3,h4,h5,trivial⟩⟩
theorem UF(fuel:Nat):∀{cs:List Value}{d:DataW H}{p:List MemPlace},DataW.trod enc Tryz.prog w base spare held fuel 62 cs=some (d,p)→Wt Tryz.prog 62 d→∃x:PItem,nq x∧VL (cw w) (cI x) cs:=by
  induction fuel using Nat.strongRecOn with
  | _ fuel ih=>
    intro cs d p h hw
    obtain⟨n,rfl,⟨⟨d0,p0,t0,w0⟩,⟨d1,p1,t1,w1⟩,⟨d2,p2,t2,w2⟩,⟨d3,p3,t3,w3⟩,⟨d4,p4,t4,w4⟩,⟨d5,p5,t5,w5⟩,⟨d6,p6,t6,w6⟩,⟨d7,p7,t7,w7⟩,⟨d8,p8,t8,w8⟩,⟨d9,p9,t9,w9⟩,⟨d10,p10,t10,w10⟩,⟨d11,p11,t11,w11⟩,⟨d12,p12,t12,w12⟩,⟨d13,p13,t13,w13⟩,⟨d14,p14,t14,w14⟩,⟨d15,p15,t15,w15⟩,_⟩,hx⟩:=jK Tryz.underlying62 (by kernel_rfl) h hw
    obtain⟨k,h0⟩:=gF Tryz.underlying3 t0
    obtain⟨at_,l1,_,h1⟩:=FH t1 w1
    obtain⟨to,l2,_,h2⟩:=FH t2 w2
    obtain⟨wh,h3⟩:=gF Tryz.underlying3 t3
    obtain⟨nt,h4⟩:=gF Tryz.underlying3 t4
    obtain⟨u,f5,h5⟩:=Ti _ t5 w5
    obtain⟨ol,l6,_,h6⟩:=K3 t6 w6
    obtain⟨ne,l7,_,h7⟩:=K3 t7 w7
    obtain⟨lb,h8⟩:=nI Tryz.underlying9 t8
    obtain⟨fo,h9⟩:=nI Tryz.underlying9 t9
    obtain⟨st,h10⟩:=FI t10 w10
    obtain⟨ac,h11⟩:=gF Tryz.underlying3 t11
    obtain⟨it,h12⟩:=gF Tryz.underlying3 t12
    obtain⟨dy,h13⟩:=gF Tryz.underlying3 t13
    obtain⟨ev,h14⟩:=nI Tryz.underlying9 t14
    obtain⟨bs,l15,f15,h15⟩:=ld Og nq Tryz.underlying60 (by kernel_rfl) (by kernel_rfl) (fun x=>by rw[SI,eQ];rfl) (fun x=>by rw[eQ];rfl) HF
      (fun m hm cs d p h hw=>by
        obtain⟨u,f,v⟩:=ih m (by omega) h hw
        exact⟨u,f,by rw[eQ];exact v⟩) t15 w15
    exact⟨⟨k,at_,to,wh,nt,u,ol,ne,lb,fo,st,ac,it,dy,ev,bs⟩,rQ.2 ⟨l1,l2,l6,l7,l15,f5,f15⟩,
      hx [[_],[_],[_],[_],[_],cU u,[_],[_],[_],[_],[_,_,_],[_],[_],[_],[_],[_]] ⟨h0,h1,h2,h3,h4,h5,h6,h7,h8,h9,h10,h11,h12,h13,h14,h15,trivial⟩⟩
theorem Q9{fuel:Nat}(h:DataW.trod enc Tryz.prog w base spare held fuel 60 cs=some (d,p))(hw:Wt Tryz.prog 60 d):∃l:List PItem,l.length<2^60∧(∀x,x∈l→nq x)∧VL (cw w) [.ls (l.map Og)] cs:=
  ld Og nq Tryz.underlying60 (by kernel_rfl) (by kernel_rfl) (fun x=>by rw[SI,eQ];rfl) (fun x=>by rw[eQ];rfl) HF
    (fun m _ cs d p h hw=>by
      obtain⟨u,f,v⟩:=UF m h hw
      exact⟨u,f,by rw[eQ];exact v⟩) h hw
theorem Yi{fuel:Nat}(h:DataW.trod enc Tryz.prog w base spare held fuel 81 cs=some (d,p))(hw:Wt Tryz.prog 81 d):∃x:PAct,RM x∧VL (cw w) (ay x).cells cs:=by
  obtain⟨n,rfl,⟨⟨d0,p0,t0,w0⟩,⟨d1,p1,t1,w1⟩,⟨d2,p2,t2,w2⟩,⟨d3,p3,t3,w3⟩,⟨d4,p4,t4,w4⟩,_⟩,hx⟩:=jK Tryz.underlying81 (by kernel_rfl) h hw
  obtain⟨a,h0⟩:=gF Tryz.underlying3 t0
  obtain⟨ti,h1⟩:=nI Tryz.underlying9 t1
  obtain⟨dy,h2⟩:=gF Tryz.underlying3 t2
  obtain⟨st,h3⟩:=FI t3 w3
  obtain⟨l,l4,f4,h4⟩:=Q9 t4 w4
  exact⟨⟨a,ti,dy,st,l⟩,⟨l4,f4⟩,hx [[_],[_],[_],[_,_,_],[_]] ⟨h0,h1,h2,h3,h4,trivial⟩⟩
theorem V8{fuel:Nat}(h:DataW.trod enc Tryz.prog w base spare held fuel 50 cs=some (d,p))(hw:Wt Tryz.prog 50 d):∃l:List PAct,l.length<2^60∧(∀x,x∈l→RM x)∧VL (cw w) [.ls (l.map ay)] cs:=
  ld ay RM Tryz.underlying50 (by kernel_rfl) (by kernel_rfl) (fun x=>(show(ay x).cells.length=7 from rfl).trans ZH.symm) (fun _=>rfl) J3 (fun _ _ _ _ _ h hw=>Yi h hw) h hw
theorem XF{fuel:Nat}(h:DataW.trod enc Tryz.prog w base spare held fuel 52 cs=some (d,p))(hw:Wt Tryz.prog 52 d):∃x:PGaz,XM x∧VL (cw w) (aa x).cells cs:=by
  obtain⟨n,rfl,⟨⟨d0,p0,t0,w0⟩,⟨d1,p1,t1,w1⟩,⟨d2,p2,t2,w2⟩,⟨d3,p3,t3,w3⟩,_⟩,hx⟩:=jK Tryz.underlying52 (by kernel_rfl) h hw
  obtain⟨a,h0⟩:=gF Tryz.underlying3 t0
  obtain⟨dy,h1⟩:=gF Tryz.underlying3 t1
  obtain⟨pr,h2⟩:=nI Tryz.underlying9 t2
  obtain⟨l,l3,f3,h3⟩:=V8 t3 w3
  exact⟨⟨a,dy,pr,l⟩,⟨l3,f3⟩,hx [[_],[_],[_],[_]] ⟨h0,h1,h2,h3,trivial⟩⟩
/-- Gazettes handed in. -/
theorem Hq{fuel:Nat}(h:DataW.trod enc Tryz.prog w base spare held fuel 22 cs=some (d,p))(hw:Wt Tryz.prog 22 d):∃gs:List PGaz,pH gs∧VL (cw w) [.ls (gs.map aa)] cs:=by
  obtain⟨l,h1,h2,h3⟩:=ld aa XM Tryz.underlying22 (by kernel_rfl) (by kernel_rfl) (fun x=>(show(aa x).cells.length=4 from rfl).trans ZG.symm) (fun _=>rfl) J2 (fun _ _ _ _ _ h hw=>XF h hw) h hw
  exact⟨l,⟨h1,h2⟩,h3⟩
end
end Go.Proofs.YtaepacpodblomaaGreatDoor
