/- A law's arguments: whatever gazettes are handed in, they are Lean data. -/
import Derived.Test.YtiodnhiainjfgaaGreatDoorEva
import Derived.Test.YtiodnhiainjfgaaGreatDoorMach7
namespace Go.Proofs.YtiodnhiainjfgaaGreatDoor
open Go Go.Ev
section
variable{H:Type}{enc:TypeId×Value→H}{w:World}{base:Nat}{spare:Nat→Bool}{held:Bool}{cs:List Value}{d:DataW H}{p:List MemPlace}
theorem Wc:Tryz.prog.cellsOf 256=4:=by kernel_rfl
theorem We:Tryz.prog.cellsOf 70=2:=by kernel_rfl
theorem Wd:Tryz.prog.cellsOf 38=8:=by kernel_rfl
theorem Q0:Tryz.prog.cellsOf 64=25:=by kernel_rfl
theorem YQ:Tryz.prog.cellsOf 76=7:=by kernel_rfl
theorem X9:Tryz.prog.cellsOf 74=4:=by kernel_rfl
theorem X8:Tryz.prog.cellsOf 9=1:=by kernel_rfl
theorem XD{fuel:Nat}(h:DataW.trod enc Tryz.prog w base spare held fuel 25 cs=some (d,p))(hw:Wt Tryz.prog 25 d):∃a b c,VL (cK w) [.int .i64 a,.int .i64 b,.int .i64 c] cs:=by
  obtain⟨n,rfl,⟨⟨d0,p0,t0,w0⟩,⟨d1,p1,t1,w1⟩,⟨d2,p2,t2,w2⟩,_⟩,hx⟩:=iF Tryz.underlying25 (by kernel_rfl) h hw
  obtain⟨a,ha⟩:=gz Tryz.underlying3 t0
  obtain⟨b,hb⟩:=gz Tryz.underlying3 t1
  obtain⟨c,hc⟩:=gz Tryz.underlying3 t2
  exact⟨a,b,c,hx [[_],[_],[_]] ⟨ha,hb,hc,trivial⟩⟩
theorem SF{fuel:Nat}(h:DataW.trod enc Tryz.prog w base spare held fuel 254 cs=some (d,p))(hw:Wt Tryz.prog 254 d):∃a b c,VL (cK w) [.int .i64 a,.int .i64 b,.int .i64 c] cs:=by
  obtain⟨n,rfl,⟨⟨d0,p0,t0,w0⟩,⟨d1,p1,t1,w1⟩,⟨d2,p2,t2,w2⟩,_⟩,hx⟩:=iF Tryz.underlying254 (by kernel_rfl) h hw
  obtain⟨a,ha⟩:=gz Tryz.underlying3 t0
  obtain⟨b,hb⟩:=gz Tryz.underlying3 t1
  obtain⟨c,hc⟩:=gz Tryz.underlying3 t2
  exact⟨a,b,c,hx [[_],[_],[_]] ⟨ha,hb,hc,trivial⟩⟩
theorem Rn{fuel:Nat}(h:DataW.trod enc Tryz.prog w base spare held fuel 256 cs=some (d,p))(hw:Wt Tryz.prog 256 d):∃x:PWord,True∧VL (cK w) (aQ x).cells cs:=by
  obtain⟨n,rfl,⟨⟨d0,p0,t0,w0⟩,⟨d1,p1,t1,w1⟩,_⟩,hx⟩:=iF Tryz.underlying256 (by kernel_rfl) h hw
  obtain⟨s,hs⟩:=nq Tryz.underlying9 t0
  obtain⟨a,b,c,hm⟩:=SF t1 w1
  exact⟨⟨s,a,b,c⟩,trivial,hx [[_],[_,_,_]] ⟨hs,hm,trivial⟩⟩
theorem RG{fuel:Nat}(h:DataW.trod enc Tryz.prog w base spare held fuel 70 cs=some (d,p))(hw:Wt Tryz.prog 70 d):∃x:PStep,True∧VL (cK w) (az x).cells cs:=by
  obtain⟨n,rfl,⟨⟨d0,p0,t0,w0⟩,⟨d1,p1,t1,w1⟩,_⟩,hx⟩:=iF Tryz.underlying70 (by kernel_rfl) h hw
  obtain⟨a,ha⟩:=gz Tryz.underlying3 t0
  obtain⟨s,hs⟩:=nq Tryz.underlying9 t1
  exact⟨⟨a,s⟩,trivial,hx [[_],[_]] ⟨ha,hs,trivial⟩⟩
theorem Eu{fuel:Nat}(h:DataW.trod enc Tryz.prog w base spare held fuel 61 cs=some (d,p))(hw:Wt Tryz.prog 61 d):∃x:PStart,VL (cK w) [.int .i64 x.kind,.int .i64 x.day,.str x.event] cs:=by
  obtain⟨n,rfl,⟨⟨d0,p0,t0,w0⟩,⟨d1,p1,t1,w1⟩,⟨d2,p2,t2,w2⟩,_⟩,hx⟩:=iF Tryz.underlying61 (by kernel_rfl) h hw
  obtain⟨a,ha⟩:=gz Tryz.underlying3 t0
  obtain⟨b,hb⟩:=gz Tryz.underlying3 t1
  obtain⟨s,hs⟩:=nq Tryz.underlying9 t2
  exact⟨⟨a,b,s⟩,hx [[_],[_],[_]] ⟨ha,hb,hs,trivial⟩⟩
theorem RF{fuel:Nat}(h:DataW.trod enc Tryz.prog w base spare held fuel 9 cs=some (d,p))(_:Wt Tryz.prog 9 d):∃x:aP,True∧VL (cK w) (mE x).cells cs:=by
  obtain⟨s,hs⟩:=nq Tryz.underlying9 h
  exact⟨s,trivial,hs⟩
theorem Ef{fuel:Nat}(h:DataW.trod enc Tryz.prog w base spare held fuel 35 cs=some (d,p))(hw:Wt Tryz.prog 35 d):∃l:List PWord,l.length<2^60∧(∀x,x∈l→True)∧VL (cK w) [.ls (l.map aQ)] cs:=
  mq aQ (fun _=>True) Tryz.underlying35 (by kernel_rfl) (by kernel_rfl) (fun x=>(show(aQ x).cells.length=4 from rfl).trans Wc.symm) (fun _=>rfl) ig (fun _ _ _ _ _ h hw=>Rn h hw) h hw
theorem Et{fuel:Nat}(h:DataW.trod enc Tryz.prog w base spare held fuel 23 cs=some (d,p))(hw:Wt Tryz.prog 23 d):∃l:List PStep,l.length<2^60∧(∀x,x∈l→True)∧VL (cK w) [.ls (l.map az)] cs:=
  mq az (fun _=>True) Tryz.underlying23 (by kernel_rfl) (by kernel_rfl) (fun x=>(show(az x).cells.length=2 from rfl).trans We.symm) (fun _=>rfl) Gf (fun _ _ _ _ _ h hw=>RG h hw) h hw
theorem JY{fuel:Nat}(h:DataW.trod enc Tryz.prog w base spare held fuel 32 cs=some (d,p))(hw:Wt Tryz.prog 32 d):∃l:List aP,l.length<2^60∧(∀x,x∈l→True)∧VL (cK w) [.ls (l.map mE)] cs:=
  mq mE (fun _=>True) Tryz.underlying32 (by kernel_rfl) (by kernel_rfl) (fun x=>(show(mE x).cells.length=1 from rfl).trans X8.symm) (fun _=>rfl) Im (fun _ _ _ _ _ h hw=>RF h hw) h hw
theorem Rs(fuel:Nat):∀{cs:List Value}{d:DataW H}{p:List MemPlace},DataW.trod enc Tryz.prog w base spare held fuel 38 cs=some (d,p)→Wt Tryz.prog 38 d→∃u:TUnit,sy u∧VL (cK w) (cU u) cs:=by
  induction fuel using Nat.strongRecOn with
  | _ fuel ih=>
    intro cs d p h hw
    obtain⟨n,rfl,⟨⟨d0,p0,t0,w0⟩,⟨d1,p1,t1,w1⟩,⟨d2,p2,t2,w2⟩,⟨d3,p3,t3,w3⟩,⟨d4,p4,t4,w4⟩,⟨d5,p5,t5,w5⟩,_⟩,hx⟩:=iF Tryz.underlying38 (by kernel_rfl) h hw
    obtain⟨a,b,c,h0⟩:=XD t0 w0
    obtain⟨k,h1⟩:=gz Tryz.underlying3 t1
    obtain⟨l,h2⟩:=nq Tryz.underlying9 t2
    obtain⟨hd,l3,_,h3⟩:=Ef t3 w3
    obtain⟨ws,l4,_,h4⟩:=Ef t4 w4
    obtain⟨ks,l5,f5,h5⟩:=mq aV sy Tryz.underlying36 (by kernel_rfl) (by kernel_rfl) (fun x=>by rw[Wd,aO];rfl) (fun x=>by rw[aO];rfl) gN
      (fun m hm cs d p h hw=>by
        obtain⟨u,f,v⟩:=ih m (by omega) h hw
        exact⟨u,f,by rw[aO];exact v⟩) t5 w5
    exact⟨⟨a,b,c,k,l,hd,ws,ks⟩,qk.2 ⟨l3,l4,l5,f5⟩,hx [[_,_,_],[_],[_],[_],[_],[_]] ⟨h0,h1,h2,h3,h4,h5,trivial⟩⟩
theorem SP(fuel:Nat):∀{cs:List Value}{d:DataW H}{p:List MemPlace},DataW.trod enc Tryz.prog w base spare held fuel 64 cs=some (d,p)→Wt Tryz.prog 64 d→∃x:PItem,mO x∧VL (cK w) (cI x) cs:=by
  induction fuel using Nat.strongRecOn with
  | _ fuel ih=>
    intro cs d p h hw
    obtain⟨n,rfl,⟨⟨d0,p0,t0,w0⟩,⟨d1,p1,t1,w1⟩,⟨d2,p2,t2,w2⟩,⟨d3,p3,t3,w3⟩,⟨d4,p4,t4,w4⟩,⟨d5,p5,t5,w5⟩,⟨d6,p6,t6,w6⟩,⟨d7,p7,t7,w7⟩,⟨d8,p8,t8,w8⟩,⟨d9,p9,t9,w9⟩,⟨d10,p10,t10,w10⟩,⟨d11,p11,t11,w11⟩,⟨d12,p12,t12,w12⟩,⟨d13,p13,t13,w13⟩,⟨d14,p14,t14,w14⟩,⟨d15,p15,t15,w15⟩,_⟩,hx⟩:=iF Tryz.underlying64 (by kernel_rfl) h hw
    obtain⟨k,h0⟩:=gz Tryz.underlying3 t0
    obtain⟨at_,l1,_,h1⟩:=Et t1 w1
    obtain⟨to,l2,_,h2⟩:=Et t2 w2
    obtain⟨wh,h3⟩:=gz Tryz.underlying3 t3
    obtain⟨nt,h4⟩:=gz Tryz.underlying3 t4
    obtain⟨u,f5,h5⟩:=Rs _ t5 w5
    obtain⟨ol,l6,_,h6⟩:=JY t6 w6
    obtain⟨ne,l7,_,h7⟩:=JY t7 w7
    obtain⟨lb,h8⟩:=nq Tryz.underlying9 t8
    obtain⟨fo,h9⟩:=nq Tryz.underlying9 t9
    obtain⟨st,h10⟩:=Eu t10 w10
    obtain⟨ac,h11⟩:=gz Tryz.underlying3 t11
    obtain⟨it,h12⟩:=gz Tryz.underlying3 t12
    obtain⟨dy,h13⟩:=gz Tryz.underlying3 t13
    obtain⟨ev,h14⟩:=nq Tryz.underlying9 t14
    obtain⟨bs,l15,f15,h15⟩:=mq MF mO Tryz.underlying62 (by kernel_rfl) (by kernel_rfl) (fun x=>by rw[Q0,eZ];rfl) (fun x=>by rw[eZ];rfl) Gi
      (fun m hm cs d p h hw=>by
        obtain⟨u,f,v⟩:=ih m (by omega) h hw
        exact⟨u,f,by rw[eZ];exact v⟩) t15 w15
    exact⟨⟨k,at_,to,wh,nt,u,ol,ne,lb,fo,st,ac,it,dy,ev,bs⟩,qw.2 ⟨l1,l2,l6,l7,l15,f5,f15⟩,
      hx [[_],[_],[_],[_],[_],cU u,[_],[_],[_],[_],[_,_,_],[_],[_],[_],[_],[_]] ⟨h0,h1,h2,h3,h4,h5,h6,h7,h8,h9,h10,h11,h12,h13,h14,h15,trivial⟩⟩
theorem Pa{fuel:Nat}(h:DataW.trod enc Tryz.prog w base spare held fuel 62 cs=some (d,p))(hw:Wt Tryz.prog 62 d):∃l:List PItem,l.length<2^60∧(∀x,x∈l→mO x)∧VL (cK w) [.ls (l.map MF)] cs:=
  mq MF mO Tryz.underlying62 (by kernel_rfl) (by kernel_rfl) (fun x=>by rw[Q0,eZ];rfl) (fun x=>by rw[eZ];rfl) Gi
    (fun m _ cs d p h hw=>by
      obtain⟨u,f,v⟩:=SP m h hw
      exact⟨u,f,by rw[eZ];exact v⟩) h hw
theorem Wn{fuel:Nat}(h:DataW.trod enc Tryz.prog w base spare held fuel 76 cs=some (d,p))(hw:Wt Tryz.prog 76 d):∃x:PAct,MX x∧VL (cK w) (av x).cells cs:=by
  obtain⟨n,rfl,⟨⟨d0,p0,t0,w0⟩,⟨d1,p1,t1,w1⟩,⟨d2,p2,t2,w2⟩,⟨d3,p3,t3,w3⟩,⟨d4,p4,t4,w4⟩,_⟩,hx⟩:=iF Tryz.underlying76 (by kernel_rfl) h hw
  obtain⟨a,h0⟩:=gz Tryz.underlying3 t0
  obtain⟨ti,h1⟩:=nq Tryz.underlying9 t1
  obtain⟨dy,h2⟩:=gz Tryz.underlying3 t2
  obtain⟨st,h3⟩:=Eu t3 w3
  obtain⟨l,l4,f4,h4⟩:=Pa t4 w4
  exact⟨⟨a,ti,dy,st,l⟩,⟨l4,f4⟩,hx [[_],[_],[_],[_,_,_],[_]] ⟨h0,h1,h2,h3,h4,trivial⟩⟩
theorem UK{fuel:Nat}(h:DataW.trod enc Tryz.prog w base spare held fuel 72 cs=some (d,p))(hw:Wt Tryz.prog 72 d):∃l:List PAct,l.length<2^60∧(∀x,x∈l→MX x)∧VL (cK w) [.ls (l.map av)] cs:=
  mq av MX Tryz.underlying72 (by kernel_rfl) (by kernel_rfl) (fun x=>(show(av x).cells.length=7 from rfl).trans YQ.symm) (fun _=>rfl) Ir (fun _ _ _ _ _ h hw=>Wn h hw) h hw
theorem VP{fuel:Nat}(h:DataW.trod enc Tryz.prog w base spare held fuel 74 cs=some (d,p))(hw:Wt Tryz.prog 74 d):∃x:PGaz,V2 x∧VL (cK w) (aB x).cells cs:=by
  obtain⟨n,rfl,⟨⟨d0,p0,t0,w0⟩,⟨d1,p1,t1,w1⟩,⟨d2,p2,t2,w2⟩,⟨d3,p3,t3,w3⟩,_⟩,hx⟩:=iF Tryz.underlying74 (by kernel_rfl) h hw
  obtain⟨a,h0⟩:=gz Tryz.underlying3 t0
  obtain⟨dy,h1⟩:=gz Tryz.underlying3 t1
  obtain⟨pr,h2⟩:=nq Tryz.underlying9 t2
  obtain⟨l,l3,f3,h3⟩:=UK t3 w3
  exact⟨⟨a,dy,pr,l⟩,⟨l3,f3⟩,hx [[_],[_],[_],[_]] ⟨h0,h1,h2,h3,trivial⟩⟩
end
end Go.Proofs.YtiodnhiainjfgaaGreatDoor
