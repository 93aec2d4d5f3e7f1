/- A law's arguments: whatever gazettes are handed in, they are Lean data. -/
import Derived.Test.YtadodlkibeofjaaGreatDoorEva
import Derived.Test.YtadodlkibeofjaaGreatDoorMach8
namespace Go.Proofs.YtadodlkibeofjaaGreatDoor
open Go Go.Ev
section
variable{H:Type}{enc:TypeId×Value->H}{w:World}{base:Nat}{spare:Nat->Bool}{held:Bool}{cs:List Value}{d:DataW H}{p:List MemPlace}
theorem YS:Tryz.prog.cellsOf 127=4:=by kernel_rfl
theorem Y0:Tryz.prog.cellsOf 143=2:=by kernel_rfl
theorem YT:Tryz.prog.cellsOf 39=8:=by kernel_rfl
theorem S5:Tryz.prog.cellsOf 74=25:=by kernel_rfl
theorem aad:Tryz.prog.cellsOf 77=7:=by kernel_rfl
theorem aac:Tryz.prog.cellsOf 29=4:=by kernel_rfl
theorem aab:Tryz.prog.cellsOf 9=1:=by kernel_rfl
theorem WN{fuel:Nat}(h:DataW.trod enc Tryz.prog w base spare held fuel 35 cs=some (d,p))(hw:Wt Tryz.prog 35 d):∃a b c,VL (cX w) [.int .i64 a,.int .i64 b,.int .i64 c] cs:=by
  obtain⟨n,rfl,⟨⟨d0,p0,t0,w0⟩,⟨d1,p1,t1,w1⟩,⟨d2,p2,t2,w2⟩,_⟩,hx⟩:=i9 Tryz.underlying35 (by kernel_rfl) h hw
  obtain⟨a,ha⟩:=iz Tryz.underlying3 t0
  obtain⟨b,hb⟩:=iz Tryz.underlying3 t1
  obtain⟨c,hc⟩:=iz Tryz.underlying3 t2
  exact⟨a,b,c,hx [[_],[_],[_]] ⟨ha,hb,hc,trivial⟩⟩
theorem US{fuel:Nat}(h:DataW.trod enc Tryz.prog w base spare held fuel 125 cs=some (d,p))(hw:Wt Tryz.prog 125 d):∃a b c,VL (cX w) [.int .i64 a,.int .i64 b,.int .i64 c] cs:=by
  obtain⟨n,rfl,⟨⟨d0,p0,t0,w0⟩,⟨d1,p1,t1,w1⟩,⟨d2,p2,t2,w2⟩,_⟩,hx⟩:=i9 Tryz.underlying125 (by kernel_rfl) h hw
  obtain⟨a,ha⟩:=iz Tryz.underlying3 t0
  obtain⟨b,hb⟩:=iz Tryz.underlying3 t1
  obtain⟨c,hc⟩:=iz Tryz.underlying3 t2
  exact⟨a,b,c,hx [[_],[_],[_]] ⟨ha,hb,hc,trivial⟩⟩
theorem TA{fuel:Nat}(h:DataW.trod enc Tryz.prog w base spare held fuel 127 cs=some (d,p))(hw:Wt Tryz.prog 127 d):∃x:PWord,True/\VL (cX w) (aQ x).cells cs:=by
  obtain⟨n,rfl,⟨⟨d0,p0,t0,w0⟩,⟨d1,p1,t1,w1⟩,_⟩,hx⟩:=i9 Tryz.underlying127 (by kernel_rfl) h hw
  obtain⟨s,hs⟩:=n4 Tryz.underlying9 t0
  obtain⟨a,b,c,hm⟩:=US t1 w1
  exact⟨⟨s,a,b,c⟩,trivial,hx [[_],[_,_,_]] ⟨hs,hm,trivial⟩⟩
theorem T0{fuel:Nat}(h:DataW.trod enc Tryz.prog w base spare held fuel 143 cs=some (d,p))(hw:Wt Tryz.prog 143 d):∃x:PStep,True/\VL (cX w) (az x).cells cs:=by
  obtain⟨n,rfl,⟨⟨d0,p0,t0,w0⟩,⟨d1,p1,t1,w1⟩,_⟩,hx⟩:=i9 Tryz.underlying143 (by kernel_rfl) h hw
  obtain⟨a,ha⟩:=iz Tryz.underlying3 t0
  obtain⟨s,hs⟩:=n4 Tryz.underlying9 t1
  exact⟨⟨a,s⟩,trivial,hx [[_],[_]] ⟨ha,hs,trivial⟩⟩
theorem F5{fuel:Nat}(h:DataW.trod enc Tryz.prog w base spare held fuel 71 cs=some (d,p))(hw:Wt Tryz.prog 71 d):∃x:PStart,VL (cX w) [.int .i64 x.kind,.int .i64 x.day,.str x.event] cs:=by
  obtain⟨n,rfl,⟨⟨d0,p0,t0,w0⟩,⟨d1,p1,t1,w1⟩,⟨d2,p2,t2,w2⟩,_⟩,hx⟩:=i9 Tryz.underlying71 (by kernel_rfl) h hw
  obtain⟨a,ha⟩:=iz Tryz.underlying3 t0
  obtain⟨b,hb⟩:=iz Tryz.underlying3 t1
  obtain⟨s,hs⟩:=n4 Tryz.underlying9 t2
  exact⟨⟨a,b,s⟩,hx [[_],[_],[_]] ⟨ha,hb,hs,trivial⟩⟩
theorem TT{fuel:Nat}(h:DataW.trod enc Tryz.prog w base spare held fuel 9 cs=some (d,p))(_:Wt Tryz.prog 9 d):∃x:aH,True/\VL (cX w) (nw x).cells cs:=by
  obtain⟨s,hs⟩:=n4 Tryz.underlying9 h
  exact⟨s,trivial,hs⟩
theorem FF{fuel:Nat}(h:DataW.trod enc Tryz.prog w base spare held fuel 36 cs=some (d,p))(hw:Wt Tryz.prog 36 d):∃l:List PWord,l.length<2^60/\(∀x,x∈l->True)/\VL (cX w) [.ls (l.map aQ)] cs:=
  lm aQ (fun _=>True) Tryz.underlying36 (by kernel_rfl) (by kernel_rfl) (fun x=>(show(aQ x).cells.length=4 from rfl).trans YS.symm) (fun _=>rfl) iH (fun _ _ _ _ _ h hw=>TA h hw) h hw
theorem F4{fuel:Nat}(h:DataW.trod enc Tryz.prog w base spare held fuel 68 cs=some (d,p))(hw:Wt Tryz.prog 68 d):∃l:List PStep,l.length<2^60/\(∀x,x∈l->True)/\VL (cX w) [.ls (l.map az)] cs:=
  lm az (fun _=>True) Tryz.underlying68 (by kernel_rfl) (by kernel_rfl) (fun x=>(show(az x).cells.length=2 from rfl).trans Y0.symm) (fun _=>rfl) H0 (fun _ _ _ _ _ h hw=>T0 h hw) h hw
theorem Ly{fuel:Nat}(h:DataW.trod enc Tryz.prog w base spare held fuel 69 cs=some (d,p))(hw:Wt Tryz.prog 69 d):∃l:List aH,l.length<2^60/\(∀x,x∈l->True)/\VL (cX w) [.ls (l.map nw)] cs:=
  lm nw (fun _=>True) Tryz.underlying69 (by kernel_rfl) (by kernel_rfl) (fun x=>(show(nw x).cells.length=1 from rfl).trans aab.symm) (fun _=>rfl) Kk (fun _ _ _ _ _ h hw=>TT h hw) h hw
theorem TH(fuel:Nat):∀{cs:List Value}{d:DataW H}{p:List MemPlace},DataW.trod enc Tryz.prog w base spare held fuel 39 cs=some (d,p)->Wt Tryz.prog 39 d->∃u:TUnit,tV u/\VL (cX w) (cU u) cs:=by
  induction fuel using Nat.strongRecOn with
  | _ fuel ih=>
    intro cs d p h hw
    obtain⟨n,rfl,⟨⟨d0,p0,t0,w0⟩,⟨d1,p1,t1,w1⟩,⟨d2,p2,t2,w2⟩,⟨d3,p3,t3,w3⟩,⟨d4,p4,t4,w4⟩,⟨d5,p5,t5,w5⟩,_⟩,hx⟩:=i9 Tryz.underlying39 (by kernel_rfl) h hw
    obtain⟨a,b,c,h0⟩:=WN t0 w0
    obtain⟨k,h1⟩:=iz Tryz.underlying3 t1
    obtain⟨l,h2⟩:=n4 Tryz.underlying9 t2
    obtain⟨hd,l3,_,h3⟩:=FF t3 w3
    obtain⟨ws,l4,_,h4⟩:=FF t4 w4
    obtain⟨ks,l5,f5,h5⟩:=lm aY tV Tryz.underlying37 (by kernel_rfl) (by kernel_rfl) (fun x=>by rw[YT,aO];rfl) (fun x=>by rw[aO];rfl) iZ
      (fun m hm cs d p h hw=>by
        obtain⟨u,f,v⟩:=ih m (by omega) h hw
        exact⟨u,f,by rw[aO];exact v⟩) t5 w5
    exact⟨⟨a,b,c,k,l,hd,ws,ks⟩,qP.2 ⟨l3,l4,l5,f5⟩,hx [[_,_,_],[_],[_],[_],[_],[_]] ⟨h0,h1,h2,h3,h4,h5,trivial⟩⟩
theorem U7(fuel:Nat):∀{cs:List Value}{d:DataW H}{p:List MemPlace},DataW.trod enc Tryz.prog w base spare held fuel 74 cs=some (d,p)->Wt Tryz.prog 74 d->∃x:PItem,nr x/\VL (cX w) (cI x) cs:=by
  induction fuel using Nat.strongRecOn with
  | _ fuel ih=>
    intro cs d p h hw
    obtain⟨n,rfl,⟨⟨d0,p0,t0,w0⟩,⟨d1,p1,t1,w1⟩,⟨d2,p2,t2,w2⟩,⟨d3,p3,t3,w3⟩,⟨d4,p4,t4,w4⟩,⟨d5,p5,t5,w5⟩,⟨d6,p6,t6,w6⟩,⟨d7,p7,t7,w7⟩,⟨d8,p8,t8,w8⟩,⟨d9,p9,t9,w9⟩,⟨d10,p10,t10,w10⟩,⟨d11,p11,t11,w11⟩,⟨d12,p12,t12,w12⟩,⟨d13,p13,t13,w13⟩,⟨d14,p14,t14,w14⟩,⟨d15,p15,t15,w15⟩,_⟩,hx⟩:=i9 Tryz.underlying74 (by kernel_rfl) h hw
    obtain⟨k,h0⟩:=iz Tryz.underlying3 t0
    obtain⟨at_,l1,_,h1⟩:=F4 t1 w1
    obtain⟨to,l2,_,h2⟩:=F4 t2 w2
    obtain⟨wh,h3⟩:=iz Tryz.underlying3 t3
    obtain⟨nt,h4⟩:=iz Tryz.underlying3 t4
    obtain⟨u,f5,h5⟩:=TH _ t5 w5
    obtain⟨ol,l6,_,h6⟩:=Ly t6 w6
    obtain⟨ne,l7,_,h7⟩:=Ly t7 w7
    obtain⟨lb,h8⟩:=n4 Tryz.underlying9 t8
    obtain⟨fo,h9⟩:=n4 Tryz.underlying9 t9
    obtain⟨st,h10⟩:=F5 t10 w10
    obtain⟨ac,h11⟩:=iz Tryz.underlying3 t11
    obtain⟨it,h12⟩:=iz Tryz.underlying3 t12
    obtain⟨dy,h13⟩:=iz Tryz.underlying3 t13
    obtain⟨ev,h14⟩:=n4 Tryz.underlying9 t14
    obtain⟨bs,l15,f15,h15⟩:=lm OP nr Tryz.underlying72 (by kernel_rfl) (by kernel_rfl) (fun x=>by rw[S5,ee];rfl) (fun x=>by rw[ee];rfl) H4
      (fun m hm cs d p h hw=>by
        obtain⟨u,f,v⟩:=ih m (by omega) h hw
        exact⟨u,f,by rw[ee];exact v⟩) t15 w15
    exact⟨⟨k,at_,to,wh,nt,u,ol,ne,lb,fo,st,ac,it,dy,ev,bs⟩,qR.2 ⟨l1,l2,l6,l7,l15,f5,f15⟩,
      hx [[_],[_],[_],[_],[_],cU u,[_],[_],[_],[_],[_,_,_],[_],[_],[_],[_],[_]] ⟨h0,h1,h2,h3,h4,h5,h6,h7,h8,h9,h10,h11,h12,h13,h14,h15,trivial⟩⟩
theorem Rf{fuel:Nat}(h:DataW.trod enc Tryz.prog w base spare held fuel 72 cs=some (d,p))(hw:Wt Tryz.prog 72 d):∃l:List PItem,l.length<2^60/\(∀x,x∈l->nr x)/\VL (cX w) [.ls (l.map OP)] cs:=
  lm OP nr Tryz.underlying72 (by kernel_rfl) (by kernel_rfl) (fun x=>by rw[S5,ee];rfl) (fun x=>by rw[ee];rfl) H4
    (fun m _ cs d p h hw=>by
      obtain⟨u,f,v⟩:=U7 m h hw
      exact⟨u,f,by rw[ee];exact v⟩) h hw
theorem Vw{n:Int}(h:(Lit.int .i64 n).wf=true): -9223372036854775808<=n/\n<=9223372036854775807:=by
  simp only[Lit.wf,bz,decide_eq_true_eq]at h
  exact h
def RH(n:Int):Prop:= -9223372036854775808<=n/\n<=9223372036854775807
def MI(a:PAct):Prop:=Yd a/\RH a.number/\RH a.day
def WR(g:PGaz):Prop:=g.acts.length<2^60/\∀a,a∈g.acts->MI a
theorem Mm{t:TypeId}{fuel:Nat}{cs:List Value}{d:DataW H}{p:List MemPlace}(hu:Tryz.prog.underlying t=some (.int .i64))(h:DataW.trod enc Tryz.prog w base spare held fuel t cs=some (d,p)):∃x,RH x/\VL (cX w) [.int .i64 x] cs:=by
  obtain⟨x,rfl,_,hw⟩:=DataW.trod_int hu h
  exact⟨x,Vw hw,.cons (.int _ _) .nil⟩
theorem ZZ{fuel:Nat}(h:DataW.trod enc Tryz.prog w base spare held fuel 77 cs=some (d,p))(hw:Wt Tryz.prog 77 d):∃x:PAct,MI x/\VL (cX w) (av x).cells cs:=by
  obtain⟨n,rfl,⟨⟨d0,p0,t0,w0⟩,⟨d1,p1,t1,w1⟩,⟨d2,p2,t2,w2⟩,⟨d3,p3,t3,w3⟩,⟨d4,p4,t4,w4⟩,_⟩,hx⟩:=i9 Tryz.underlying77 (by kernel_rfl) h hw
  obtain⟨a,r0,h0⟩:=Mm Tryz.underlying3 t0
  obtain⟨ti,h1⟩:=n4 Tryz.underlying9 t1
  obtain⟨dy,r2,h2⟩:=Mm Tryz.underlying3 t2
  obtain⟨st,h3⟩:=F5 t3 w3
  obtain⟨l,l4,f4,h4⟩:=Rf t4 w4
  exact⟨⟨a,ti,dy,st,l⟩,⟨⟨l4,f4⟩,r0,r2⟩,hx [[_],[_],[_],[_,_,_],[_]] ⟨h0,h1,h2,h3,h4,trivial⟩⟩
theorem Wc{fuel:Nat}(h:DataW.trod enc Tryz.prog w base spare held fuel 27 cs=some (d,p))(hw:Wt Tryz.prog 27 d):∃l:List PAct,l.length<2^60/\(∀x,x∈l->MI x)/\VL (cX w) [.ls (l.map av)] cs:=
  lm av MI Tryz.underlying27 (by kernel_rfl) (by kernel_rfl) (fun x=>(show(av x).cells.length=7 from rfl).trans aad.symm) (fun _=>rfl) Km (fun _ _ _ _ _ h hw=>ZZ h hw) h hw
theorem Yk{fuel:Nat}(h:DataW.trod enc Tryz.prog w base spare held fuel 29 cs=some (d,p))(hw:Wt Tryz.prog 29 d):∃x:PGaz,WR x/\VL (cX w) (ae x).cells cs:=by
  obtain⟨n,rfl,⟨⟨d0,p0,t0,w0⟩,⟨d1,p1,t1,w1⟩,⟨d2,p2,t2,w2⟩,⟨d3,p3,t3,w3⟩,_⟩,hx⟩:=i9 Tryz.underlying29 (by kernel_rfl) h hw
  obtain⟨a,h0⟩:=iz Tryz.underlying3 t0
  obtain⟨dy,h1⟩:=iz Tryz.underlying3 t1
  obtain⟨pr,h2⟩:=n4 Tryz.underlying9 t2
  obtain⟨l,l3,f3,h3⟩:=Wc t3 w3
  exact⟨⟨a,dy,pr,l⟩,⟨l3,f3⟩,hx [[_],[_],[_],[_]] ⟨h0,h1,h2,h3,trivial⟩⟩
theorem He{fuel:Nat}(h:DataW.trod enc Tryz.prog w base spare held fuel 47 cs=some (d,p))(hw:Wt Tryz.prog 47 d):∃gs:List PGaz,(pM gs/\∀g,g∈gs->∀a,a∈g.acts->RH a.number/\RH a.day)/\VL (cX w) [.ls (gs.map ae)] cs:=by
  obtain⟨l,h1,h2,h3⟩:=lm ae WR Tryz.underlying47 (by kernel_rfl) (by kernel_rfl) (fun x=>(show(ae x).cells.length=4 from rfl).trans aac.symm) (fun _=>rfl) Ki (fun _ _ _ _ _ h hw=>Yk h hw) h hw
  exact⟨l,⟨⟨h1,fun g hg=>⟨(h2 g hg).1,fun a ha=>((h2 g hg).2 a ha).1⟩⟩,fun g hg a ha=>((h2 g hg).2 a ha).2⟩,h3⟩
end
end Go.Proofs.YtadodlkibeofjaaGreatDoor
