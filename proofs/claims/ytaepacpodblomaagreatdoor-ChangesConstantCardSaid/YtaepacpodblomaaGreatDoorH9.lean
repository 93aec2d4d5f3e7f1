/- Functions walked: what each of them answers, for The book is constant between change days and differs on each change day from the day before: part 9. Conditions: those that each theorem names. -/
import Derived.Test.YtaepacpodblomaaGreatDoorH8
namespace Go.Proofs.YtaepacpodblomaaGreatDoor
open Go Go.Ev
theorem Xj(gs:List PGaz)(day:Int)(p:aI)(haw:kP 8 [] (.bool true))(hw:kP 9 [.ls (gs.map af),.str p] (.bool false)):kP 4 [iV day,.str p,.ls (gs.map af)] (.bool true):=by
  exact bD Tryz.func4<|Kp 0 haw<|Kp 3 hw<|Kp 6 haw<|Kf 0<|bc<|dD true
theorem YE(gs:List PGaz)(day:Int)(p:aI)(haw:kP 8 [] (.bool true))(hw:kP 9 [.ls (gs.map af),.str p] (.bool true))(g1:ao day 0=true):kP 4 [iV day,.str p,.ls (gs.map af)] (.bool true):=by
  exact bD Tryz.func4<|Kp 0 haw<|Kp 3 hw<|Kt 6 g1<|Mt g1<|MV g1<|Kp 0 haw<|Kf 0<|bc<|dD true
theorem YD(gs:List PGaz)(day:Int)(p:aI)(haw:kP 8 [] (.bool true))(hw:kP 9 [.ls (gs.map af),.str p] (.bool true))(g1:ao day 0=false)(g2:ao 1048576 day=true):kP 4 [iV day,.str p,.ls (gs.map af)] (.bool true):=by
  exact bD Tryz.func4<|Kp 0 haw<|Kp 3 hw<|Kh 6 g1<|Kh 0 g1<|Kw 0 g1<|Mt g2<|Mp haw<|Kf 0<|bc<|dD true
theorem UN(gs:List PGaz)(day n:Int)(p:aI)(u:TUnit)(haw:kP 8 [] (.bool true))(hw:kP 9 [.ls (gs.map af),.str p] (.bool true))(g1:ao day 0=false)(g2:ao 1048576 day=false)
    (b1:kP 14 [iV day,.str p,.ls (gs.map af)] (eU u))(hl:kP 13 [iV day,.str p,.ls (gs.map af)] (iV n))(g3:ao n 0=true)(hk:u.kids.length=0):kP 4 [iV day,.str p,.ls (gs.map af)] (.bool true):=by
  have rr0 b' (h:(true)=b':=by(rw[hk];rfl)):=h;exact bD Tryz.func4<|Kp 0 haw<|Kp 3 hw<|Kh 6 g1<|Kh 0 g1<|Kw 0 g1<|Mh g2<|Kp 2 b1<|Kp 4 hl<|Kt 2 g3<|Kl 2 40 (ln aK u.kids)<|Kf 1<|ca<|rr0<|al (Int.ofNat u.kids.length) 0
theorem UO(gs:List PGaz)(day n:Int)(p:aI)(u v w:TUnit)(haw:kP 8 [] (.bool true))(hw:kP 9 [.ls (gs.map af),.str p] (.bool true))(g1:ao day 0=false)(g2:ao 1048576 day=false)(n1:0≤n)(n2:n<1048577)
    (b1:kP 14 [iV day,.str p,.ls (gs.map af)] (eU u))(hl:kP 13 [iV day,.str p,.ls (gs.map af)] (iV n))(g3:ao n 0=false)(g4:ao day n=false)
    (b2:kP 14 [iV n,.str p,.ls (gs.map af)] (eU v))(b3:kP 14 [iV (n-1),.str p,.ls (gs.map af)] (eU w))
    (s1:kP 15 [eU u,eU v] (.bool true))(s2:kP 15 [eU u,eU w] (.bool false))
    (e1:kP 16 [iV day,iV n,.str p,.ls (gs.map af)] (.bool true))(e2:kP 16 [iV n,iV (n-1),.str p,.ls (gs.map af)] (.bool false))
    (hx:kP 12 [iV day,.str p,.ls (gs.map af)] (.tuple [iV 0,.bool false])):kP 4 [iV day,.str p,.ls (gs.map af)] (.bool true):=by
  have hw1:IntKind.i64.wrap (n-1)=n-1:=qP (by omega) (by omega)
  rw[←hw1]at b3 e2
  exact bD Tryz.func4<|Kp 0 haw<|Kp 3 hw<|Kh 6 g1<|Kh 0 g1<|Kw 0 g1<|Mh g2<|Kp 2 b1<|Kp 4 hl<|Kh 2 g3<|Kh 3 g4<|Kh 0 g4<|Kh 0 g4<|Kh 0 g4<|Kh 0 g4<|Mp b2<|Mh g4<|Mp s1<|Mh g4<|Kw 0 g4<|Kp 5 b3<|Mp s2<|Kp 5 e1<|Kp 7 e2<|Kp 4 hx<|Kf 9<|bc<|dD true
theorem RA(gs:List PGaz)(day n x:Int)(p:aI)(u v w:TUnit)(haw:kP 8 [] (.bool true))(hw:kP 9 [.ls (gs.map af),.str p] (.bool true))(g1:ao day 0=false)(g2:ao 1048576 day=false)(n1:0≤n)(n2:n<1048577)(x1:0≤x)(x2:x<1048577)
    (b1:kP 14 [iV day,.str p,.ls (gs.map af)] (eU u))(hl:kP 13 [iV day,.str p,.ls (gs.map af)] (iV n))(g3:ao n 0=false)(g4:ao day n=false)
    (b2:kP 14 [iV n,.str p,.ls (gs.map af)] (eU v))(b3:kP 14 [iV (n-1),.str p,.ls (gs.map af)] (eU w))
    (s1:kP 15 [eU u,eU v] (.bool true))(s2:kP 15 [eU u,eU w] (.bool false))
    (e1:kP 16 [iV day,iV n,.str p,.ls (gs.map af)] (.bool true))(e2:kP 16 [iV n,iV (n-1),.str p,.ls (gs.map af)] (.bool false))
    (hx:kP 12 [iV day,.str p,.ls (gs.map af)] (.tuple [iV x,.bool true]))(g5:ao day x=true)
    (e3:kP 16 [iV day,iV (x-1),.str p,.ls (gs.map af)] (.bool true))(e4:kP 16 [iV day,iV x,.str p,.ls (gs.map af)] (.bool false)):kP 4 [iV day,.str p,.ls (gs.map af)] (.bool true):=by
  have hw1:IntKind.i64.wrap (n-1)=n-1:=qP (by omega) (by omega)
  rw[←hw1]at b3 e2
  exact bD Tryz.func4<|Kp 0 haw<|Kp 3 hw<|Kh 6 g1<|Kh 0 g1<|Kw 0 g1<|Mh g2<|Kp 2 b1<|Kp 4 hl<|Kh 2 g3<|Kh 3 g4<|Kh 0 g4<|Kh 0 g4<|Kh 0 g4<|Kh 0 g4<|Mp b2<|Mh g4<|Mp s1<|Mh g4<|Kw 0 g4<|Kp 5 b3<|Mp s2<|Kp 5 e1<|Kp 7 e2<|Kp 4 hx<|Kt 11 g5<|Kt 0 g5<|Kt 0 g5<|Kl 0 95 (Le.wr (x:=x-1) e9)<|Mt g5<|Kt 0 g5<|Kt 0 g5<|Mp e3<|MV g5<|Kp 4 e4<|Kf 3<|bc<|dD true
/-- The law of the constant book, whole. -/
theorem Ee(day:Int)(p:aI)(gs:List PGaz)(hf:po gs)(hl:gs.length<2^47)(haw:kP 8 [] (.bool true)):kP 4 [iV day,.str p,.ls (gs.map af)] (.bool true):=by
  have hw:=NM gs p hf hl
  cases hb:vO gs p with
  |false=>rw[hb]at hw;exact Xj gs day p haw hw
  | true=>
    rw[hb]at hw
    have ok:=P0 hf hb
    cases g1:ao day 0 with
    |true=>exact YE gs day p haw hw g1
    |false=>
    cases g2:ao 1048576 day with
    |true=>exact YD gs day p haw hw g1 g2
    | false=>
      have z1:=aB g1
      have z2:=aB g2
      have F:=Xx p gs z1 z2
      have hla:=Nm gs ok day p
      have hnx:=Tl gs ok day p
      have hsame:∀a b,kP 15 [eU (aH a p gs),eU (aH b p gs)] (.bool (lP (aH a p gs) (aH b p gs))):=fun a b=>S7 _ (oZ (ok.okB a p)) _ (oZ (ok.okB b p))
      have heq:=fun a b=>OQ gs ok a b p
      cases g3:ao (gm day (iP p gs) (-1)) 0 with
      |true=>exact UN gs day _ p _ haw hw g1 g2 (ok.book day p) hla g3 (F.zero g3)
      | false=>
        have hin:=py gs _ (uI (yJ p gs g3).1)
        have s1:=hsame day (gm day (iP p gs) (-1))
        have s2:=hsame day (gm day (iP p gs) (-1)-1)
        have e1:=heq day (gm day (iP p gs) (-1))
        have e2:=heq (gm day (iP p gs) (-1)) (gm day (iP p gs) (-1)-1)
        have f1:lP (aH day p gs) (aH (gm day (iP p gs) (-1)) p gs)=true:=F.s1 g3
        have f2:lP (aH day p gs) (aH (gm day (iP p gs) (-1)-1) p gs)=false:=F.s2 g3
        have f3:lP (aH (gm day (iP p gs) (-1)) p gs) (aH (gm day (iP p gs) (-1)-1) p gs)=false:=F.s3 g3
        rw[f1]at s1 e1;rw[f2]at s2;rw[f3]at e2
        rcases IM day (iP p gs) (LL p gs)with⟨q1,_⟩|⟨v,q1,q2,_,_⟩
        · rw[q1]at hnx
          exact UO gs day _ p _ _ _ haw hw g1 g2 hin.1 hin.2 (ok.book day p) hla g3 (F.le g3) (ok.book _ p) (ok.book _ p) s1 s2 e1 e2 hnx
        · have f4:=F.s4 (by rw[q1])
          rw[q1]at hnx f4
          have hv:=py gs _ (uI q2)
          have e3:=heq day (v-1)
          have e4:=heq day v
          rw[f4.2.1]at e3;rw[f4.2.2]at e4
          exact RA gs day _ v p _ _ _ haw hw g1 g2 hin.1 hin.2 hv.1 hv.2 (ok.book day p) hla g3 (F.le g3) (ok.book _ p) (ok.book _ p) s1 s2 e1 e2 hnx f4.1 e3 e4
end Go.Proofs.YtaepacpodblomaaGreatDoor
