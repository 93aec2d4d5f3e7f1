/- Functions walked: what each of them answers, for the law that an act has touched the units that its number names, and that items are effective only while they are in force: part 9. Conditions: those that each theorem names. -/
import Derived.Test.YtiflidpifinbjaaGreatDoorH8
namespace Go.Proofs.YtiflidpifinbjaaGreatDoor
open Go Go.Ev
noncomputable abbrev gH(a i:Int):AObj:=.row 2 false 0 [.agg [iV a,iV i]]
theorem TA(qa qi:Int)(d:PDeed)(ss:lac)(B:lak)(m:List (Int×PStart))(hB:kP 86 [.ls (ss.map aJ)] (.ls (B.map af)))(hb:B.length=0):
    kD 85 [aV d,.ls (ss.map aJ),.ptr 1 0 0 0] (aw [gH qa qi,n9,bX m,bh d]) (.tuple []) (aw [gH qa qi,n9,bX m,bh d]):=by
  let q:=[av (dLx d)];let q1:=AHeap.mk 5 (bL (aw [aZ 2 false 0 [av [iV qa,iV qi]],aZ 1 false 0 [jV [iV 0] true],AObj.map (bj ax m 0) m.length,aZ 28 false 0 q,aZ 28 false 0 q]) ([]) Tr.nil);let q2:=[iV 0];exact eg Tryz.func85 λa=>Kp 2 hB<|Mw (.opv (jV q2 true) q1<|.go 0<|.frz 4 [] .fin)<|qh rt rt (P0 (f:=af) (l:=B) (sz:=1) (b:=8) (xs:=q2) (t:=true) (h:=q1) (by(omega):(B).length=0)) (qh rt (tM m.length 4<|ay (f:=ax) (λ_=>rfl) m 0) rt rt ti) a
theorem ZA(qa qi:Int)(d:PDeed)(ss:lac)(B:lak)(m:List (Int×PStart))(hB:kP 86 [.ls (ss.map aJ)] (.ls (B.map af)))(hb:0<B.length)(hb2:B.length<2^30):
    kD 85 [aV d,.ls (ss.map aJ),.ptr 1 0 0 0] (aw [gH qa qi,n9,bX m,bh d]) (.tuple []) (aw [gH qa qi,jB 4 0 (([0]++B).map af).length,bX m,bh d,oy 0 ([0]++B)]):=by
  let q:=List.map af ([0]++B);exact eg Tryz.func85 λa=>Kp 2 hB<|M4 (.apx q) rt rt (et (by exact RH hb:List.map af B≠[])<|fM 1 af B λ_=>rfl) (et (et (aY q) (by(refine c8 (m:=2^32) ?_ ?_ ?_<;>first|(omega)|(simp only[lA,lM,lC,lN]<;>(omega))):small (([iV 0]).length+(B.map af).length) 8=true)) rt)<|Mg 0<|M2 (.ren [0,1,2,3,5,4] [2,5] []) (tN m.length<|ay (f:=ax) (λ_=>rfl) m 0) (tS 1 true 0<|aX LZ<|[0]++B)<|M1 (.frz 5 []) (od (tR 1 true 0 5<|aX LZ<|[0]++B) rt (tM m.length 5<|ay (f:=ax) (λ_=>rfl) m 0) rt rt ti)<|Mf a
theorem Zu(qa qi:Int)(d:PDeed)(ss:lac)(B:lak)(m:List (Int×PStart))(ep n:Nat)(out:lak)(hB:kP 86 [.ls (ss.map aJ)] (.ls (B.map af)))(hb:B.length=0):
    kD 85 [aV d,.ls (ss.map aJ),.ptr 1 0 0 0] (aw [gH qa qi,jB 3 ep n,bX m,oy ep out,bh d]) (.tuple []) (aw [gH qa qi,jB 3 ep n,bX m,oy ep out,bh d]):=by
  let q:=[av (dLx d)];let q1:=AHeap.mk 6 (bL (aw [aZ 2 false 0 [av [iV qa,iV qi]],aZ 1 false 0 [aM 3 ep 0 n none],AObj.map (bj ax m 0) m.length,aZ 1 true ep (out.map af),aZ 28 false 0 q,aZ 28 false 0 q]) ([3]) Tr.nil);exact eg Tryz.func85 λa=>Kp 2 hB<|Mw (.opv (aM 3 ep 0 n none) q1<|.go 0<|.frz 5 [] .fin)<|qh rt (ic (tR 1 true ep 6<|aX LZ out) rt) (TN (f:=af) (l:=B) (sz:=1) (b:=8) (id:=3) (ep:=ep) (off:=0) (len:=n) (cap:=none) (h:=q1) (by(omega):(B).length=0)) (od rt (tR 1 true ep 5<|aX LZ out) (tM m.length 5<|ay (f:=ax) (λ_=>rfl) m 0) rt rt ti) a
theorem Zt(qa qi:Int)(d:PDeed)(ss:lac)(B:lak)(m:List (Int×PStart))(ep n:Nat)(out:lak)(hB:kP 86 [.ls (ss.map aJ)] (.ls (B.map af)))(hb:0<B.length)(hn:n=out.length)(hn2:n+B.length<2^37):
    kD 85 [aV d,.ls (ss.map aJ),.ptr 1 0 0 0] (aw [gH qa qi,jB 3 ep n,bX m,oy ep out,bh d]) (.tuple []) (aw [gH qa qi,jB 3 (ep+1) (n+(B.map af).length),bX m,oy (ep+1) (out++B),bh d]):=by
  exact eg Tryz.func85 λa=>Kp 2 hB<|M4 (.apx<|(out++B).map af) rt (ic (tR 1 true ep 6<|aX LZ out) rt) (et (by exact RH hb:List.map af B≠[])<|fM 1 af B λ_=>rfl) (et (cL (aY ep) (by(rw[lM];exact hn):n=(out.map af).length) (by(refine c8 (m:=2^37) ?_ ?_ ?_<;>first|(omega)|(simp only[lA,lM,lC,lN]<;>(omega))):small (n+(B.map af).length) 8=true))<|cO (f:=af) (l:=out) (ws:=B))<|K1 0 (.frz 5 []) (od rt (tR 1 true (ep+1) 5<|aX LZ<|out++B) (tM m.length 5<|ay (f:=ax) (λ_=>rfl) m 0) rt rt ti)<|Mf a
theorem WN(qa qi:Int)(s:PStart)(d:PDeed)(l:lab)(m:List (Int×PStart))(hb:By (ct (an s d l)).isEmpty true):kD 85 [aV d,.ls ((an s d l).map aJ),.ptr 1 0 0 0] (aw [gH qa qi,n9,bX m,bh d]) (.tuple []) (aw [gH qa qi,n9,bX m,bh d]):=TA qa qi d _ _ m (BM s d l) (R9 hb)
theorem WO(qa qi:Int)(s:PStart)(d:PDeed)(l:lab)(m:List (Int×PStart))(hb:(ct (an s d l)).isEmpty=true):kD 85 [aV d,.ls ((an s d l).map aJ),.ptr 1 0 0 0] (aw [gH qa qi,n9,bX m,bh d]) (.tuple []) (aw [gH qa qi,n9,bX m,bh d]):=TA qa qi d _ _ m (BM s d l) (R9 hb)
theorem WM(qa qi:Int)(s:PStart)(d:PDeed)(l:lab)(m:List (Int×PStart))(hb:By (ct (an s d l)).isEmpty false):kD 85 [aV d,.ls ((an s d l).map aJ),.ptr 1 0 0 0] (aw [gH qa qi,n9,bX m,bh d]) (.tuple []) (aw [gH qa qi,jB 4 0 (([0]++ct (an s d l)).map af).length,bX m,bh d,oy 0 ([0]++ct (an s d l))]):=ZA qa qi d _ _ m (BM s d l) (XH hb) (mR (rA s d l) (by decide))
theorem WL(qa qi:Int)(s:PStart)(d:PDeed)(l:lab)(m:List (Int×PStart))(ep n:Nat)(out:lak)(hb:By (ct (an s d l)).isEmpty true):kD 85 [aV d,.ls ((an s d l).map aJ),.ptr 1 0 0 0] (aw [gH qa qi,jB 3 ep n,bX m,oy ep out,bh d]) (.tuple []) (aw [gH qa qi,jB 3 ep n,bX m,oy ep out,bh d]):=Zu qa qi d _ _ m ep n out (BM s d l) (R9 hb)
theorem WI(qa qi:Int)(s:PStart)(d:PDeed)(l:lab)(m:List (Int×PStart))(ep n:Nat)(out:lak)(hb:By (ct (an s d l)).isEmpty false)(hn:n=out.length)(hn2:n<2^36):kD 85 [aV d,.ls ((an s d l).map aJ),.ptr 1 0 0 0] (aw [gH qa qi,jB 3 ep n,bX m,oy ep out,bh d]) (.tuple []) (aw [gH qa qi,jB 3 (ep+1) (n+((ct (an s d l)).map af).length),bX m,oy (ep+1) (out++ct (an s d l)),bh d]):=Zt qa qi d _ _ m ep n out (BM s d l) (XH hb) hn (by have:=rA s d l;omega)
theorem Lw(qa qi:Int)(gs:lal)(L:lah)(ds:lab)(hL:L.length<10000)(hd:ds.length<10000)(ha:kP 47 [.ls (gs.map am)] (.ls (L.map aa)))(hi:kP 35 [.ls (gs.map am)] (.ls (ds.map aV)))(hE:ji (jt L []) ds ds=[]):
    kD 23 [.ls (gs.map am),.func (.func 85) [] [.ptr 1 0 0 0]] (aw [gH qa qi,n9]) (.tuple []) (aw [gH qa qi,n9]):=by
  have hlk:=ng
  have hup:=oB
  have hno:∀{m:List (Int×PStart)}{r:lab}{d:PDeed},ji m ds (d::r)=[]->bg d.it.kind=true->(ct (an (al m d.act) d ds)).isEmpty=true:=λh h2=>by
    rw[uV h2]at h;rw[(List.append_eq_nil_iff.1 h).1];rfl
  let q1:=[av [iV qa,iV qi]];let q2:=[jV [iV 0] true];exact eg Tryz.func23 λa=>Kp 2 ha<|Kl 0 13 (ln aa L)<|Mg 0<|OV aa L ([]:List (Int×PStart)) [0,1,4,12,13,14] (λa _ b=>([aW<|gs.map am,bc (bb 85) [] [bY 1 0 0 0],AV.map 2,aW<|L.map aa,nV L.length,nV a],[aZ 2 false 0 [av [iV qa,iV qi]],aZ 1 false 0 [jV [iV 0] true],AObj.map (bj ax b 0) b.length])) (λa b=>jt L []=jt a b) (by rfl) (λ_ _ b _ _ _ c e=>Kh 0 c<|Kp 0 hi<|Kl 2 27 (ln aV ds)<|Mg 0<|UY (0:Nat) ds () [1,4,7,26,27,28] (λa _ _=>([bc (bb 85) [] [bY 1 0 0 0],AV.map 2,aW<|ds.map aV,aW<|ds.map aV,nV ds.length,nV a],[aZ 2 false 0 [av [iV qa,iV qi]],aZ 1 false 0 [jV [iV 0] true],AObj.map (bj ax b 0) b.length])) (λa c _=>(ds).drop a=c/\ji b ds c=[]) (λ_ a _=>a.length) (et rfl<|by(rw[<-show jt L []=b from e];exact hE)) λc e f g i=>Mc e (λc=>have e:=dm g.1 c;have:=eM (J:=λa _=>ji b ds a=[]) (a:=f) c g.2;Kh 0 e<|M1 (.frz 2 []) (cL rt rt ti)<|Mf a) λa e j=>let k:=[av (dLx a)];have l:=dI g.1 j;have:=ap l;have n:=dl (enc:=aV) g.1 j;have f:=bT (J:=λa _=>ji b ds a=[]) (a:=f) j g.2;Kt 0 l<|Mx n<|Kp 5 (gP a.it.kind)<|Mb (bg a.it.kind) (λ_=>K1 4 (.look<|av [iV (al b a.act).kind,iV (al b a.act).day,aj (al b a.act).event]) (hlk b a.act)<|Kp 1 (ec (al b a.act) a ds<|by(omega))<|M3 (.efx true (cX [])<|aw [aZ 2 false 0 q1,aZ 1 false 0 q2,AObj.map (bj ax b 0) b.length,aZ 28 false 0 k]) (qh rt (tM b.length 4<|ay (f:=ax) (λ_=>rfl) b 0) rt rt ti) (qh (aY<|some<|aZ 28 false 0 k) (aY<|some<|AObj.map (bj ax b 0) b.length) (aY<|some<|aZ 1 false 0 q2) (aY<|some<|aZ 2 false 0 q1) ti) (WO qa qi (al b a.act) a ds b<|by exact hno f (by assumption))<|Kl 0 46 (dQ c)<|K1 0 (.frz 3 [1,4,7,26,27,28]) (jp (tM b.length 3<|ay (f:=ax) (λ_=>rfl) b 0) rt rt ti)<|Mf<|i (c+1) e () (et (aH g.1 j)<|by(have z:=f;rw[uV (by assumption)]at z;exact(List.append_eq_nil_iff.1 z).2))<|cC j) λ_=>Kl 0 46 (dQ c)<|K1 0 (.frz 3 [1,4,7,26,27,28]) (jp (tM b.length 3<|ay (f:=ax) (λ_=>rfl) b 0) rt rt ti)<|Mf<|i (c+1) e () (et (aH g.1 j)<|by(have z:=f;rw[La (by assumption)]at z;exact z))<|cC j) λa _ b _ _ c e f _ g _ i j=>Kt 0 g<|Mx i<|K1 7 (.upd (bj ax (gk c.number c.start b) 0) (gk c.number c.start b).length) (hup b c)<|Kl 0 23 (dQ a)<|K1 0 (.frz 3 [0,1,4,12,13,14]) (jp (tM (gk c.number c.start b).length 3<|ay (f:=ax) (λ_=>rfl) (gk c.number c.start b) 0) rt rt ti)<|Mf<|f (gk c.number c.start b)<|by exact j
def ym(qa:Int)(qi:Int)(gs:lal)(L:lah)(x0:Nat×lah×List (Int×PStart)):Prop:=(L).drop x0.1=x0.2.1/\jt L []=jt x0.2.1 x0.2.2
noncomputable def qv(qa:Int)(qi:Int)(gs:lal)(L:lah)(x0:Nat×lah×List (Int×PStart)):laa×lai:=([AV.ls (gs.map am),AV.func (Fn.func 85) [] [AV.ptr 1 0 0 0],AV.map 2,AV.ls (L.map aa),nV L.length,nV x0.1],[AObj.row 2 false 0 [AV.agg [iV qa,iV qi]],AObj.row 1 false 0 [AV.ps [iV 0] true],AObj.map (bj ax x0.2.2 0) x0.2.2.length])
def yl(qa:Int)(qi:Int)(ds:lab)(x0:Nat×lah×List (Int×PStart))(x1:Nat×lab×Unit):Prop:=(ds).drop x1.1=x1.2.1/\BrkA x0.2.2 ds x1.2.1
noncomputable def qw(qa:Int)(qi:Int)(ds:lab)(x0:Nat×lah×List (Int×PStart))(x1:Nat×lab×Unit):laa×lai:=([AV.func (Fn.func 85) [] [AV.ptr 1 0 0 0],AV.map 2,AV.ls (ds.map aV),AV.ls (ds.map aV),nV ds.length,nV x1.1],[AObj.row 2 false 0 [AV.agg [iV qa,iV qi]],AObj.row 1 false 0 [AV.ps [iV 0] true],AObj.map (bj ax x0.2.2 0) x0.2.2.length])
def yi(qa:Int)(qi:Int)(ds:lab)(x0:Nat×lah×List (Int×PStart))(x1:Nat×lab×Nat×Nat×lak):Prop:=(ds).drop x1.1=x1.2.1/\BrkB x0.2.2 ds x1.2.1 x1.2.2.1 x1.2.2.2.1 x1.2.2.2.2
noncomputable def yh(qa:Int)(qi:Int)(ds:lab)(x0:Nat×lah×List (Int×PStart))(x1:Nat×lab×Nat×Nat×lak):laa×lai:=([AV.func (Fn.func 85) [] [AV.ptr 1 0 0 0],AV.map 2,AV.ls (ds.map aV),AV.ls (ds.map aV),nV ds.length,nV x1.1],[AObj.row 2 false 0 [AV.agg [iV qa,iV qi]],AObj.row 1 false 0 [AV.slice 3 x1.2.2.1 0 x1.2.2.2.1 none],AObj.map (bj ax x0.2.2 0) x0.2.2.length,AObj.row 1 true x1.2.2.1 (x1.2.2.2.2.map af)])
theorem Lk(qa qi:Int)(gs:lal)(L:lah)(ds:lab)(hL:L.length<10000)(hd:ds.length<10000)(ha:kP 47 [.ls (gs.map am)] (.ls (L.map aa)))(hi:kP 35 [.ls (gs.map am)] (.ls (ds.map aV)))(hE:ji (jt L []) ds ds≠[]):
    kD 23 [.ls (gs.map am),.func (.func 85) [] [.ptr 1 0 0 0]] (aw [gH qa qi,n9]) (.tuple []) (aw [gH qa qi,jB 2 (ql (jt L []) ds ds-1) ([0]++ji (jt L []) ds ds).length,oy (ql (jt L []) ds ds-1) ([0]++ji (jt L []) ds ds)]):=by
  have hlk:=ng
  have hup:=oB
  let q3:=[av [iV qa,iV qi]];let q10:=cX [];let q12:=[jV [iV 0] true];let q13:=some (aZ 2 false 0 q3);exact Jl Tryz.func23<|Kp 2 ha<|Kl 0 13 (ln aa L)<|Mg 0<|ML (Nat×lah×List (Int×PStart)) [0,1,4,12,13,14] (qv qa qi gs L) (ym qa qi gs L) (λa=>a.2.1.length) (0,L,[]) (aY<|qv qa qi gs L (0,L,[])) (et (rfl:List.drop 0 (L)=L) (by rfl:(jt L []=jt L []))) λa b c=>let d:=some<|AObj.map (bj ax a.2.2 0) a.2.2.length;Mi (λa b=>jt L []=jt a b) aa b (λ_ b c=>Kh 0 b<|Kp 0 hi<|Kl 2 27 (ln aV ds)<|Mg 0<|MM (Nat×lab×Unit) (Nat×lab×Nat×Nat×lak) [1,4,7,26,27,28] (qw qa qi ds a) (yh qa qi ds a) (yl qa qi ds a) (yi qa qi ds a) (λa=>a.2.1.length) (λa=>a.2.1.length) (.inl (0,ds,())) (aY<|qw qa qi ds a (0,ds,())) (et (rfl:List.drop 0 (ds)=ds) (by(exact⟨rfl,rfl⟩):(BrkA a.2.2 ds ds))) (λb e f=>Mc b.2.1 (λd=>have f:=dm e.1 d;have b:=eM (J:=λb _=>BrkA a.2.2 ds b) (a:=b.2.2) d e.2;Kh 0 f<|Mw .abs (by exact hE (by rw[show jt L []=a.2.2 from c];exact b.f):False)) λc g h=>let i:=[av (dLx c)];let j:=av [iV (al a.2.2 c.act).kind,iV (al a.2.2 c.act).day,aj (al a.2.2 c.act).event];let k:=List.map af<|[0]++ct (an (al a.2.2 c.act) c ds);have l:=dI e.1 h;have:=ap l;have m:=dl (enc:=aV) e.1 h;have n:=bT (J:=λb _=>BrkA a.2.2 ds b) (a:=b.2.2) h e.2;Kt 0 l<|Mx m<|Kp 5 (gP c.it.kind)<|Mb (bg c.it.kind) (λ_=>Ms (ct<|an (al a.2.2 c.act) c ds).isEmpty (λk=>K1 4 (.look j) (hlk a.2.2 c.act)<|Kp 1 (ec (al a.2.2 c.act) c ds<|by(omega))<|M3 (.efx true q10<|aw [aZ 2 false 0 q3,aZ 1 false 0 q12,AObj.map (bj ax a.2.2 0) a.2.2.length,aZ 28 false 0 i]) (qh rt (tM a.2.2.length 4<|ay (f:=ax) (λ_=>rfl) a.2.2 0) rt rt ti) (qh (aY<|some<|aZ 28 false 0 i) (aY d) (aY<|some<|aZ 1 false 0 q12) (aY q13) ti) (WN qa qi (al a.2.2 c.act) c ds a.2.2 k)<|Kl 0 46 (dQ b.1)<|K1 0 (.frz 3 [1,4,7,26,27,28]) (jp (tM a.2.2.length 3<|ay (f:=ax) (λ_=>rfl) a.2.2 0) rt rt ti)<|Mf<|f (.inl (b.1+1,g,())) (et (aH e.1 h) (by exact n.nil (by assumption) (by assumption):(BrkA a.2.2 ds g)))<|cC h) λd=>K1 4 (.look j) (hlk a.2.2 c.act)<|Kp 1 (ec (al a.2.2 c.act) c ds<|by(omega))<|M3 (.efx false q10<|aw [aZ 2 false 0 q3,aZ 1 false 0 [aM 4 0 0 k.length none],AObj.map (bj ax a.2.2 0) a.2.2.length,aZ 28 false 0 i,aZ 1 true 0 k]) (qh rt (tM a.2.2.length 4<|ay (f:=ax) (λ_=>rfl) a.2.2 0) rt rt ti) ti (WM qa qi (al a.2.2 c.act) c ds a.2.2 d)<|Kl 0 46 (dQ b.1)<|Mg 0<|M2 (.ren [0,1,2,4,3] [2,4] [1,4,7,26,27,28]) (tN a.2.2.length<|ay (f:=ax) (λ_=>rfl) a.2.2 0) (tS 1 true 0<|aX LZ<|[0]++ct (an (al a.2.2 c.act) c ds))<|M1 (.frz 4 [1,4,7,26,27,28]) (qh (tR 1 true 0 4<|aX LZ<|[0]++ct (an (al a.2.2 c.act) c ds)) (tM a.2.2.length 4<|ay (f:=ax) (λ_=>rfl) a.2.2 0) rt rt ti)<|Mf<|f (.inr (b.1+1,g,(0,k.length,[0]++ct (an (al a.2.2 c.act) c ds)))) (et (aH e.1 h) (by exact n.new (JN (e.1.trans h)) (by assumption) (by assumption) rfl:(BrkB a.2.2 ds g (0:Nat) (([(0:Int)]++ct (an (al a.2.2 c.act) c ds)).map af).length ([(0:Int)]++ct (an (al a.2.2 c.act) c ds)))))<|cC h) λ_=>Kl 0 46 (dQ b.1)<|K1 0 (.frz 3 [1,4,7,26,27,28]) (jp (tM a.2.2.length 3<|ay (f:=ax) (λ_=>rfl) a.2.2 0) rt rt ti)<|Mf<|f (.inl (b.1+1,g,())) (et (aH e.1 h) (by exact n.no (by assumption):(BrkA a.2.2 ds g)))<|cC h) λb e f=>let g:=[aM 3 b.2.2.1 0 b.2.2.2.1 none];let h:=List.map af b.2.2.2.2;Mc b.2.1 (λd=>have f:=dm e.1 d;have d:=eM (J:=λb c=>BrkB a.2.2 ds b c.1 c.2.1 c.2.2) (a:=b.2.2) d e.2;Kh 0 f<|M2 (.ren [0,1,3,2] [3,2] []) (tS 1 true b.2.2.1<|aX LZ b.2.2.2.2) (tN a.2.2.length<|ay (f:=ax) (λ_=>rfl) a.2.2 0)<|M1 (.frz 3 []) (jp (tR 1 true b.2.2.1 3<|aX LZ b.2.2.2.2) rt rt ti)<|Mf<|et (aY q10) (by(have q:=d.done;rw[show jt L []=a.2.2 from c,q.1,q.2.1,q.2.2];try rfl):(aw [AObj.row 2 false 0 [AV.agg [iV qa,iV qi]],AObj.row 1 false 0 [AV.slice 2 b.2.2.1 0 b.2.2.2.1 none],AObj.row 1 true b.2.2.1 (b.2.2.2.2.map af)])=(aw [gH qa qi,jB 2 (ql (jt L []) ds ds-1) ([0]++ji (jt L []) ds ds).length,oy (ql (jt L []) ds ds-1) ([0]++ji (jt L []) ds ds)]))) λc i j=>let k:=[av (dLx c)];let l:=av [iV (al a.2.2 c.act).kind,iV (al a.2.2 c.act).day,aj (al a.2.2 c.act).event];let m:=List.map af<|ct<|an (al a.2.2 c.act) c ds;have n:=dI e.1 j;have:=ap n;have o:=dl (enc:=aV) e.1 j;have p:=bT (J:=λb c=>BrkB a.2.2 ds b c.1 c.2.1 c.2.2) (a:=b.2.2) j e.2;Kt 0 n<|Mx o<|Kp 5 (gP c.it.kind)<|Mb (bg c.it.kind) (λ_=>Ms (ct<|an (al a.2.2 c.act) c ds).isEmpty (λm=>K1 4 (.look l) (hlk a.2.2 c.act)<|Kp 1 (ec (al a.2.2 c.act) c ds<|by(omega))<|M3 (.efx true q10<|aw [aZ 2 false 0 q3,aZ 1 false 0 g,AObj.map (bj ax a.2.2 0) a.2.2.length,aZ 1 true b.2.2.1 h,aZ 28 false 0 k]) (od rt (tR 1 true b.2.2.1 5<|aX LZ b.2.2.2.2) (tM a.2.2.length 5<|ay (f:=ax) (λ_=>rfl) a.2.2 0) rt rt ti) (od (aY<|some<|aZ 28 false 0 k) (aY<|some<|aZ 1 true b.2.2.1 h) (aY d) (aY<|some<|aZ 1 false 0 g) (aY q13) ti) (WL qa qi (al a.2.2 c.act) c ds a.2.2 b.2.2.1 b.2.2.2.1 b.2.2.2.2 m)<|Kl 0 46 (dQ b.1)<|K1 0 (.frz 4 [1,4,7,26,27,28]) (qh (tR 1 true b.2.2.1 4<|aX LZ b.2.2.2.2) (tM a.2.2.length 4<|ay (f:=ax) (λ_=>rfl) a.2.2 0) rt rt ti)<|Mf<|f (.inr (b.1+1,i,(b.2.2.1,b.2.2.2.1,b.2.2.2.2))) (et (aH e.1 j) (by exact p.nil (by assumption) (by assumption):(BrkB a.2.2 ds i b.2.2.1 b.2.2.2.1 b.2.2.2.2)))<|cC j) λd=>K1 4 (.look l) (hlk a.2.2 c.act)<|Kp 1 (ec (al a.2.2 c.act) c ds<|by(omega))<|M3 (.efx false q10<|aw [aZ 2 false 0 q3,aZ 1 false 0 [aM 3 (b.2.2.1+1) 0 (b.2.2.2.1+m.length) none],AObj.map (bj ax a.2.2 0) a.2.2.length,aZ 1 true (b.2.2.1+1)<|(b.2.2.2.2++ct (an (al a.2.2 c.act) c ds)).map af,aZ 28 false 0 k]) (od rt (tR 1 true b.2.2.1 5<|aX LZ b.2.2.2.2) (tM a.2.2.length 5<|ay (f:=ax) (λ_=>rfl) a.2.2 0) rt rt ti) ti (WI qa qi (al a.2.2 c.act) c ds a.2.2 b.2.2.1 b.2.2.2.1 b.2.2.2.2 d (by exact p.len)<|by(have z:=p.small;have z2:=p.len;have z3:=JN (e.1.trans j);simp only[lC]at z z3;omega))<|Kl 0 46 (dQ b.1)<|K1 0 (.frz 4 [1,4,7,26,27,28]) (qh (tR 1 true (b.2.2.1+1) 4<|aX LZ<|b.2.2.2.2++ct (an (al a.2.2 c.act) c ds)) (tM a.2.2.length 4<|ay (f:=ax) (λ_=>rfl) a.2.2 0) rt rt ti)<|Mf<|f (.inr (b.1+1,i,(b.2.2.1+1,b.2.2.2.1+m.length,b.2.2.2.2++ct (an (al a.2.2 c.act) c ds)))) (et (aH e.1 j) (by exact p.new (by assumption) (by assumption) rfl:(BrkB a.2.2 ds i (b.2.2.1+1) (b.2.2.2.1+m.length) (b.2.2.2.2++ct (an (al a.2.2 c.act) c ds)))))<|cC j) λ_=>Kl 0 46 (dQ b.1)<|K1 0 (.frz 4 [1,4,7,26,27,28]) (qh (tR 1 true b.2.2.1 4<|aX LZ b.2.2.2.2) (tM a.2.2.length 4<|ay (f:=ax) (λ_=>rfl) a.2.2 0) rt rt ti)<|Mf<|f (.inr (b.1+1,i,(b.2.2.1,b.2.2.2.1,b.2.2.2.2))) (et (aH e.1 j) (by exact p.no (by assumption):(BrkB a.2.2 ds i b.2.2.1 b.2.2.2.1 b.2.2.2.2)))<|cC j) λd e f g _ h i=>Kt 0 g<|Mx h<|K1 7 (.upd (bj ax (gk d.number d.start a.2.2) 0) (gk d.number d.start a.2.2).length) (hup a.2.2 d)<|Kl 0 23 (dQ a.1)<|K1 0 (.frz 3 [0,1,4,12,13,14]) (jp (tM (gk d.number d.start a.2.2).length 3<|ay (f:=ax) (λ_=>rfl) (gk d.number d.start a.2.2) 0) rt rt ti)<|Mf<|c (a.1+1,e,gk d.number d.start a.2.2) (et (aH b.1 f) (by exact i:(jt L []=jt e (gk d.number d.start a.2.2))))<|cC f
theorem FV(qa qi:Int)(zs:lak)(ep n:Nat)(hn:n=zs.length)(hz:0<zs.length)(hb:zs.length<2^40):
    kD 87 [.slice 2 ep 0 n none] (aw [gH qa qi,jB 2 ep n,oy ep zs]) (.tuple []) (aw [gH qa qi,jB 2 ep n,oy ep (cT zs)]):=by
  subst hn
  exact(sM (Go.Proofs.Tryz.lsort.f5.enters rfl) (λblk off cap zs w hH hb hs=>Go.Proofs.AnyM.slices_Sort_int Go.Proofs.Tryz.lsort blk off cap zs w hH hb hs) zs (h:=aw [gH qa qi,jB 2 ep zs.length,oy ep zs]) (id:=2) (op:=true) rfl hz (by omega)).mono λv h ⟨h3,h4⟩=>⟨h3,h4.trans rfl⟩
theorem ye(qa qi:Int)(zs:lak)(ep n:Nat)(hn:n=zs.length)(hz:0<zs.length)(hb:zs.length<2^40):
    kD 88 [.slice 2 ep 0 n none] (aw [gH qa qi,jB 2 ep n,oy ep zs]) (.slice 2 ep 0 (bW zs).length none) (aw [gH qa qi,jB 2 ep n,oy ep (bW zs++List.replicate (zs.length-(bW zs).length) 0)]):=by
  subst hn
  exact(pQ (Go.Proofs.Tryz.lcompact.f43.enters rfl) (λblk off cap zs w hH hb hs=>Go.Proofs.AnyG.slices_Compact_int Go.Proofs.Tryz.lcompact blk off cap zs w hH hb hs) zs (h:=aw [gH qa qi,jB 2 ep zs.length,oy ep zs]) (id:=2) (op:=true) rfl hz (by omega)).mono λv h ⟨h3,h4⟩=>⟨h3,h4.trans rfl⟩
theorem abv(qa qi:Int)(gs:lal)(hc:kD 23 [.ls (gs.map am),.func (.func 85) [] [.ptr 1 0 0 0]] (aw [gH qa qi,n9]) (.tuple []) (aw [gH qa qi,n9])):kD 53 [.ls (gs.map am)] (aw [gH qa qi]) (.ps [iV 0] true) (aw [gH qa qi]):=by
  exact eg Tryz.func53 λa=>Ke 5 hc<|Kp 0 QO<|Kp 0 IF<|K1 0 (.frz 1 [2]) (et rt ti)<|Mf a
theorem abu(qa qi:Int)(gs:lal)(X:lak)(k:Nat)(hz:0<X.length)(hb:X.length<2^40)(hc:kD 23 [.ls (gs.map am),.func (.func 85) [] [.ptr 1 0 0 0]] (aw [gH qa qi,n9]) (.tuple []) (aw [gH qa qi,jB 2 k X.length,oy k X])):kD 53 [.ls (gs.map am)] (aw [gH qa qi]) (.slice 2 k 0 (bW (cT X)).length none) (aw [gH qa qi,jB 2 k X.length,oy k (bW (cT X)++List.replicate ((cT X).length -(bW (cT X)).length) 0)]):=by
  have hs:=Ol X
  exact eg Tryz.func53 λa=>Ke 5 hc<|Ke 0 (FV qa qi X k X.length (by(omega)) hz hb)<|Ke 0 (ye qa qi (cT X) k X.length (by(omega)) (by(omega))<|by(omega))<|Kf 0 a
def KW:lak->Int
  |[]=>1048577
  |c::_=>c
def rH(q:Int->Bool):lak->lac
  |[]=>[]
  |b::r=>(bif q b then[⟨b,KW r⟩]else[])++rH q r
theorem Xl{q:Int->Bool}{b:Int}{r:lak}(h:q b=true):rH q (b::r)=⟨b,KW r⟩::rH q r:=by rw[rH,h];rfl
theorem Xm{q:Int->Bool}{b:Int}{r:lak}(h:q b=false):rH q (b::r)=rH q r:=by rw[rH,h];rfl
theorem bqA{gs:lal}(h:OkG gs)(qa qi:Int)(hb:By (PM gs).isEmpty true):kD 53 [.ls (gs.map am)] (aw [gH qa qi]) (.ps [iV 0] true) (aw [gH qa qi]):=by
  have hl:=h.lens
  exact abv qa qi gs (Lw qa qi gs _ _ (by omega) (by omega) h.all.1 h.all.2 (tQ.1 hb))
theorem I3{gs:lal}(hb:(PM gs).isEmpty=true):dM gs=[0]:=by
  have e:PM gs=[]:=tQ.1 hb
  unfold dM
  rw[e,show cT ([0]++[])=[0]from List.mergeSort_singleton 0];rfl
noncomputable def bpX(gs:lal):lak:=[0]++PM gs
noncomputable def PL(gs:lal):Nat:=ql (jt (dR gs) []) (eR gs) (eR gs)-1
theorem WR(gs:lal)(h:(eR gs).length<10000):(PM gs).length<=2^22*10000:=by
  have hl:∀(r:lab),(ji (jt (dR gs) []) (eR gs) r).length<=2^22*r.length:=by
    intro r
    induction r with
    |nil=>exact ar _
    | cons d r ih=>
      have h1:(BH (jt (dR gs) []) (eR gs) d).length<=2^22:=by
        unfold BH
        cases bg d.it.kind
        · exact b6 _
        · exact rA _ _ _
      simp only[ji,lA,lC];omega
  have:=hl (eR gs)
  unfold PM;omega
noncomputable def vF(gs:lal):lak:=dM gs++List.replicate ((cT (bpX gs)).length -(dM gs).length) 0
theorem ZD(gs:lal):(dM gs).length<=(vF gs).length/\(vF gs).take (dM gs).length=dM gs:=by
  unfold vF
  exact⟨by rw[lA];omega,List.take_left' rfl⟩
theorem bqB{gs:lal}(h:OkG gs)(qa qi:Int)(hb:By (PM gs).isEmpty false):kD 53 [.ls (gs.map am)] (aw [gH qa qi]) (.slice 2 (PL gs) 0 (dM gs).length none) (aw [gH qa qi,jB 2 (PL gs) (bpX gs).length,oy (PL gs) (vF gs)]):=by
  have hl:=h.lens
  have hE:PM gs≠[]:=λe=>by rw[e]at hb;cases hb
  have:=WR gs (by omega)
  exact abu qa qi gs _ _ (by simp) (by show([0]++PM gs).length<2^40;rw[lA];simp only[lC,lN];omega) (Lk qa qi gs _ _ (by omega) (by omega) h.all.1 h.all.2 hE)
theorem ZC{R B:lak}(h:R.take B.length=B)(hl:B.length<R.length):(R.set B.length 1048577).take (B.length+1)=B++[1048577]:=by
  rw[yG (by rw[lS];exact hl),List.take_set_of_le (ar _),h,KG hl,if_pos rfl]
noncomputable def nE(gs:lal)(p:bZ)(a i day:Int):Bool:=(fE day p gs).any (mV a i)&&ak ((fQ mG (fE day p gs)).any (Lc a i))
theorem OkG.eff{gs:lal}(ok:OkG gs)(p:bZ)(a i day:Int):kP 13 [iV day,.str p,yc a i,.ls (gs.map am)] (.bool (nE gs p a i day)):=by
  obtain⟨h1,h2,h3⟩:=ok.force day p
  have hs:=wM (fE day p gs) mG
  exact V8 gs day p a i _ _ (Fl gs day p _ h3) (ok.fails day p) h1 (by omega)
theorem D7{B r:lak}{j:Nat}{w:Int}(h:B.drop j=w::r):gD (B++[1048577]) (j+1)=KW r:=by
  have hj:B.drop (j+1)=r:=by
    have:B.drop (j+1)=(B.drop j).drop 1:=by rw[zb]
    rw[this,h];rfl
  have h2:(B++[1048577]).drop (j+1)=r++[1048577]:=by
    have hl:j<B.length:=by
      rcases fg j B.length with q|q
      · exact q
      · rw[CE q]at h;cases h
    rw[List.drop_append_of_le_length (by omega),hj]
  have h3:∀(l:lak)(k:Nat)(x:Int)(t:lak),l.drop k=x::t->gD l k=x:=λl=>by
    induction l with
    |nil=>intro k x t e;rw[List.drop_nil]at e;cases e
    | cons y l ih=>
      intro k x t e
      cases k with
      |zero=>exact(List.cons.inj e).1
      |succ k=>exact ih k x t e
  cases r with
  |nil=>exact h3 _ _ _ _ h2
  |cons c r=>exact h3 _ _ _ _ h2
structure TkI(q:Int->Bool)(B r:lak)(n:Nat)(out:lac):Prop where
  hn:n=out.length
  le:n+r.length<=B.length
  f:rH q B=out++rH q r
theorem TkI.no{q:Int->Bool}{B r:lak}{w:Int}{n:Nat}{out:lac}(h:TkI q B (w::r) n out)(e:q w=false):TkI q B r n out:=by
  have:=h.le
  exact⟨h.hn,by simp only[lC]at this;omega,by rw[h.f,Xm e]⟩
theorem TkI.new{q:Int->Bool}{B r:lak}{w t:Int}{n k:Nat}{out:lac}(h:TkI q B (w::r) n out)(e:q w=true)(ht:t=KW r)(hk:k=n+1):TkI q B r k (out++[⟨w,t⟩]):=by
  have:=h.le
  have:=h.hn
  subst ht
  exact⟨by rw[lA,LG];omega,by simp only[lC]at *;omega,by rw[h.f,Xl e,iQ];rfl⟩
theorem TkI.first{q:Int->Bool}{B r:lak}{w t:Int}{k:Nat}(h:rH q B=rH q (w::r)/\(w::r).length<=B.length)(e:q w=true)(ht:t=KW r)(hk:k=1):TkI q B r k [⟨w,t⟩]:=by
  have:=h.2
  subst ht;subst hk
  exact⟨rfl,by simp only[lC]at this;omega,by rw[h.1,Xl e];rfl⟩
theorem NI{E B:lak}(h:E=B++[1048577]):E.take (E.length-1)=B:=by
  rw[h,lA];simp
theorem Hz:kP 50 [.ls []] (.ls ((ej []).map aJ)):=fC [] (by simp)
def JB(gs:lal)(p:bZ)(a:Int)(i:Int)(z8:lak):Prop:=z8=dM gs++[(1048577:Int)]
noncomputable def JA(gs:lal)(p:bZ)(a:Int)(i:Int)(z8:lak):laa×lai:=([AV.str p,AV.ls (gs.map am),AV.ptr 0 0 0 0,AV.nils,AV.ls (z8.map af)],[AObj.row 2 false 0 [AV.agg [iV a,iV i]]])
theorem Oc(gs:lal)(ok:OkG gs)(p:bZ)(a i:Int):kP 28 [yc a i,.str p,.ls (gs.map am)] (.ls ((ej (rH (nE gs p a i) (dM gs))).map aJ)):=by
  have hef:∀d,kP 13 [iV d,.str p,yc a i,.ls (gs.map am)] (.bool (nE gs p a i d)):=λd=>ok.eff p a i d
  have q1:=bqA ok a i
  have q2:=bqB ok a i
  have hl:=TB gs
  obtain⟨hR1,hR2⟩:=ZD gs
  have rr0 b' (h:((ej (rH (nE gs p a i) (dM gs))).map aJ)=b':=by first|rfl|(rw[hj0.1];rfl)|(rw[hj0.f,hj0.hn,List.take_length];simp[rH])):=h;let q:=List.map af (((vF gs).set (dM gs).length 1048577).take ((dM gs).length+1));let q3:=List.map af (vF gs++[1048577]);let q5:=[av [iV a,iV i]];let q6:=[iV 0,iV 1048577];let q7:=[aM 2 (PL gs) 0 (bpX gs).length none];let q8:=[iV 1048577];exact bH Tryz.func28<|Mg 2<|Mj lak [1,2,3,7,8] (JA gs p a i) (JB gs p a i) (λb=>Ms (PM gs).isEmpty (λc=>Ms (aE (Int.ofNat (dM gs).length)<|Int.ofNat (vF gs).length) (λe=>have:=ap e;Ke 0 (q1 c)<|K1 1 (.frz 1 [1,2,3,7,14]) (et rt ti)<|Kl 0 8 (Le.lsp (t:=false) (Eq.symm<|PX (f:=af) (g:=af) (ws:=[0,1048577]) λ_=>rfl) (aY 0:az (q6)=0))<|Mf<|b [0,1048577] (by(rw[I3 (by assumption)];rfl):[(0:Int),(1048577:Int)]=dM gs++[(1048577:Int)])) λe=>have:=aI e;Ke 0 (q1 c)<|K1 1 (.frz 1 [1,2,3,7,14]) (et rt ti)<|Kl 0 8 (Le.lsp (t:=false) (Eq.symm<|PX (f:=af) (g:=af) (ws:=[0,1048577]) λ_=>rfl) (aY 0:az (q6)=0))<|Mf<|b [0,1048577] (by(rw[I3 (by assumption)];rfl):[(0:Int),(1048577:Int)]=dM gs++[(1048577:Int)])) λc=>Ms (aE (Int.ofNat (dM gs).length)<|Int.ofNat (vF gs).length) (λe=>have:=ap e;Ke 0 (q2 c)<|Mg 0<|Mw (.opv (aM 2 (PL gs) 0 ((dM gs).length+1) none) (aw [aZ 2 false 0 q5,aZ 1 false 0 q7,aZ 1 true (PL gs)<|((vF gs).set (dM gs).length 1048577).map af])<|.fsl 1 [1,2,3,7] 14 q<|.le 14 (aW q)<|.go 0 .fin)<|qh (ZI (sz:=1) (b:=8) (id:=2) (ep:=PL gs) (len:=(dM gs).length) (op:=true) (h:=aw [aZ 2 false 0 q5,aZ 1 false 0 q7,aZ 1 true (PL gs)<|(vF gs).map af]) (xs:=List.map af<|vF gs) (new:=q8) (xs':=List.map af<|(vF gs).set (dM gs).length 1048577) (x:=jV q8 true) (by kernel_rfl) (by kernel_rfl) rt (jO _ _) (b0 (by(simp only[oN,lM,lS]at *;omega):(dM gs).length+1<=(vF gs).length)<|uj (cw ..).symm) (Oz (f:=af) (g:=af) (λ_=>rfl) (l:=vF gs) (k:=(dM gs).length) (w:=1048577) (by(simp only[oN,lM,lS]at *;omega):(dM gs).length<(vF gs).length)) (by(refine c8 (m:=2^23) ?_ ?_ ?_<;>first|omega|decide):small ((dM gs).length+1) 8=true)) (et rt ti) (cL (aY<|PL gs) (xh (f:=af) (l:=(vF gs).set (dM gs).length 1048577) (n:=(dM gs).length+1))<|aX LZ<|((vF gs).set (dM gs).length 1048577).take<|(dM gs).length+1) (fe q false<|aX LZ<|((vF gs).set (dM gs).length 1048577).take<|(dM gs).length+1)<|b (((vF gs).set (dM gs).length 1048577).take<|(dM gs).length+1) (by(exact ZC hR2 (by(simp only[oN]at *;omega))):List.take ((dM gs).length+1) ((vF gs).set (dM gs).length (1048577:Int))=dM gs++[(1048577:Int)])) λe=>have:=aI e;Ke 0 (q2 c)<|K1 0 .app (cL (aY<|PL gs) (by(rw[lM];(simp only[oN]at *;omega)):(dM gs).length=((vF gs).map af).length) (by(refine c8 (m:=2^23) ?_ ?_ ?_<;>first|omega|decide):small ((dM gs).length+1) 8=true))<|M1 (.obj 2<|aZ 1 true (PL gs+1) q3) (congrArg (aZ 1 true<|PL gs+1)<|cO (f:=af) (l:=vF gs) (ws:=[1048577]))<|M2 (.fsl 1 [1,2,3,7] 14 q3) (et rt ti) (cL (aY<|PL gs+1) (tA af (vF gs++[1048577]) ((dM gs).length+1) (by(rw[lA];simp only[lC,lN];(simp only[oN]at *;omega)):(vF gs++[1048577]).length=(dM gs).length+1))<|aX LZ<|vF gs++[1048577])<|Ml 14 (fe q3 false<|aX LZ<|vF gs++[1048577])<|Kf 0<|b (vF gs++[1048577]) (by(rw[show vF gs=dM gs from(by rw[<-hR2,za (by(simp only[oN]at *;omega))])]):vF gs++[(1048577:Int)]=dM gs++[(1048577:Int)])) λb c=>have c:=c;have:b.length=(dM gs).length+1:=(by rw[c,lA];rfl);have:(b.take (b.length-1)).length=b.length-1:=(by rw[List.length_take];omega);Kl 2 17 (ln af b)<|Kl 0 18 (El b.length)<|M1 (.slp<|(b.take<|b.length-1).map af) (cL (hM 1 af b λ_=>rfl) (et (oA:0<=b.length-1) (by(simp only[oN,lM,lS]at *;omega):b.length-1<=(b.map af).length))<|aae (f:=af) (l:=b) (h:=b.length-1))<|Kl 0 20 (ln af<|List.take (b.length-1) b)<|Mg 0<|ky Nat Nat lac af (List.take (b.length-1) b) [1,2,3,7,8,19,20,21] (λc _=>([aj p,aW<|gs.map am,bY 0 0 0 0,ah,aW<|b.map af,aW<|(b.take<|b.length-1).map af,nV (b.take<|b.length-1).length,nV c],[aZ 2 false 0 [av [iV a,iV i]]])) (λc _ e f g=>([aj p,aW<|gs.map am,bY 0 0 0 0,aM 1 e 0 f none,aW<|b.map af,aW<|(b.take<|b.length-1).map af,nV (b.take<|b.length-1).length,nV c],[aZ 2 false 0 [av [iV a,iV i]],aZ 2 true e<|g.map aJ])) (λb=>rH (nE gs p a i) (dM gs)=rH (nE gs p a i) b/\b.length<=(dM gs).length) (λb _ c e=>TkI (nE gs p a i) (dM gs) b c e) (by(exact⟨by rw[NI c],by rw[NI c];exact ar _⟩)) (λ_ _ _ _ _ b hj0=>Kh 0 b<|Kp 0 (aP.onArgs (.cons bI .nil) Hz:kP 50 [ah] _)<|Kf 0<|ch<|rr0<|(ej []).map aJ) (λe _ f _ g j k l n o _ r hj0=>Kt 0 o<|Kx 0 r<|Kp 6 (hef g)<|Mb (nE gs p a i g) (λ_=>Kl 4 35 (jo e)<|Mx (bw af (by(simp only[oN,lM,lS]at *;omega):e+1<(b).length))<|Kl 5 41 (jo e)<|Kf 0<|l 0 1 [PSpan.mk g<|gD b<|e+1]<|by exact TkI.first hj0 (by assumption) (by rw[c];exact D7 (by rw[<-NI c];exact f.trans n)) rfl) λ_=>Kl 0 41 (jo e)<|Kf 0<|k<|by exact⟨by rw[hj0.1,Xm (by assumption)],(by have z:=hj0.2;simp only[lC]at z;omega)⟩) (λ_ _ b c e _ _ _ f hj0=>let g:=List.map aJ<|e.take c;Kh 0 f<|Mg 0<|M2 (.fsl 0 [] 42 g) ti (cL (aY b) (xh (f:=aJ) (l:=e) (n:=c))<|aX XN<|e.take c)<|Ml 42 (fe g false<|aX XN<|e.take c)<|Mp (fC (e.take c)<|by(have z:=hj0.le;have z2:=hj0.hn;rw[List.length_take];simp only[lN]at z;(omega)))<|Kf 0<|ch<|rr0<|(ej<|e.take c).map aJ) λe _ f g j k _ l n _ o r s _ t hj0=>Kt 0 s<|Kx 0 t<|Kp 6 (hef l)<|Mb (nE gs p a i l) (λ_=>Kl 4 35 (jo e)<|Mx (bw af (by(simp only[oN,lM,lS]at *;omega):e+1<(b).length))<|K1 2 .app (cL (aY f) (by(rw[lM];exact hj0.hn):g=(j.map aJ).length) (by(have z:=hj0.le;simp only[lC]at z;refine c8 (m:=2^23) ?_ ?_ ?_<;>first|omega|decide):small (g+1) 16=true))<|M1 (.obj 1<|aZ 2 true (f+1)<|(j++[PSpan.mk l<|gD b<|e+1]).map aJ) (congrArg (aZ 2 true<|f+1)<|cO (f:=aJ) (l:=j) (ws:=[PSpan.mk l<|gD b<|e+1]))<|Kl 1 41 (jo e)<|Kf 0<|o (f+1) (g+1) (j++[PSpan.mk l<|gD b<|e+1])<|by exact hj0.new (by assumption) (by rw[c];exact D7 (by rw[<-NI c];exact k.trans r)) rfl) λ_=>Kl 0 41 (jo e)<|Kf 0<|o f g j<|by exact hj0.no (by assumption)
theorem SO(d:PDeed)(a i:Int):kP 52 [aV d,.pptr [iV a] 0 0,.pptr [iV i] 0 0] (.bool (mV a i d)):=by
  have rr0 b' (h:(mV a i d)=b':=by(simp only[mV,be,aS,ak,bS, *];first|done|rfl)):=h;exact bH Tryz.func52<|Kj 6 d.act a (λb _=>Kt 0 b<|Kt 0 b<|Kt 0 b<|Ku 0 b<|Kf 0<|cq<|rr0<|ae d.item i) λb _=>Mh b<|Mh b<|Mh b<|My b<|Ky 0<|rr0 false
def acw(l:lab)(a:Int)(i:Int)(x0:Nat×lab×Unit):Prop:=(l).drop x0.1=x0.2.1/\cN (mV a i) l (0:Nat)=cN (mV a i) x0.2.1 (l.length-x0.2.1.length)
noncomputable def acv(l:lab)(a:Int)(i:Int)(x0:Nat×lab×Unit):laa×lai:=([AV.ls (l.map aV),AV.func (Fn.func 52) [] [AV.pptr [iV a] 0 0,AV.pptr [iV i] 0 0],nV l.length,nV x0.1],[])
theorem VI(l:lab)(a i:Int)(hl:l.length<2^40):kP 51 [.ls (l.map aV),.func (.func 52) [] [.pptr [iV a] 0 0,.pptr [iV i] 0 0]] (iV (cN (mV a i) l 0)):=by
  have rr0 b' (h:(cN (mV a i) l 0)=b':=by first|exact jM zD0 hr0 hj0 ‹_› |exact hj0):=h;exact bH Tryz.func51<|Kl 2 7 (ln aV l)<|Mg 0<|sn aV l [0,1,7,8] (λb _=>([aW<|l.map aV,bc (bb 52) [] [AV.pptr [iV a] 0 0,AV.pptr [iV i] 0 0],nV l.length,nV b],[])) (λb=>cN (mV a i) l (0:Nat)=cN (mV a i) b (l.length-b.length)) (by(exact wG)) (λ_ _ zD0 _ hr0 b hj0=>Kh 0 b<|Kf 0<|li<|rr0 (-1)) λb _ zD0 _ c d e hr0 f _ g hj0=>Kt 0 f<|Kx 4 g<|Kp 0 (SO c a i)<|Mb (mV a i c) (λ_=>Kf 1<|li<|rr0<|Int.ofNat b) λ_=>Kl 0 18 (dQ b)<|Kf 0<|e<|by exact ii zD0 hr0 hj0 (by assumption)
theorem Sx{q:PDeed->Bool}:∀(l:lab)(n:Nat),(∃e,e∈l/\q e=true)->∃k,k<l.length/\q (gD l k)=true/\cN q l n=Int.ofNat (n+k)
  |[],n,h=>by obtain⟨e,h,_⟩:=h;cases h
  | x::r,n,h=>by
    unfold cN
    cases qx:q x with
    |true=>exact⟨0,pU _,qx,rfl⟩
    | false=>
      obtain⟨e,h1,h2⟩:=h
      have h3:e∈r:=by
        rcases dO.1 h1 with rfl|h1
        · rw[qx]at h2;cases h2
        · exact h1
      obtain⟨k,k1,k2,k3⟩:=Sx r (n+1) ⟨e,h3,h2⟩
      exact⟨k+1,Nat.succ_lt_succ k1,k2,by rw[cond_false,k3];congr 1;omega⟩
theorem Wx(a i:Int)(gs:lal)(ds:lab)(k:Nat)(hk:k<ds.length)(hd:ds.length<2^30)(hi:kP 35 [.ls (gs.map am)] (.ls (ds.map aV)))(hx:kP 51 [.ls (ds.map aV),.func (.func 52) [] [.pptr [iV a] 0 0,.pptr [iV i] 0 0]] (iV (Int.ofNat k)))(hz:aE (Int.ofNat k) 0=false):kP 26 [iV a,iV i,.ls (gs.map am)] (.tuple [aV (gD ds k),.bool true]):=by
  exact bH Tryz.func26<|Kp 4 hi<|Mg 2<|M0 (.ren [2,0,1] [] [6,8,12,13])<|M1 (.frz 1 [6,8,12,13]) (et rt ti)<|Mp hx<|Kx 5 (bw aV (oA:k<(ds).length))<|Kf 2<|bA<|cX [av [iV (gD ds k).act,iV (gD ds k).item,iV (gD ds k).day,iV (gD ds k).it.kind,aW<|List.map aq (gD ds k).it.at_,aW<|List.map aq (gD ds k).it.to,iV (gD ds k).it.where_,iV (gD ds k).it.nth_,iV (gD ds k).it.unit.act,iV (gD ds k).it.unit.item,iV (gD ds k).it.unit.n,iV (gD ds k).it.unit.kind,aj (gD ds k).it.unit.label,aW<|List.map aQ (gD ds k).it.unit.head,aW<|List.map aQ (gD ds k).it.unit.words,aW<|List.map aU (gD ds k).it.unit.kids,aW<|List.map nD (gD ds k).it.old,aW<|List.map nD (gD ds k).it.new,aj (gD ds k).it.label,aj (gD ds k).it.for_,iV (gD ds k).it.start.kind,iV (gD ds k).it.start.day,aj (gD ds k).it.start.event,iV (gD ds k).it.act,iV (gD ds k).it.item,iV (gD ds k).it.day,aj (gD ds k).it.event,aW<|List.map PB (gD ds k).it.by_],fZ true]
theorem LJ(gs:lal)(a i:Int)(d:PDeed)(X:lac)(hf:kP 26 [iV a,iV i,.ls (gs.map am)] (.tuple [aV d,.bool true]))(ha:bg d.it.kind=true)(ht:kP 28 [yc a i,.str d.it.for_,.ls (gs.map am)] (.ls (X.map aJ))):kP 10 [iV a,iV i,.ls (gs.map am)] (.ls (X.map aJ)):=by
  exact bH Tryz.func10<|Kp 3 hf<|Kp 11 (gP d.it.kind)<|Kh 1 (cp ha)<|Kp 6 ht<|Kf 0<|bA<|aW<|X.map aJ
theorem S0:∀(u:TUnit),nU u<=2^20->kP 6 [eU u] (.ls ((u::bx u.kids).map eU)):=by
  refine TUnit.ind λu ih hn=>?_
  have hkl:=bB u
  have ihk:∀k,k∈u.kids->kP 6 [eU k] (.ls ((k::bx k.kids).map eU)):=λk hk=>ih k hk (b0 (oK (iI hk)) hn)
  have hlen:(u::bx u.kids).length<=2^20:=by
    rw[<-b8]
    have e:(bV u).length=nU u:=by rw[je];unfold cG;rw[lM]
    omega
  have rr0 b' (h:((u::bx u.kids).map eU)=b':=by first|rfl|exact aX gO _|(rw[hj0,ef];rfl)|(rw[hj0.2,ef,eu];first|done|rfl)):=h;let q:=[av (uLx u)];exact bH Tryz.func6<|Mg 5<|ky Nat Nat lad aU u.kids [1,3,4] (λa _=>([bY 0 0 0 0,jV [av (uLx u)] true,nV a],[aZ 8 false 0 [av (uLx u)]])) (λa _ b c d=>([bY 0 0 0 0,aM 1 b 0 c none,nV a],[aZ 8 false 0 [av (uLx u)],aZ 8 true b<|d.map eU])) (λa=>u::bx u.kids=u::bx a) (λa _ b c=>b=c.length/\u::bx u.kids=c++bx a) (by rfl) (λ_ _ _ _ _ a hj0=>Kl 3 10 (ln aU u.kids)<|Kh 0 a<|Kf 1 (Le.lsp (rr0 q)<|by rfl:Le _ (AV.ps q true))) (λa _ b c d f _ g i j _ l _=>have l:=(l).trans<|congrArg some<|bQ d;have hj0:=bT (J:=λa _=>u::bx u.kids=u::bx a) (a:=()) i c;have:(bx (d::f)).length=(d::bx d.kids).length+(bx f).length:=(by rw[bz,b8,lA]);Kl 3 10 (ln aU u.kids)<|Kt 0 j<|Kx 3 l<|Kp 0 (ihk d<|by exact aG b i)<|M2 .apl (et (by exact jO _ _:List.map eU (d::bx d.kids)≠[])<|fM 8 eU (d::bx d.kids) λ_=>rfl) (et (by(have z:=congrArg List.length hj0;simp only[lM,lC,lN]at *;refine aN (m:=2^21) ?_ ?_ ?_<;>omega):small (([AV.agg (uLx u)]).length+((d::bx d.kids).map eU).length) 120=true) rt)<|M1 (.obj 1<|aZ 8 true 0<|([u]++d::bx d.kids).map eU) (congrArg (aZ 8 true 0) (by rfl:q++List.map eU (d::bx d.kids)=List.map eU ([u]++d::bx d.kids)))<|Kl 2 13 (dQ a)<|Kf 0<|g 0 (q++List.map eU (d::bx d.kids)).length ([u]++d::bx d.kids) (by exact⟨by simp,by rw[hj0,bz,b8];rfl⟩:(([AV.agg (uLx u)]++List.map eU (d::bx d.kids)).length=([u]++d::bx d.kids).length/\u::bx u.kids=[u]++d::bx d.kids++bx f))) (λ_ _ a b c _ _ _ d hj0=>let f:=List.map eU c;Kl 3 10 (ln aU u.kids)<|Kh 0 d<|Mg 1<|M2 (.fsl 0 [] 2 f) ti (cL (aY a) (tA eU c b (oA:(c).length=b))<|aX acx c)<|Ml 2 (fe f false<|aX acx c)<|Mf<|ch<|rr0 f) λa _ b c d f g i j _ l n o _ p _=>have p:=(p).trans<|congrArg some<|bQ i;have hj0:=bT (J:=λa b=>b.2.1=b.2.2.length/\u::bx u.kids=b.2.2++bx a) (a:=(b,c,d)) n g;have:(bx (i::j)).length=(i::bx i.kids).length+(bx j).length:=(by rw[bz,b8,lA]);Kl 3 10 (ln aU u.kids)<|Kt 0 o<|Kx 3 p<|Kp 0 (ihk i<|by exact aG f n)<|M2 .apl (et (by exact jO _ _:List.map eU (i::bx i.kids)≠[])<|fM 8 eU (i::bx i.kids) λ_=>rfl) (cL (aY b) (by(rw[lM];exact hj0.1):c=(d.map eU).length) (by(have z:=congrArg List.length hj0.2;have z2:=hj0.1;simp only[lA,lM,lC,lN]at *;refine aN (m:=2^21) ?_ ?_ ?_<;>omega):small (c+((i::bx i.kids).map eU).length) 120=true))<|M1 (.obj 1<|aZ 8 true (b+1)<|(d++i::bx i.kids).map eU) (congrArg (aZ 8 true<|b+1)<|cO (f:=eU) (l:=d) (ws:=i::bx i.kids))<|Kl 2 13 (dQ a)<|Kf 0<|l (b+1) (c+((i::bx i.kids).map eU).length) (d++i::bx i.kids)<|by exact⟨by(have:=hj0.1;simp only[lA,lM,lC]at *;omega),by rw[hj0.2,bz,b8,iQ]⟩
def KD(day:Int)(s:PSpan):Bool:=ak (aE day s.from_)&&aE day s.to
theorem BJ(l:lac)(day:Int)(hl:l.length<2^30):kP 12 [.ls (l.map aJ),iV day] (.bool (l.any (KD day))):=by
  have rr0 b' (h:(l.any (KD day))=b':=by first|(rw[hj0];simp only[zf,KD,aS,ak,bS, *];first|done|rfl)|(rw[hj0];rfl)):=h;exact bH Tryz.func12<|Mg 1<|sn aJ l [0,1,5] (λa _=>([aW<|l.map aJ,iV day,nV a],[])) (λa=>l.any (KD day)=a.any (KD day)) (by rfl) (λ_ _ _ _ _ a hj0=>Kl 2 8 (ln aJ l)<|Kh 0 a<|Ky 0<|rr0 false) λa _ _ _ b c d _ e _ f hj0=>Kl 2 8 (ln aJ l)<|Kt 0 e<|Kx 1 f<|Kd 4 day b.from_ (λe _=>Kt 0 (cM e)<|Kt 0 (cM e)<|Kt 0 (cM e)<|Mx f<|Mt (cM e)<|Kt 0 (cM e)<|Kt 0 (cM e)<|Ku 0 (cM e)<|Mb (aE day b.to) (λa=>have:=ap a;Ky 0<|rr0 true) λb=>have:=aI b;Kl 1 11 (dQ a)<|Kf 0<|d<|by(rw[hj0,zf];simp only[KD,aS,ak,bS, *];first|done|rfl)) λb _=>Mh (cp b)<|Mh (cp b)<|Mh (cp b)<|Mh (cp b)<|Mh (cp b)<|Mh (cp b)<|My (cp b)<|Kl 2 11 (dQ a)<|Kf 0<|d<|by(rw[hj0,zf];simp only[KD,aS,ak,bS, *];first|done|rfl)
theorem U9(day:Int)(p:bZ)(gs:lal)(haw:kP 4 [] (.bool true))(hw:kP 5 [.ls (gs.map am),.str p] (.bool false)):kP 3 [iV day,.str p,.ls (gs.map am)] (.bool true):=by
  exact bH Tryz.func3<|Kp 0 haw<|Kp 3 hw<|Kp 2 haw<|Kf 0<|bA<|fZ true
noncomputable def A6(id:PId)(l:lam):Bool:=l.any λx=>ao x id
noncomputable def QU(u:TUnit)(l:lam)(b:Bool):Bool:=b||A6 (aF u) l
theorem VQ(day:Int)(p:bZ)(gs:lal)(u:TUnit)(A:Int->lam)(X:lab)(D S:PDeed->lac)(haw:kP 4 [] (.bool true))(hw:kP 5 [.ls (gs.map am),.str p] (.bool true))
    (hB:kP 7 [iV day,.str p,.ls (gs.map am)] (eU u))(hE:kP 6 [eU u] (.ls ((bV u).map eU)))(hl:(bV u).length<=1048576)
    (hA:∀a,kP 8 [iV a,iV day,.str p,.ls (gs.map am)] (.ls ((A a).map aK)))(hAl:∀a,(A a).length<2^40)(hin:∀x,x∈bV u->(ao (aF x) ⟨0,0,0⟩||A6 (aF x) (A x.act))=true)
    (hO:kP 9 [iV day,.str [],.ls (gs.map am)] (.ls (X.map aV)))(hX:X.length<2^30)(hD:∀d,d∈X->kP 10 [iV d.act,iV d.item,.ls (gs.map am)] (.ls ((D d).map aJ)))(hS:∀d,d∈X->kP 11 [iV d.act,iV d.item,.ls (gs.map am)] (.ls ((S d).map aJ)))
    (lD:∀d,(D d).length<2^30)(lS:∀d,(S d).length<2^30)(hh:∀d,d∈X->∀x,x∈D d->(S d).any (KD x.from_)=true/\(S d).any (KD (x.to-1))=true)(hb:∀d x,x∈D d-> -1<x.to/\x.to<=1048577)
    (hf:∀d,d∈X->kP 13 [iV day,.str [],yc d.act d.item,.ls (gs.map am)] (.bool ((D d).any (KD day)))):kP 3 [iV day,.str p,.ls (gs.map am)] (.bool true):=by
  have rr0 b' (h:(true)=b':=by first|rfl|(exfalso;have z:=hin w0 (aG hx0.1 hr0);rw[hj3]at z;simp only[A6,List.any_nil,xU]at z;simp_all;done)|(exfalso;obtain⟨z1,z2⟩:=hh w1 (aG zD1 hr1) w2 (aG zD2 hr2);simp_all;done)|(exfalso;simp_all;done)):=h;exact bH Tryz.func3<|Kp 0 haw<|Kp 3 hw<|Kp 5 hB<|Mp hE<|Kl 0 32 (ln eU<|bV u)<|Mg 0<|UY (0:Nat) (bV u) () [0,1,2,31,32,33] (λb _ _=>([iV day,aj p,aW<|gs.map am,aW<|(bV u).map eU,nV (bV u).length,nV b],[])) (λb c _=>(bV u).drop b=c/\True) (λ_ b _=>b.length) (et rfl<|by(trivial)) λb c e hx0 f=>Mc c (λhr0=>have b:=dm hx0.1 hr0;have:=eM (J:=λ_ _=>True) (a:=e) hr0 hx0.2;Kh 0 b<|Kp 1 hO<|Kl 0 67 (ln aV X)<|Mg 0<|sn aV X [0,2,66,67,68] (λb _=>([iV day,aW<|gs.map am,aW<|X.map aV,nV X.length,nV b],[])) (λ_=>True) (by(trivial)) (λ_ _ zD1 _ hr1 b _=>Kh 0 b<|Kf 0<|bA<|fZ true) λb _ zD1 _ w1 _ c hr1 e _ f _=>Kt 0 e<|Mx f<|Kp 7 (hD w1<|by exact aG zD1 hr1)<|Kp 4 (hS w1<|by exact aG zD1 hr1)<|Kl 3 85 (ln aJ<|D w1)<|Mg 0<|sn aJ (D w1) [0,2,13,14,15,66,67,68,84,85,86] (λc _=>([iV day,aW<|gs.map am,bY 0 0 0 0,aW<|(D w1).map aJ,aW<|(S w1).map aJ,aW<|X.map aV,nV X.length,nV b,aW<|(D w1).map aJ,nV (D w1).length,nV c],[aZ 28 false 0 [av (dLx w1)]])) (λ_=>True) (by(trivial)) (λ_ _ zD2 _ hr2 e _=>Kh 0 e<|Kb 4 (ei w1.it.for_ (ByteArray.mk #[]).data.toList) (λe=>Kt 0 e<|Kt 0 e<|Mp (BJ (D w1) day<|by exact lD _)<|Mt e<|Kt 0 e<|Kt 0 e<|Kt 0 e<|Kt 0 e<|Kt 0 e<|Kt 0 e<|Kt 0 e<|Mp (hf w1<|by exact aG zD1 hr1)<|Mt e<|Ku 0 e<|Mn ((D w1).any (KD day)==(D w1).any (KD day)) (λ_=>Kf 0<|cq<|rr0 false) λ_=>Kl 0 122 (dQ b)<|K1 0 (.frz 0 [0,2,66,67,68]) ti<|Mf<|c<|by trivial) λe=>Mh e<|Mh e<|Mh e<|Mh e<|Mh e<|Mh e<|Mh e<|Mh e<|Mh e<|Mh e<|Mh e<|My e<|Kl 1 122 (dQ b)<|K1 0 (.frz 0 [0,2,66,67,68]) ti<|Mf<|c<|by trivial) λb _ zD2 _ w2 _ c hr2 e _ f _=>have:=hb w1 w2<|aG zD2 hr2;have:=lD w1;Kt 0 e<|Mx f<|Kp 5 (BJ (S w1) w2.from_<|by exact lS _)<|Kn 1 ((S w1).any<|KD w2.from_) (λb=>Mt (cM b)<|Mt (cM b)<|Mt (cM b)<|Mt (cM b)<|Mt (cM b)<|MV (cM b)<|Ky 1<|rr0 false) λe=>Kh 0 (cp e)<|Kh 0 (cp e)<|Kh 0 (cp e)<|Kl 0 99 (Le.wr (x:=w2.to-1) fu)<|Mh (cp e)<|Mp (BJ (S w1) (w2.to-1)<|by exact lS _)<|Mh (cp e)<|Kw 0 (cp e)<|Mn ((S w1).any<|KD<|w2.to-1) (λ_=>Kf 0<|cq<|rr0 false) λ_=>Kl 0 103 (dQ b)<|K1 0 (.frz 1 [0,2,13,14,15,66,67,68,84,85,86]) (et rt ti)<|Mf<|c<|by trivial) λw0 c hr0=>let g:=[av (uLx w0)];let i:=[iV w0.act,iV w0.item,iV w0.n];have i:=dI hx0.1 hr0;have:=ap i;have j:=dl (enc:=eU) hx0.1 hr0;have:=bT (J:=λ_ _=>True) (a:=e) hr0 hx0.2;Kt 0 i<|Mx j<|Kv 5 (kT ((Tryz.prog).underlying 28) w0.act w0.item w0.n 0 0 0<|aw [aZ 8 false 0 g])<|Kp 6 (hA w0.act)<|Kl 0 48 (ln aK<|A w0.act)<|Mg 0<|UY (0:Nat) (A w0.act) (ae w0.act 0&&(ae w0.item 0&&ae w0.n 0)) [0,1,2,8,9,31,32,33,47,48,49] (λc _ e=>([iV day,aj p,aW<|gs.map am,bY 0 0 0 0,fZ e,aW<|(bV u).map eU,nV (bV u).length,nV b,aW<|(A w0.act).map aK,nV (A w0.act).length,nV c],[aZ 8 false 0 [av (uLx w0)]])) (λb c e=>(A w0.act).drop b=c/\(ao (aF w0) (PId.mk (0:Int) (0:Int) (0:Int))||A6 (aF w0) (A w0.act))=(e||A6 (aF w0) c)) (λ_ b _=>b.length) (et rfl<|by rfl) λe i j k l=>Mc i (λe=>have g:=dm k.1 e;have hj3:=eM (J:=λb c=>(ao (aF w0) (PId.mk (0:Int) (0:Int) (0:Int))||A6 (aF w0) (A w0.act))=(c||A6 (aF w0) b)) (a:=j) e k.2;Kh 0 g<|Kn 1 j (λ_=>Kf 0<|cq<|rr0 false) λ_=>Kl 0 63 (dQ b)<|K1 0 (.frz 0 [0,1,2,31,32,33]) ti<|Mf<|f (b+1) c () (et (aH hx0.1 hr0)<|by trivial)<|cC hr0) λb c f=>let i:=[iV b.a,iV b.i,iV b.n];have m:=dI k.1 f;have:=ap m;have n:=dl (enc:=aK) k.1 f;have hj3:=bT (J:=λb c=>(ao (aF w0) (PId.mk (0:Int) (0:Int) (0:Int))||A6 (aF w0) (A w0.act))=(c||A6 (aF w0) b)) (a:=j) f k.2;have:=hAl w0.act;Kt 0 m<|Mx n<|Kb 4 j (λb=>Mt b<|Mt b<|Mt b<|MV b<|Kl 1 60 (dQ e)<|K1 0 (.frz 1 [0,1,2,8,9,31,32,33,47,48,49]) (et rt ti)<|Mf<|l (e+1) c true (et (aH k.1 f)<|by(rw[hj3];simp only[A6,zf,ao,aF,aS,ak,bS, *];first|done|rfl|simp_all))<|cC f) λj=>Kh 0 j<|Kh 0 j<|Kh 0 j<|Mv (kT ((Tryz.prog).underlying 28) b.a b.i b.n w0.act w0.item w0.n<|aw [aZ 8 false 0 g,aZ 3 false 0 [av i]])<|My j<|Kl 1 60 (dQ e)<|K1 0 (.frz 1 [0,1,2,8,9,31,32,33,47,48,49]) (et rt ti)<|Mf<|l (e+1) c (ae b.a w0.act&&(ae b.i w0.item&&ae b.n w0.n)) (et (aH k.1 f)<|by(rw[hj3];simp only[A6,zf,ao,aF,aS,ak,bS, *];first|done|rfl|simp_all))<|cC f
theorem u0{c:Bool}{s:PSpan}{y:Int}:memB (bif c then[s]else[]) y=(c&&decide (s.from_<=y/\y<s.to)):=by cases c<;>simp[memB]
theorem Xh {q:Int->Bool}{y:Int}:∀{l:lak},l.Pairwise (λa b=>a<b)->(∀z,z∈l->z<1048577)->memB (rH q l) y=true->∃b n,b∈l/\q b=true/\b<=y/\y<n/\n<=1048577/\∀z,z∈l->z<=b\/n<=z
  |[],_,_,h=>by cases h
  | c::r,hp,hb,h=>by
    obtain⟨h1,h2⟩:=iN.1 hp
    rw[rH,nc,u0,oh]at h
    rcases h with h|h
    · simp only[ba,decide_eq_true_eq]at h
      refine⟨c,KW r,dr ..,h.1,h.2.1,h.2.2,?_,λz hz=>?_⟩
      · cases r with
        |nil=>exact so _
        |cons e r=>exact Int.le_of_lt (hb e (di _ (dr ..)))
      · rcases dO.1 hz with rfl|hz
        · exact .inl (so _)
        · refine .inr ?_
          cases r with
          |nil=>cases hz
          | cons e r=>
            rcases dO.1 hz with rfl|hz
            · exact so _
            · exact Int.le_of_lt ((iN.1 h2).1 z hz)
    · obtain⟨b,n,k1,k2,k3,k4,k5,k6⟩:=Xh h2 (λz hz=>hb z (di _ hz)) h
      refine⟨b,n,di _ k1,k2,k3,k4,k5,λz hz=>?_⟩
      rcases dO.1 hz with rfl|hz
      · exact .inl (Int.le_of_lt (h1 b k1))
      · exact k6 z hz
theorem QA{q:Int->Bool}{y:Int}:∀{l:lak},(∀z,z∈l->y<z)->memB (rH q l) y=false
  |[],_=>rfl
  | c::r,h=>by
    have h1:=h c (dr ..)
    rw[rH,nc,u0,QA (l:=r) λz hz=>h z (di _ hz),xU,decide_eq_false (by show ¬(c<=y/\y<KW r);omega),qD]
theorem Xi{q:Int->Bool}{d:Int}(hd:d<1048577):∀(l:lak)(c:Int),(c::l).Pairwise (λa b=>a<b)->(∀z,z∈c::l->z<1048577)->c<=d->∃b n,b∈c::l/\b<=d/\d<n/\n<=1048577/\(∀z,z∈c::l->z<=b\/n<=z)/\memB (rH q (c::l)) d=q b
  | [],c,_,_,hc=>⟨c,1048577,dr ..,hc,hd,so _,λz hz=>by rw[jr]at hz;omega,by
    show memB ((bif q c then[⟨c,1048577⟩]else[])++[]) d=q c
    rw[eu,u0,decide_eq_true (by show c<=d/\d<1048577;omega),Bool.and_true]⟩
  | e::l,c,hp,hb,hc=>by
    obtain⟨h1,h2⟩:=iN.1 hp
    have hce:=h1 e (dr ..)
    have hup:∀z,z∈e::l->e<=z:=λz hz=>by
      rcases dO.1 hz with rfl|hz
      · exact so _
      · exact Int.le_of_lt ((iN.1 h2).1 z hz)
    rcases Int.lt_or_le d e with hde|hde
    · refine⟨c,e,dr ..,hc,hde,Int.le_of_lt (hb e (di _ (dr ..))),λz hz=>?_,?_⟩
      · rcases dO.1 hz with rfl|hz
        · exact .inl (so _)
        · exact .inr (hup z hz)
      · rw[rH,nc,u0,QA (l:=e::l) λz hz=>by have:=hup z hz;omega,xU,decide_eq_true (by show c<=d/\d<e;omega),Bool.and_true]
    · obtain⟨b,n,k1,k2,k3,k4,k5,k6⟩:=Xi hd l e h2 (λz hz=>hb z (di _ hz)) hde
      have hbe:=hup b k1
      refine⟨b,n,di _ k1,k2,k3,k4,λz hz=>?_,?_⟩
      · rcases dO.1 hz with rfl|hz
        · exact .inl (by omega)
        · exact k5 z hz
      · rw[rH,nc,u0,k6,decide_eq_false (by show ¬(c<=d/\d<e);omega),qD,Bool.false_or]
noncomputable def EB(gs:lal)(d:PDeed):lac:=Cb (jt (dR gs) []) (eR gs) d
theorem NP{S:PDeed->lac}{a i:Int}{X:lac}:∀(r:lab)(out:lac),(∀e,e∈r->(bg e.it.kind&&mV a i e)=true->S e=X)->(out=X\/∃e,e∈r/\(bg e.it.kind&&mV a i e)=true)->rp S a i r out=X
  | [],out,_,h=>by
    rcases h with h|⟨e,h,_⟩
    · exact h
    · cases h
  | d::r,out,hS,h=>by
    rw[rp]
    refine NP r _ (λe he=>hS e (di _ he)) ?_
    cases q:(bg d.it.kind&&mV a i d)with
    |true=>exact .inl (hS d (dr ..) q)
    | false=>
      rcases h with h|⟨e,h1,h2⟩
      · exact .inl h
      · rcases dO.1 h1 with rfl|h1
        · rw[q]at h2;cases h2
        · exact .inr ⟨e,h1,h2⟩
theorem EQ{gs:lal}{d:PDeed}(h:d∈eR gs):∃a,a∈dR gs/\a.number=d.act/\a.day=d.day:=by
  obtain⟨o,ho,rfl⟩:=iO.1 h
  obtain⟨a,ha,hoa⟩:=List.mem_flatMap.1 ho
  obtain⟨q1,q2,_⟩:=(nG a _ 0).2 o hoa
  obtain⟨p1,_,p3⟩:=KN (aB (dR gs) []) o
  exact⟨a,ha,by omega,by omega⟩
theorem Bn(gs:lal):(eR gs).Pairwise Ne2:=Yh (List.pairwise_map.2 ((yx _ (Xv gs)).imp λ{d e} h=>by
    have h1:=KN (aB (dR gs) []) d
    have h2:=KN (aB (dR gs) []) e
    unfold Z3 at *;omega)) λd e h1 h2 q=>by
  obtain⟨a,a1,a2,a3⟩:=EQ h1
  obtain⟨b,b1,b2,b3⟩:=EQ h2
  have:=QZ a1 b1 (by omega)
  rw[<-a3,<-b3,this]
theorem KJ{X:lab}(h:X.Pairwise Ne2):∀d,d∈X->∀e,e∈X->d.act=e.act->d.item=e.item->d=e:=by
  induction h with
  |nil=>intro d hd;cases hd
  | cons h1 _ ih=>
    intro d hd e he q1 q2
    rcases dO.1 hd with e1|hd2<;>rcases dO.1 he with e2|he2
    · rw[e1,e2]
    · subst e1;exact absurd (by rw[q1,q2]) (h1 e he2)
    · subst e2;exact absurd (by rw[q1,q2]) (h1 d hd2)
    · exact ih d hd2 e he2 q1 q2
theorem sd{a i:Int}{d:PDeed}:mV a i d=true↔d.act=a/\d.item=i:=by
  unfold mV;rw[ba]
  exact⟨λh=>⟨jE h.1,jE h.2⟩,λh=>⟨by rw[h.1,be],by rw[h.2,be]⟩⟩
theorem rb{gs:lal}{day:Int}{p:bZ}{d:PDeed}(h:d∈fE day p gs):d∈eR gs/\bg d.it.kind=true/\gT (EB gs d) day=true/\SA p d=true:=by
  obtain⟨h1,h2⟩:=xV.1 h
  obtain⟨h3,h4⟩:=jj.1 h2
  obtain⟨h5,h6⟩:=jj.1 h4
  exact⟨h1,h3,h6,h5⟩
theorem Wn{gs:lal}{d:PDeed}(hd:d∈eR gs)(ha:bg d.it.kind=true):rp (EB gs) d.act d.item (eR gs) []=EB gs d:=
  NP _ _ (λe he h=>by
    obtain⟨q1,q2⟩:=sd.1 (jj.1 h).2
    rw[KJ (Bn gs) e he d hd q1 q2]) (.inr ⟨d,hd,by rw[ha,sd.2 ⟨rfl,rfl⟩];rfl⟩)
theorem FL(l:lac)(d:Int):l.any (λs=>ak (aE d s.from_)&&aE d s.to)=memB l d:=by
  unfold memB
  congr 1
  funext s
  rw[zd,ba,decide_eq_true_eq]
  constructor
  · intro h;exact⟨gu h.1,ap h.2⟩
  · intro h;exact⟨by rw[jC h.1];rfl,by
      cases q:aE d s.to with
      |true=>rfl
      |false=>have:=aI q;omega⟩
theorem OI{gs:lal}{d:PDeed}(hd:d∈eR gs):(∀x,x∈ej (rH (nE gs d.it.for_ d.act d.item) (dM gs))->memB (EB gs d) x.from_=true/\memB (EB gs d) (x.to-1)=true):=by
  have hn:NrmS (EB gs d):=iJ _ _ _
  have key:∀y,memB (ej (rH (nE gs d.it.for_ d.act d.item) (dM gs))) y=true->memB (EB gs d) y=true:=λy hy=>by
    rw[show ej (rH (nE gs d.it.for_ d.act d.item) (dM gs))=nf (memB (rH (nE gs d.it.for_ d.act d.item) (dM gs)))from rfl,An]at hy
    obtain⟨b,n,k1,k2,k3,k4,k5,k6⟩:=Xh (Eu _) (λz hz=>(zY gs z hz).2) (jj.1 hy).2
    obtain⟨e,e1,e2⟩:=List.any_eq_true.1 (jj.1 k2).1
    obtain⟨q1,q2⟩:=sd.1 e2
    obtain⟨r1,r2,r3,_⟩:=rb e1
    obtain rfl:=KJ (Bn gs) e r1 d hd q1 q2
    rw[<-y6 hn,<-r3]
    refine Di hn (λz hz=>k6 z (TC ?_)) k5 k3 k4
    have go:∀(r:lab),e∈r->z∈ji (jt (dR gs) []) (eR gs) r:=λr=>by
      induction r with
      |nil=>intro h;cases h
      | cons c r ih=>
        intro h
        rw[ji]
        rcases dO.1 h with rfl|h
        · refine ux _ ?_
          unfold BH;rw[r2];exact hz
        · exact qJ _ (ih h)
    exact go _ r1
  intro x hx
  have hN:NrmS (ej (rH (nE gs d.it.for_ d.act d.item) (dM gs))):=tu _
  have hx3:=(hN.ok x hx).2.1
  exact⟨key _ (gv.2 ⟨x,hx,so _,hx3⟩),key _ (gv.2 ⟨x,hx,by omega,by omega⟩)⟩
theorem U8{gs:lal}{day:Int}(p:bZ)(a i:Int)(h0:0<=day)(h1:day<1048577):memB (ej (rH (nE gs p a i) (dM gs))) day=nE gs p a i day:=by
  rw[show ej (rH (nE gs p a i) (dM gs))=nf (memB (rH (nE gs p a i) (dM gs)))from rfl,An]
  obtain⟨r,e⟩:=Y2 (Eu _) (λz hz=>(zY gs z hz).1) (ZB gs)
  have e:dM gs=0::r:=e
  have hu:(dM gs).Pairwise (λa b=>a<b):=Eu _
  obtain⟨b,n,k1,k2,k3,k4,k5,k6⟩:=Xi (q:=nE gs p a i) h1 r 0 (e▸hu) (λz hz=>(zY gs z (e▸hz)).2) h0
  rw[e,k6,show Pw day=true from decide_eq_true ⟨h0,h1⟩,xY]
  unfold nE
  rw[show fE day p gs=fE b p gs from Dk p _ _ k4 k2 k3 _ λz h=>k5 z (e▸TC h)]
theorem Pa{gs:lal}{day:Int}{p:bZ}{d:PDeed}(h:d∈fE day p gs):0<=day/\day<1048577:=by
  rcases Int.lt_or_le day 0 with q|q
  · rw[show fE day p gs=[]from E0 p _ _ (.inl q) _]at h;cases h
  · rcases Int.lt_or_le 1048576 day with q2|q2
    · rw[show fE day p gs=[]from E0 p _ _ (.inr q2) _]at h;cases h
    · exact⟨q,by omega⟩
def Jy(s:g9):Prop:=∀y,qp ao y s.2=true->y∈s.1
theorem Xk{s:g9}(h:Jy s)(x:PId):Jy (Jq s x)/\x∈(Jq s x).1/\∀y,y∈s.1->y∈(Jq s x).1:=by
  have hk:∀y,qp ao y (cQ ao x true s.2)=(ao y x||qp ao y s.2):=λy=>Nl (λ_ _=>pI) gi y x s.2
  unfold Jq
  cases q:qp ao x s.2 with
  | true=>
    refine⟨λy hy=>?_,h x q,λy hy=>hy⟩
    have hy:qp ao y (cQ ao x true s.2)=true:=hy
    rw[hk,oh]at hy
    rcases hy with e|e
    · rw[pI e];exact h x q
    · exact h y e
  | false=>
    refine⟨λy hy=>?_,qJ _ (jr.2 rfl),λy hy=>ux _ hy⟩
    have hy:qp ao y (cQ ao x true s.2)=true:=hy
    rw[hk,oh]at hy
    rcases hy with e|e
    · rw[pI e];exact qJ _ (jr.2 rfl)
    · exact ux _ (h y e)
theorem zj:∀(W:lam){s:g9},Jy s->Jy (rB s W)/\∀y,y∈s.1\/y∈W->y∈(rB s W).1
  |[],s,h=>⟨h,λy hy=>hy.elim id λh=>by cases h⟩
  | x::r,s,h=>by
    obtain⟨h1,h2,h3⟩:=Xk h x
    obtain⟨k1,k2⟩:=zj r h1
    refine⟨k1,λy hy=>k2 y ?_⟩
    rcases hy with hy|hy
    · exact .inl (h3 y hy)
    · rcases dO.1 hy with rfl|hy
      · exact .inl h2
      · exact .inr hy
theorem zx{act:Int}{s:g9}{u:TUnit}{d:PDeed}(h:Jy s):Jy (kw act s u d)/\∀y,y∈s.1->y∈(kw act s u d).1:=by
  cases q:ae d.act act with
  |true=>rw[vR q];exact⟨(zj _ h).1,λy hy=>(zj _ h).2 y (.inl hy)⟩
  |false=>rw[Ef q];exact⟨h,λy hy=>hy⟩
theorem JY{act:Int}{y:PId}:∀(r:lab)(u:TUnit)(s:g9),Jy s->y∈s.1->y∈(GX act r u s).1
  |[],_,_,_,h=>h
  |_::r,_,_,hs,h=>JY r _ _ (zx hs).1 ((zx hs).2 _ h)
theorem OW{act:Int}{y:PId}:∀(X:lab)(u:TUnit)(s:g9)(k:Nat),Jy s->(∀d,d∈X->jl d.it.kind=true)->k<X.length->(gD X k).act=act->y∈yp (dz u (X.take k)) (gD X k)->y∈(GX act X u s).1
  | d::r,u,s,0,hs,_,_,h1,h2=>by
    refine JY r _ _ (zx hs).1 ?_
    have h1:d.act=act:=h1
    rw[vR (by rw[h1];exact be _)]
    exact(zj _ hs).2 _ (.inr h2)
  | d::r,u,s,k+1,hs,ha,hk,h1,h2=>by
    have e:n5 u d=(eS u d).1:=by unfold n5;rw[ha d (dr ..)];rfl
    refine OW r _ _ k (zx hs).1 (λx hx=>ha x (di _ hx)) (Nat.lt_of_succ_lt_succ hk) h1 ?_
    rw[<-e];exact h2
theorem Ek:∀(l m:lab)(u:TUnit),dz u (l++m)=dz (dz u l) m
  |[],_,_=>rfl
  |d::r,m,u=>Ek r m (n5 u d)
theorem aa2{α:Type}[Inhabited α]{l:List α}{i:Nat}(h:i<l.length):gD l i=l[i]:=by simp[gD,List.getD,lE h]
theorem Uo{α:Type}[Inhabited α]{l:List α}{k:Nat}(h:k<l.length):l.take (k+1)=l.take k++[gD l k]:=by
  rw[aa2 h,List.take_append_getElem h]
noncomputable def FE(X:lab)(k:Nat):TUnit:=dz mG (X.take k)
structure StgX(X:lab):Prop where
  i:∀d,d∈X->og d.it
  a:∀d,d∈X->jl d.it.kind=true
theorem StgX.ok{X:lab}(h:StgX X)(k:Nat):OkB (FE X k):=BL wN λd hd=>h.i d (sE hd)
theorem StgX.un{X:lab}(h:StgX X){k:Nat}(hk:k<X.length):Un (yo (FE X k) (gD X k) (eS (FE X k) (gD X k)).2) (FE X k) (FE X (k+1)):=by
  have e:FE X (k+1)=(eS (FE X k) (gD X k)).1:=by
    unfold FE
    rw[Uo hk,Ek]
    show n5 _ _=_
    unfold n5
    rw[h.a _ (eP hk)];rfl
  rw[e];exact ZH (h.ok k) (h.i _ (eP hk)) (h.a _ (eP hk))
theorem ZM{u:TUnit}{d:PDeed}{e:Int}{id:PId}(h0:id≠⟨0,0,0⟩)(h:id∈yo u d e):(id.a=d.act/\id.i=d.item)\/bG id u=true:=by
  unfold yo nM at h
  cases qe:ae e 0<;>rw[qe]at h
  · cases h
  · cases q0:ae d.it.kind 0<;>rw[q0]at h
    · cases q1:ae d.it.kind 1<;>rw[q1]at h
      · have h:id∈[(aC u d.it.at_).1]:=h
        have h:=jr.1 h
        unfold aC at h
        split at h
        · exact absurd h h0
        · rename_i x ex
          exact .inr (mD u ⟨x,DD (by rw[ex];exact jr.2 rfl),h.symm⟩)
        · exact absurd h h0
      · have h:id∈cG (cH (aC u d.it.at_).1 u):=h
        cases hq:bG (aC u d.it.at_).1 u with
        | true=>
          obtain⟨y,y1,y2⟩:=iO.1 h
          exact .inr (mD u ⟨y,dD (iH hq).1 y1,y2⟩)
        | false=>
          unfold cH at h
          rw[hq]at h
          have h:id∈[(⟨0,0,0⟩:PId)]:=h
          exact absurd (jr.1 h) h0
    · have h:id∈cG (cP d.act d.item d.it.unit 0 0):=h
      rw[rO]at h
      obtain⟨j,_,rfl⟩:=iO.1 h
      exact .inl ⟨rfl,rfl⟩
theorem StgX.pres{X:lab}(h:StgX X){id:PId}(h0:id≠⟨0,0,0⟩):∀m,m<=X.length->bG id (FE X m)=true->∃j,j<m/\(gD X j).act=id.a/\id∈yo (FE X j) (gD X j) (eS (FE X j) (gD X j)).2
  | 0,_,hp=>by
    obtain⟨y,y1,y2⟩:=And.intro (iH hp).1 (iH hp).2|>λz=>(⟨_,z.1,z.2⟩:∃y,y∈bV (FE X 0)/\aF y=id)
    have e:FE X 0=mG:=by unfold FE;rw[List.take_zero];rfl
    rw[e]at y1
    have:y=mG:=by simpa[mG,bV,bx]using y1
    subst this
    exact absurd y2.symm h0
  | m+1,hm,hp=>by
    cases hb:bG id (FE X m)with
    | true=>
      obtain⟨j,j1,j2⟩:=h.pres h0 m (by omega) hb
      exact⟨j,by omega,j2⟩
    | false=>
      have hin:id∈yo (FE X m) (gD X m) (eS (FE X m) (gD X m)).2:=by
        refine Classical.byContradiction λhn=>?_
        have z:=(Un.find (h.ok m) (h.ok (m+1)) (h.un (by omega)) hn).1
        rw[hb,hp]at z;cases z
      rcases ZM h0 hin with⟨e1,_⟩|e
      · exact⟨m,by omega,e1.symm,hin⟩
      · rw[hb]at e;cases e
theorem RW{X:lab}(h:StgX X){x:TUnit}(hx:x∈bV (dz mG X)):aF x=⟨0,0,0⟩\/aF x∈(GX x.act X mG ([],[])).1:=by
  by_cases h0:aF x=⟨0,0,0⟩
  · exact .inl h0
  · refine .inr ?_
    have hb:FE X X.length=dz mG X:=by unfold FE;rw[List.take_length]
    obtain⟨j,j1,j2,j3⟩:=h.pres h0 X.length (ar _) (by rw[hb];exact mD _ ⟨x,hx,rfl⟩)
    exact OW X mG ([],[]) j (λy hy=>by cases hy) h.a j1 j2 j3
theorem Py{gs:lal}(ok:OkG gs)(day:Int)(p:bZ):StgX (fE day p gs):=⟨(ok.force day p).2.1,λ_ h=>(jj.1 (xV.1 h).2).1⟩
theorem Rp{l:lac}(h:NrmS l):l.length<2^30:=mR h.len (by decide)
theorem Ay(day:Int)(p:bZ)(gs:lal)(hf:qY gs)(hl:gs.length<2^47)(haw:kP 4 [] (.bool true)):kP 3 [iV day,.str p,.ls (gs.map am)] (.bool true):=by
  have hw:=Pn gs p hf hl
  cases hb:wL gs p with
  |false=>rw[hb]at hw;exact U9 day p gs haw hw
  | true=>
    rw[hb]at hw
    have ok:=Ri hf hb
    have hlen:=ok.lens
    obtain⟨h1,h2,h3⟩:=ok.force day p
    obtain⟨k1,k2,k3⟩:=ok.force day []
    have hX:(fE day p gs).length<=7200:=b0 (List.length_filter_le ..) hlen.2
    have st:=Py ok day p
    have hob:=ok.okB day p
    have hE:=S0 (I6 day p gs) (b0 hob.n (by decide))
    rw[<-b8]at hE
    have hpl:(bV (I6 day p gs)).length=nU (I6 day p gs):=by rw[je];unfold cG;rw[lM]
    have hnu:=hob.n
    have hst:∀d,d∈fE day p gs->og d.it/\jl d.it.kind=true:=λd hd=>⟨st.i d hd,st.a d hd⟩
    have hAl:∀a,(GX a (fE day p gs) mG ([],[])).1.length<2^40:=λa=>by
      have key:∀(r:lab)(u:TUnit)(s:g9),OkB u->(∀d,d∈r->og d.it/\jl d.it.kind=true)->(GX a r u s).1.length<=s.1.length+1048576*r.length:=λr=>by
        induction r with
        |nil=>intro u s _ _;exact ar _
        | cons d r ih=>
          intro u s hu hr
          obtain⟨q1,q2⟩:=hr d (dr ..)
          have:=ih (eS u d).1 (kw a s u d) (lu ⟨hu,q1,q2⟩).2 λx hx=>hr x (di _ hx)
          have:=(FP (act:=a) (s:=s) hu q1).2
          rw[GX,lC];omega
      have:=key (fE day p gs) mG ([],[]) wN hst
      have:(GX a (fE day p gs) mG ([],[])).1.length<=0+1048576*(fE day p gs).length:=this
      omega
    have hdN:∀d:PDeed,NrmS (ej (rH (nE gs d.it.for_ d.act d.item) (dM gs))):=λd=>tu _
    have hfor:∀d,d∈fE day [] gs->d.it.for_=[]:=λd hd=>by
      obtain⟨_,_,_,h⟩:=rb hd
      unfold SA at h
      rw[Bool.or_self]at h;exact NH h
    refine VQ day p gs _ (λa=>(GX a (fE day p gs) mG ([],[])).1) _ (λd=>ej (rH (nE gs d.it.for_ d.act d.item) (dM gs))) (EB gs) haw hw (ok.book day p) hE (by omega) (λa=>JV gs day p a _ h3 hX hst) hAl (λx hx=>?_) k3 k1 (λd hd=>?_) (λd hd=>?_) (λd=>Rp (hdN d)) (λd=>Rp (iJ _ _ _)) (λd hd x hx=>?_) (λd x hx=>?_) (λd hd=>?_)
    · rw[oh]
      rcases RW st hx with e|e
      · exact .inl (by rw[e];exact gi _)
      · exact .inr (List.any_eq_true.2 ⟨_,e,gi _⟩)
    · obtain⟨r1,r2,_,_⟩:=rb hd
      obtain⟨k,q1,q2,q3⟩:=Sx (q:=mV d.act d.item) (eR gs) 0 ⟨d,r1,sd.2 ⟨rfl,rfl⟩⟩
      rw[fx]at q3
      have hx:=VI (eR gs) d.act d.item (by omega)
      rw[q3]at hx
      have hfd:=Wx d.act d.item gs _ k q1 (by omega) ok.all.2 hx (jC (by simp only[oN];omega))
      obtain⟨e1,e2⟩:=sd.1 q2
      rw[KJ (Bn gs) _ (eP q1) d r1 e1 e2]at hfd
      exact LJ gs d.act d.item d _ hfd r2 (Oc gs ok d.it.for_ d.act d.item)
    · obtain⟨r1,r2,_,_⟩:=rb hd
      have hc:=abo gs _ _ d.act d.item (by omega) (by omega) ok.all.1 ok.all.2 ⟨d,r1,by rw[r2,sd.2 ⟨rfl,rfl⟩];rfl⟩
      have z:=Zy gs d.act d.item _ hc
      rwa[show rp (Cb (jt (dR gs) []) (eR gs)) d.act d.item (eR gs) []=EB gs d from Wn r1 r2]at z
    · obtain⟨r1,_,_,_⟩:=rb hd
      obtain⟨z1,z2⟩:=OI r1 x hx
      exact⟨(FL _ _).trans z1,(FL _ _).trans z2⟩
    · have:=(hdN d).ok x hx;omega
    · have e:=hfor d hd
      obtain⟨q1,q2⟩:=Pa hd
      have z:=ok.eff [] d.act d.item day
      rw[<-U8 [] d.act d.item q1 q2,<-FL]at z
      show aP _ _ _ _ (.bool ((ej (rH (nE gs d.it.for_ d.act d.item) (dM gs))).any (KD day)))
      rw[e];exact z
end Go.Proofs.YtiflidpifinbjaaGreatDoor
