/- Functions walked: what each of them answers, for the law that an act has touched the units that its number names, and that items are effective only while they are in force: part 8. Conditions: those that each theorem names. -/
import Derived.Test.YtiflidpifinbjaaGreatDoorH7
namespace Go.Proofs.YtiflidpifinbjaaGreatDoor
open Go Go.Ev
noncomputable def rp(S:PDeed->lac)(a i:Int):lab->lac->lac
  |[],out=>out
  |d::r,out=>rp S a i r (bif bg d.it.kind&&mV a i d then S d else out)
theorem Tk{S:PDeed->lac}{a i:Int}{d:PDeed}{r:lab}{out:lac}(h1:bg d.it.kind=true)(h2:mV a i d=true):rp S a i (d::r) out=rp S a i r (S d):=by rw[rp,h1,h2];rfl
theorem Tw{S:PDeed->lac}{a i:Int}{d:PDeed}{r:lab}{out:lac}(h:(bg d.it.kind&&mV a i d)=false):rp S a i (d::r) out=rp S a i r out:=by rw[rp,h];rfl
noncomputable abbrev Ad(ss:lac):AObj:=.row 1 false 0 [.ls (ss.map aJ)]
noncomputable abbrev VJ(v:AV):AObj:=.row 1 false 0 [v]
theorem X0{a i:Int}{d:PDeed}(h:mV a i d=false):ae d.act a=false\/(ae d.act a=true/\ae d.item i=false):=by
  unfold mV at h
  cases q:ae d.act a with
  |false=>exact .inl rfl
  |true=>rw[q,xY]at h;exact .inr ⟨rfl,h⟩
theorem abh(a i:Int)(v:AV)(hv:az [v]=0)(d:PDeed)(ss:lac)(m:List (Int×PStart))(h1:ae d.act a=false):kC 29 [aV d,.ls (ss.map aJ),.ptr 0 0 0 0,.ptr 1 0 0 0,.ptr 2 0 0 0] (aw [bM a,bM i,VJ v,bX m,bh d]) (λv1 h=>v1=.tuple []/\h=aw [bM a,bM i,VJ v,bX m,bh d]):=by
  exact eg Tryz.func29 λb=>Kh 5 h1<|Mh h1<|Mh h1<|Mh h1<|My h1<|K1 0 (.frz 5 []) (od rt (tM m.length 5<|ay (f:=ax) (λ_=>rfl) m 0) (tR 1 false 0 5 (by assumption:az ([v])=0)) rt rt ti)<|Mf b
theorem abg(a i:Int)(v:AV)(hv:az [v]=0)(d:PDeed)(ss:lac)(m:List (Int×PStart))(h1:ae d.act a=true)(h2:ae d.item i=false):kC 29 [aV d,.ls (ss.map aJ),.ptr 0 0 0 0,.ptr 1 0 0 0,.ptr 2 0 0 0] (aw [bM a,bM i,VJ v,bX m,bh d]) (λv1 h=>v1=.tuple []/\h=aw [bM a,bM i,VJ v,bX m,bh d]):=by
  exact eg Tryz.func29 λb=>Kt 5 h1<|Kt 0 h1<|Kt 0 h1<|Kt 0 h1<|Ku 0 h1<|Mh h2<|M1 (.frz 5 []) (od rt (tM m.length 5<|ay (f:=ax) (λ_=>rfl) m 0) (tR 1 false 0 5 (by assumption:az ([v])=0)) rt rt ti)<|Mf b
theorem acA(a i:Int)(d:PDeed)(ss:lac)(m:List (Int×PStart))(h1:ae d.act a=true)(h2:ae d.item i=true):kC 29 [aV d,.ls (ss.map aJ),.ptr 0 0 0 0,.ptr 1 0 0 0,.ptr 2 0 0 0] (aw [bM a,bM i,iq,bX m,bh d]) (λv1 h=>v1=.tuple []/\h=aw [bM a,bM i,Ad ss,bX m,bh d]):=by
  exact eg Tryz.func29 λb=>Kt 5 h1<|Kt 0 h1<|Kt 0 h1<|Kt 0 h1<|Ku 0 h1<|Mt h2<|K1 1 (.frz 5 []) (od rt (tM m.length 5<|ay (f:=ax) (λ_=>rfl) m 0) rt rt rt ti)<|Mf b
theorem acz(a i:Int)(s0:lac)(d:PDeed)(ss:lac)(m:List (Int×PStart))(h1:ae d.act a=true)(h2:ae d.item i=true):kC 29 [aV d,.ls (ss.map aJ),.ptr 0 0 0 0,.ptr 1 0 0 0,.ptr 2 0 0 0] (aw [bM a,bM i,Ad s0,bX m,bh d]) (λv1 h=>v1=.tuple []/\h=aw [bM a,bM i,Ad ss,bX m,bh d]):=by
  exact eg Tryz.func29 λb=>Kt 5 h1<|Kt 0 h1<|Kt 0 h1<|Kt 0 h1<|Ku 0 h1<|Mt h2<|K1 1 (.frz 5 []) (od rt (tM m.length 5<|ay (f:=ax) (λ_=>rfl) m 0) rt rt rt ti)<|Mf b
theorem acE(a i:Int)(d:PDeed)(ss:lac)(m:List (Int×PStart))(hb:By (mV a i d) false):kC 29 [aV d,.ls (ss.map aJ),.ptr 0 0 0 0,.ptr 1 0 0 0,.ptr 2 0 0 0] (aw [bM a,bM i,iq,bX m,bh d]) (λv1 h=>v1=.tuple []/\h=aw [bM a,bM i,iq,bX m,bh d]):=by
  rcases X0 hb with h|⟨h1,h2⟩
  · exact abh a i .nils rfl d ss m h
  · exact abg a i .nils rfl d ss m h1 h2
theorem acD(a i:Int)(s0:lac)(d:PDeed)(ss:lac)(m:List (Int×PStart))(hb:By (mV a i d) false):kC 29 [aV d,.ls (ss.map aJ),.ptr 0 0 0 0,.ptr 1 0 0 0,.ptr 2 0 0 0] (aw [bM a,bM i,Ad s0,bX m,bh d]) (λv1 h=>v1=.tuple []/\h=aw [bM a,bM i,Ad s0,bX m,bh d]):=by
  rcases X0 hb with h|⟨h1,h2⟩
  · exact abh a i _ rfl d ss m h
  · exact abg a i _ rfl d ss m h1 h2
theorem acC(a i:Int)(d:PDeed)(ss:lac)(m:List (Int×PStart))(hb:By (mV a i d) true):kC 29 [aV d,.ls (ss.map aJ),.ptr 0 0 0 0,.ptr 1 0 0 0,.ptr 2 0 0 0] (aw [bM a,bM i,iq,bX m,bh d]) (λv1 h=>v1=.tuple []/\h=aw [bM a,bM i,Ad ss,bX m,bh d]):=by
  have hb:mV a i d=true:=hb
  obtain⟨h1,h2⟩:=jj.1 hb
  exact acA a i d ss m h1 h2
theorem acB(a i:Int)(s0:lac)(d:PDeed)(ss:lac)(m:List (Int×PStart))(hb:By (mV a i d) true):kC 29 [aV d,.ls (ss.map aJ),.ptr 0 0 0 0,.ptr 1 0 0 0,.ptr 2 0 0 0] (aw [bM a,bM i,Ad s0,bX m,bh d]) (λv1 h=>v1=.tuple []/\h=aw [bM a,bM i,Ad ss,bX m,bh d]):=by
  have hb:mV a i d=true:=hb
  obtain⟨h1,h2⟩:=jj.1 hb
  exact acz a i s0 d ss m h1 h2
noncomputable abbrev Cb(m:List (Int×PStart))(ds:lab)(d:PDeed):lac:=an (al m d.act) d ds
structure DyA(m:List (Int×PStart))(ds:lab)(a i:Int)(r:lab):Prop where
  f:rp (Cb m ds) a i ds []=rp (Cb m ds) a i r []
  ex:∃e,e∈r/\(bg e.it.kind&&mV a i e)=true
structure DyB(m:List (Int×PStart))(ds:lab)(a i:Int)(r:lab)(ss:lac):Prop where
  f:rp (Cb m ds) a i ds []=rp (Cb m ds) a i r ss
theorem no1{a i:Int}{d:PDeed}(h:bg d.it.kind=false):(bg d.it.kind&&mV a i d)=false:=by rw[h];rfl
theorem no2{a i:Int}{d:PDeed}(h:mV a i d=false):(bg d.it.kind&&mV a i d)=false:=by rw[h,qD]
theorem DyA.no{m:List (Int×PStart)}{ds r:lab}{a i:Int}{d:PDeed}(h:DyA m ds a i (d::r))(q:(bg d.it.kind&&mV a i d)=false):DyA m ds a i r:=by
  refine⟨by rw[h.f,Tw q],?_⟩
  obtain⟨e,e1,e2⟩:=h.ex
  rcases dO.1 e1 with rfl|e1
  · rw[q]at e2;cases e2
  · exact⟨e,e1,e2⟩
theorem DyA.new{m:List (Int×PStart)}{ds r:lab}{a i:Int}{d:PDeed}(h:DyA m ds a i (d::r))(q1:bg d.it.kind=true)(q2:mV a i d=true):DyB m ds a i r (Cb m ds d):=⟨by rw[h.f,Tk q1 q2]⟩
theorem DyB.no{m:List (Int×PStart)}{ds r:lab}{a i:Int}{d:PDeed}{ss:lac}(h:DyB m ds a i (d::r) ss)(q:(bg d.it.kind&&mV a i d)=false):DyB m ds a i r ss:=⟨by rw[h.f,Tw q]⟩
theorem DyB.new{m:List (Int×PStart)}{ds r:lab}{a i:Int}{d:PDeed}{ss:lac}(h:DyB m ds a i (d::r) ss)(q1:bg d.it.kind=true)(q2:mV a i d=true):DyB m ds a i r (Cb m ds d):=⟨by rw[h.f,Tk q1 q2]⟩
theorem DyA.absurd{m:List (Int×PStart)}{ds:lab}{a i:Int}(h:DyA m ds a i []):False:=by
  obtain⟨e,e1,_⟩:=h.ex
  cases e1
noncomputable abbrev abf:AV:=.func (.func 29) [] [.ptr 0 0 0 0,.ptr 1 0 0 0,.ptr 2 0 0 0]
def Lj(gs:lal)(L:lah)(a:Int)(i:Int)(x0:Nat×lah×List (Int×PStart)):Prop:=(L).drop x0.1=x0.2.1/\jt L []=jt x0.2.1 x0.2.2
noncomputable def BE(gs:lal)(L:lah)(a:Int)(i:Int)(x0:Nat×lah×List (Int×PStart)):laa×lai:=([AV.ls (gs.map am),AV.func (Fn.func 29) [] [AV.ptr 0 0 0 0,AV.ptr 1 0 0 0,AV.ptr 2 0 0 0],AV.map 3,AV.ls (L.map aa),nV L.length,nV x0.1],[AObj.row 1 false 0 [iV a],AObj.row 1 false 0 [iV i],AObj.row 1 false 0 [AV.nils],AObj.map (bj ax x0.2.2 0) x0.2.2.length])
def Lx(ds:lab)(a:Int)(i:Int)(x0:Nat×lah×List (Int×PStart))(x1:Nat×lab×Unit):Prop:=(ds).drop x1.1=x1.2.1/\DyA x0.2.2 ds a i x1.2.1
noncomputable def BD(ds:lab)(a:Int)(i:Int)(x0:Nat×lah×List (Int×PStart))(x1:Nat×lab×Unit):laa×lai:=([AV.func (Fn.func 29) [] [AV.ptr 0 0 0 0,AV.ptr 1 0 0 0,AV.ptr 2 0 0 0],AV.map 3,AV.ls (ds.map aV),AV.ls (ds.map aV),nV ds.length,nV x1.1],[AObj.row 1 false 0 [iV a],AObj.row 1 false 0 [iV i],AObj.row 1 false 0 [AV.nils],AObj.map (bj ax x0.2.2 0) x0.2.2.length])
def Lz(ds:lab)(a:Int)(i:Int)(x0:Nat×lah×List (Int×PStart))(x1:Nat×lab×lac):Prop:=(ds).drop x1.1=x1.2.1/\DyB x0.2.2 ds a i x1.2.1 x1.2.2
noncomputable def Lq(ds:lab)(a:Int)(i:Int)(x0:Nat×lah×List (Int×PStart))(x1:Nat×lab×lac):laa×lai:=([AV.func (Fn.func 29) [] [AV.ptr 0 0 0 0,AV.ptr 1 0 0 0,AV.ptr 2 0 0 0],AV.map 3,AV.ls (ds.map aV),AV.ls (ds.map aV),nV ds.length,nV x1.1],[AObj.row 1 false 0 [iV a],AObj.row 1 false 0 [iV i],AObj.row 1 false 0 [AV.ls (x1.2.2.map aJ)],AObj.map (bj ax x0.2.2 0) x0.2.2.length])
theorem abo(gs:lal)(L:lah)(ds:lab)(a i:Int)(hL:L.length<10000)(hd:ds.length<100000)(ha:kP 47 [.ls (gs.map am)] (.ls (L.map aa)))(hi:kP 35 [.ls (gs.map am)] (.ls (ds.map aV)))(hE:∃e,e∈ds/\(bg e.it.kind&&mV a i e)=true):
    kD 23 [.ls (gs.map am),abf] (aw [bM a,bM i,iq]) (.tuple []) (aw [bM a,bM i,Ad (rp (Cb (jt L []) ds) a i ds [])]):=by
  have hlk:=ng
  have hup:=oB
  let q5:=[iV a];let q6:=[iV i];let q8:=cX [];let q10:=some (aZ 1 false 0 q6);let q11:=some (aZ 1 false 0 q5);exact Jl Tryz.func23<|Kp 2 ha<|Kl 0 13 (ln aa L)<|Mg 0<|ML (Nat×lah×List (Int×PStart)) [0,1,4,12,13,14] (BE gs L a i) (Lj gs L a i) (λb=>b.2.1.length) (0,L,[]) (aY<|BE gs L a i (0,L,[])) (et (rfl:List.drop 0 (L)=L) (by rfl:(jt L []=jt L []))) λb c d=>let f:=some<|AObj.map (bj ax b.2.2 0) b.2.2.length;Mi (λb c=>jt L []=jt b c) aa c (λ_ c d=>Kh 0 c<|Kp 0 hi<|Kl 2 27 (ln aV ds)<|Mg 0<|MM (Nat×lab×Unit) (Nat×lab×lac) [1,4,7,26,27,28] (BD ds a i b) (Lq ds a i b) (Lx ds a i b) (Lz ds a i b) (λb=>b.2.1.length) (λb=>b.2.1.length) (.inl (0,ds,())) (aY<|BD ds a i b (0,ds,())) (et (rfl:List.drop 0 (ds)=ds) (by(exact⟨rfl,hE⟩):(DyA b.2.2 ds a i ds))) (λc d g=>Mc c.2.1 (λf=>have g:=dm d.1 f;have b:=eM (J:=λc _=>DyA b.2.2 ds a i c) (a:=c.2.2) f d.2;Kh 0 g<|Mw .abs (by exact b.absurd.elim:False)) λh j k=>let l:=[av (dLx h)];let m:=av [iV (al b.2.2 h.act).kind,iV (al b.2.2 h.act).day,aj (al b.2.2 h.act).event];have n:=dI d.1 k;have:=ap n;have o:=dl (enc:=aV) d.1 k;have p:=bT (J:=λc _=>DyA b.2.2 ds a i c) (a:=c.2.2) k d.2;Kt 0 n<|Mx o<|Kp 5 (gP h.it.kind)<|Mb (bg h.it.kind) (λ_=>Ms (mV a i h) (λf=>K1 4 (.look m) (hlk b.2.2 h.act)<|Kp 1 (ec (al b.2.2 h.act) h ds<|by(omega))<|M3 (.efx false q8<|aw [aZ 1 false 0 q5,aZ 1 false 0 q6,aZ 1 false 0 [aW<|(an (al b.2.2 h.act) h ds).map aJ],AObj.map (bj ax b.2.2 0) b.2.2.length,aZ 28 false 0 l]) (od rt (tM b.2.2.length 5<|ay (f:=ax) (λ_=>rfl) b.2.2 0) rt rt rt ti) ti (acC a i h (an (al b.2.2 h.act) h ds) b.2.2 f)<|Kl 0 46 (dQ c.1)<|K1 0 (.frz 4 [1,4,7,26,27,28]) (qh (tM b.2.2.length 4<|ay (f:=ax) (λ_=>rfl) b.2.2 0) rt rt rt ti)<|Mf<|g (.inr (c.1+1,j,an (al b.2.2 h.act) h ds)) (et (aH d.1 k) (by exact p.new (by assumption) (by assumption):(DyB b.2.2 ds a i j (an (al b.2.2 h.act) h ds))))<|cC k) λn=>K1 4 (.look m) (hlk b.2.2 h.act)<|Kp 1 (ec (al b.2.2 h.act) h ds<|by(omega))<|M3 (.efx true q8<|aw [aZ 1 false 0 q5,aZ 1 false 0 q6,aZ 1 false 0 [ah],AObj.map (bj ax b.2.2 0) b.2.2.length,aZ 28 false 0 l]) (od rt (tM b.2.2.length 5<|ay (f:=ax) (λ_=>rfl) b.2.2 0) rt rt rt ti) (od (aY<|some<|aZ 28 false 0 l) (aY f) (aY<|some<|aZ 1 false 0 [ah]) (aY q10) (aY q11) ti) (acE a i h (an (al b.2.2 h.act) h ds) b.2.2 n)<|Kl 0 46 (dQ c.1)<|K1 0 (.frz 4 [1,4,7,26,27,28]) (qh (tM b.2.2.length 4<|ay (f:=ax) (λ_=>rfl) b.2.2 0) rt rt rt ti)<|Mf<|g (.inl (c.1+1,j,())) (et (aH d.1 k) (by exact p.no (no2 (by assumption)):(DyA b.2.2 ds a i j)))<|cC k) λ_=>Kl 0 46 (dQ c.1)<|K1 0 (.frz 4 [1,4,7,26,27,28]) (qh (tM b.2.2.length 4<|ay (f:=ax) (λ_=>rfl) b.2.2 0) rt rt rt ti)<|Mf<|g (.inl (c.1+1,j,())) (et (aH d.1 k) (by exact p.no (no1 (by assumption)):(DyA b.2.2 ds a i j)))<|cC k) λc g h=>let j:=[aW<|c.2.2.map aJ];Mc c.2.1 (λf=>have h:=dm g.1 f;have f:=eM (J:=λc d=>DyB b.2.2 ds a i c d) (a:=c.2.2) f g.2;Kh 0 h<|M1 (.frz 3 []) (jp rt rt rt ti)<|Mf<|et (aY q8) (by(have q:=f.f;rw[show jt L []=b.2.2 from d,q];rfl):(aw [AObj.row 1 false 0 [iV a],AObj.row 1 false 0 [iV i],AObj.row 1 false 0 [AV.ls (c.2.2.map aJ)]])=(aw [bM a,bM i,Ad (rp (Cb (jt L []) ds) a i ds [])]))) λd k l=>let m:=[av (dLx d)];let n:=av [iV (al b.2.2 d.act).kind,iV (al b.2.2 d.act).day,aj (al b.2.2 d.act).event];have o:=dI g.1 l;have:=ap o;have p:=dl (enc:=aV) g.1 l;have r:=bT (J:=λc d=>DyB b.2.2 ds a i c d) (a:=c.2.2) l g.2;Kt 0 o<|Mx p<|Kp 5 (gP d.it.kind)<|Mb (bg d.it.kind) (λ_=>Ms (mV a i d) (λf=>K1 4 (.look n) (hlk b.2.2 d.act)<|Kp 1 (ec (al b.2.2 d.act) d ds<|by(omega))<|M3 (.efx false q8<|aw [aZ 1 false 0 q5,aZ 1 false 0 q6,aZ 1 false 0 [aW<|(an (al b.2.2 d.act) d ds).map aJ],AObj.map (bj ax b.2.2 0) b.2.2.length,aZ 28 false 0 m]) (od rt (tM b.2.2.length 5<|ay (f:=ax) (λ_=>rfl) b.2.2 0) rt rt rt ti) ti (acB a i c.2.2 d (an (al b.2.2 d.act) d ds) b.2.2 f)<|Kl 0 46 (dQ c.1)<|K1 0 (.frz 4 [1,4,7,26,27,28]) (qh (tM b.2.2.length 4<|ay (f:=ax) (λ_=>rfl) b.2.2 0) rt rt rt ti)<|Mf<|h (.inr (c.1+1,k,an (al b.2.2 d.act) d ds)) (et (aH g.1 l) (by exact r.new (by assumption) (by assumption):(DyB b.2.2 ds a i k (an (al b.2.2 d.act) d ds))))<|cC l) λo=>K1 4 (.look n) (hlk b.2.2 d.act)<|Kp 1 (ec (al b.2.2 d.act) d ds<|by(omega))<|M3 (.efx true q8<|aw [aZ 1 false 0 q5,aZ 1 false 0 q6,aZ 1 false 0 j,AObj.map (bj ax b.2.2 0) b.2.2.length,aZ 28 false 0 m]) (od rt (tM b.2.2.length 5<|ay (f:=ax) (λ_=>rfl) b.2.2 0) rt rt rt ti) (od (aY<|some<|aZ 28 false 0 m) (aY f) (aY<|some<|aZ 1 false 0 j) (aY q10) (aY q11) ti) (acD a i c.2.2 d (an (al b.2.2 d.act) d ds) b.2.2 o)<|Kl 0 46 (dQ c.1)<|K1 0 (.frz 4 [1,4,7,26,27,28]) (qh (tM b.2.2.length 4<|ay (f:=ax) (λ_=>rfl) b.2.2 0) rt rt rt ti)<|Mf<|h (.inr (c.1+1,k,c.2.2)) (et (aH g.1 l) (by exact r.no (no2 (by assumption)):(DyB b.2.2 ds a i k c.2.2)))<|cC l) λ_=>Kl 0 46 (dQ c.1)<|K1 0 (.frz 4 [1,4,7,26,27,28]) (qh (tM b.2.2.length 4<|ay (f:=ax) (λ_=>rfl) b.2.2 0) rt rt rt ti)<|Mf<|h (.inr (c.1+1,k,c.2.2)) (et (aH g.1 l) (by exact r.no (no1 (by assumption)):(DyB b.2.2 ds a i k c.2.2)))<|cC l) λf g h j _ k l=>Kt 0 j<|Mx k<|K1 7 (.upd (bj ax (gk f.number f.start b.2.2) 0) (gk f.number f.start b.2.2).length) (hup b.2.2 f)<|Kl 0 23 (dQ b.1)<|K1 0 (.frz 4 [0,1,4,12,13,14]) (qh (tM (gk f.number f.start b.2.2).length 4<|ay (f:=ax) (λ_=>rfl) (gk f.number f.start b.2.2) 0) rt rt rt ti)<|Mf<|d (b.1+1,g,gk f.number f.start b.2.2) (et (aH c.1 h) (by exact l:(jt L []=jt g (gk f.number f.start b.2.2))))<|cC h
theorem Zy(gs:lal)(a i:Int)(X:lac)(hc:kD 23 [.ls (gs.map am),abf] (aw [bM a,bM i,iq]) (.tuple []) (aw [bM a,bM i,Ad X])):kP 11 [iV a,iV i,.ls (gs.map am)] (.ls (X.map aJ)):=by
  exact bH Tryz.func11<|Ke 5 hc<|Kf 1<|bA<|aW<|X.map aJ
noncomputable def I8(s:PSpan):lak:=match aE s.to 1048577 with|true=>[s.from_,s.to]|false=>[s.from_]
noncomputable def ct:lac->lak
  |[]=>[]
  |s::r=>I8 s++ct r
theorem BN{s:PSpan}(h:aE s.to 1048577=true):I8 s=[s.from_,s.to]:=by simp only[I8,h]
theorem BO{s:PSpan}(h:aE s.to 1048577=false):I8 s=[s.from_]:=by simp only[I8,h]
theorem TI(s:PSpan):(I8 s).length<=2:=by unfold I8;cases aE s.to 1048577<;>simp
theorem Ew:∀(l:lac),(ct l).length<=2*l.length
  |[]=>ar _
  | s::r=>by
    have:=Ew r;have:=TI s
    simp only[ct,lA,lC];omega
theorem Ct(l:lac)(hl:l.length<2^30):kP 86 [.ls (l.map aJ)] (.ls ((ct (ej l)).map af)):=by
  have hn:=fC l hl
  have hq:=(lx l).len
  generalize ej l=N at *
  have rr0 b' (h:((ct N).map af)=b':=by first|rfl|exact aX LZ _|(rw[hj0];rfl)|(rw[hj0.2.2];simp[ct])):=h;exact bH Tryz.func86<|Kp 2 hn<|Kl 0 8 (ln aJ N)<|Mg 0<|ky Nat Nat lak aJ N [3,7,8,9] (λa _=>([ah,aW<|N.map aJ,nV N.length,nV a],[])) (λa _ b c d=>([aM 0 b 0 c none,aW<|N.map aJ,nV N.length,nV a],[aZ 1 true b<|d.map af])) (λa=>ct N=ct a) (λa _ b c=>b=c.length/\c.length+2*a.length<=2^21+10/\ct N=c++ct a) (by rfl) (λ_ _ _ _ _ a hj0=>Kh 0 a<|Kf 1 (Le.lsn<|rr0 []:Le _ (ah))) (λa _ b _ c d _ e f g _ i hj0=>Kt 0 g<|Mx i<|Ka 11 c.to 1048577 (λ_ _=>Kl 6 26 (dQ a)<|Mg 0<|M0 (.ren [1,0] [] [3,7,8,9])<|M1 (.frz 1 [3,7,8,9]) (et rt ti)<|Mf<|e 1 2 [c.from_,c.to]<|by exact⟨rfl,by(have:=gC b f;simp only[lC,lN]<;>(omega)),by rw[hj0,ct];first|rw[BN (by assumption)]|rw[BO (by assumption)]⟩) λ_ _=>Kl 0 26 (dQ a)<|Mg 0<|M0 (.ren [1,0] [] [3,7,8,9])<|M1 (.frz 1 [3,7,8,9]) (et rt ti)<|Mf<|e 0 1 [c.from_]<|by exact⟨rfl,by(have:=gC b f;simp only[lC,lN]<;>(omega)),by rw[hj0,ct];first|rw[BN (by assumption)]|rw[BO (by assumption)]⟩) (λ_ _ a b c _ _ _ d hj0=>Kh 0 d<|Mg 1<|M2 (.fsl 0 [] 2<|c.map af) ti (cL (aY a) (tA af c b (by(omega):(c).length=b))<|aX LZ c)<|Ml 2 (fe (c.map af) false<|aX LZ c)<|Mf<|ch<|rr0<|c.map af) λa _ b c d _ _ e f _ g _ i _ j hj0=>Kt 0 i<|Mx j<|K1 6 .app (cL (aY b) (by(rw[lM];exact hj0.1):c=(d.map af).length) (by(have z:=hj0.2.1;refine c8 (m:=2^22) ?_ ?_ ?_<;>first|(omega)|(simp only[lA,lC,lN]<;>(first|omega|(simp only[oN]at *;omega)))):small (c+1) 8=true))<|M1 (.obj 0<|aZ 1 true (b+1)<|(d++[e.from_]).map af) (congrArg (aZ 1 true<|b+1)<|cO (f:=af) (l:=d) (ws:=[e.from_]))<|Ka 3 e.to 1048577 (λ_ _=>K1 3 .app (cL (aY<|b+1) (by(simp only[lM,lA,lC,lN]<;>(omega)):c+1=((d++[e.from_]).map af).length) (by(have z:=hj0.2.1;refine c8 (m:=2^22) ?_ ?_ ?_<;>first|(omega)|(simp only[lA,lC,lN]<;>(first|omega|(simp only[oN]at *;omega)))):small (c+1+1) 8=true))<|M1 (.obj 0<|aZ 1 true (b+1+1)<|(d++[e.from_]++[e.to]).map af) (congrArg (aZ 1 true<|b+1+1)<|cO (f:=af) (l:=d++[e.from_]) (ws:=[e.to]))<|Kl 1 26 (dQ a)<|K1 0 (.frz 1 [3,7,8,9]) (et (tR 1 true (b+1+1) 1<|aX LZ<|d++[e.from_]++[e.to]) ti)<|Mf<|g (b+1+1) (c+1+1) (d++[e.from_]++[e.to])<|by exact⟨by(simp only[lA,lC,lN]<;>(omega)),by(have z:=hj0.2.1;simp only[lA,lC,lN]at * <;>(omega)),by rw[hj0.2.2,ct];first|(rw[BN (by assumption)];simp)|(rw[BO (by assumption)];simp)⟩) λ_ _=>Kl 0 26 (dQ a)<|K1 0 (.frz 1 [3,7,8,9]) (et (tR 1 true (b+1) 1<|aX LZ<|d++[e.from_]) ti)<|Mf<|g (b+1) (c+1) (d++[e.from_])<|by exact⟨by(simp only[lA,lC,lN]<;>(omega)),by(have z:=hj0.2.1;simp only[lA,lC,lN]at * <;>(omega)),by rw[hj0.2.2,ct];first|(rw[BN (by assumption)];simp)|(rw[BO (by assumption)];simp)⟩
noncomputable abbrev n9:AObj:=.row 1 false 0 [.ps [iV 0] true]
noncomputable abbrev jB(i ep n:Nat):AObj:=.row 1 false 0 [.slice i ep 0 n none]
theorem RH{α:Type}{f:α->AV}{l:List α}(h:0<l.length):l.map f≠[]:=by
  intro e;have:=congrArg List.length e;simp at this;subst this;simp at h
noncomputable def BH(m:List (Int×PStart))(ds:lab)(d:PDeed):lak:=match bg d.it.kind with|true=>ct (an (al m d.act) d ds)|false=>[]
noncomputable def ji(m:List (Int×PStart))(ds:lab):lab->lak
  |[]=>[]
  |d::r=>BH m ds d++ji m ds r
theorem BM(s:PStart)(d:PDeed)(l:lab):kP 86 [.ls ((an s d l).map aJ)] (.ls ((ct (an s d l)).map af)):=by
  have hn:=iJ s d l
  have h:=Ct (an s d l) (mR hn.len (by decide))
  have e:ej (an s d l)=an s d l:=(NX hn).symm
  rwa[e]at h
theorem uV{m:List (Int×PStart)}{ds r:lab}{d:PDeed}(h:bg d.it.kind=true):ji m ds (d::r)=ct (an (al m d.act) d ds)++ji m ds r:=by simp only[ji,BH,h]
theorem La{m:List (Int×PStart)}{ds r:lab}{d:PDeed}(h:bg d.it.kind=false):ji m ds (d::r)=ji m ds r:=by simp only[ji,BH,h,xj]
theorem rA(s:PStart)(d:PDeed)(l:lab):(ct (an s d l)).length<=2^22:=by
  have h:=Ew (an s d l);have:=(iJ s d l).len;omega
theorem R9{B:lak}(h:B.isEmpty=true):B.length=0:=by rw[tQ.1 h];rfl
theorem XH{B:lak}(h:B.isEmpty=false):0<B.length:=by
  cases B with
  |nil=>cases h
  |cons a r=>exact pU _
theorem I0{B X:lak}(h:B.isEmpty=true):B++X=X:=by rw[tQ.1 h];rfl
noncomputable def bE(m:List (Int×PStart))(ds:lab)(d:PDeed):Nat:=match(BH m ds d).isEmpty with|true=>0|false=>1
noncomputable def ql(m:List (Int×PStart))(ds:lab):lab->Nat
  |[]=>0
  |d::r=>bE m ds d+ql m ds r
theorem abx{m:List (Int×PStart)}{ds:lab}{d:PDeed}(h:bg d.it.kind=false):bE m ds d=0:=by simp only[bE,BH,h];rfl
theorem abw{m:List (Int×PStart)}{ds:lab}{d:PDeed}(h:bg d.it.kind=true)(h2:(ct (an (al m d.act) d ds)).isEmpty=true):bE m ds d=0:=by simp only[bE,BH,h,h2]
theorem aby{m:List (Int×PStart)}{ds:lab}{d:PDeed}(h:bg d.it.kind=true)(h2:(ct (an (al m d.act) d ds)).isEmpty=false):bE m ds d=1:=by simp only[bE,BH,h,h2]
structure BrkA(m:List (Int×PStart))(ds r:lab):Prop where
  f:ji m ds ds=ji m ds r
  e:ql m ds ds=ql m ds r
structure BrkB(m:List (Int×PStart))(ds r:lab)(ep n:Nat)(out:lak):Prop where
  len:n=out.length
  small:out.length+2^22*r.length<=2^22*ds.length+1
  f:[0]++ji m ds ds=out++ji m ds r
  e:ql m ds ds=ep+1+ql m ds r
theorem BrkA.no{m:List (Int×PStart)}{ds r:lab}{d:PDeed}(h:BrkA m ds (d::r))(ha:bg d.it.kind=false):BrkA m ds r:=⟨by rw[h.f,La ha],by rw[h.e];simp only[ql,abx ha,fx]⟩
theorem BrkA.nil{m:List (Int×PStart)}{ds r:lab}{d:PDeed}(h:BrkA m ds (d::r))(ha:bg d.it.kind=true)(hb:(ct (an (al m d.act) d ds)).isEmpty=true):BrkA m ds r:=⟨by rw[h.f,uV ha,I0 hb],by rw[h.e];simp only[ql,abw ha hb,fx]⟩
theorem BrkA.new{m:List (Int×PStart)}{ds r:lab}{d:PDeed}{n:Nat}(h:BrkA m ds (d::r))(hl:(d::r).length<=ds.length)(ha:bg d.it.kind=true)(hb:(ct (an (al m d.act) d ds)).isEmpty=false)(hn:n=(([0]++ct (an (al m d.act) d ds)).map af).length):BrkB m ds r 0 n ([0]++ct (an (al m d.act) d ds)):=by
  have:=rA (al m d.act) d ds
  refine⟨by rw[hn,lM],by(rw[lA];simp only[lC,lN]at *;omega),by rw[h.f,uV ha,iQ],by rw[h.e];show bE m ds d+ql m ds r=_;rw[aby ha hb]⟩
theorem BrkB.no{m:List (Int×PStart)}{ds r:lab}{d:PDeed}{ep n:Nat}{out:lak}(h:BrkB m ds (d::r) ep n out)(ha:bg d.it.kind=false):BrkB m ds r ep n out:=⟨h.len,by have:=h.small;simp only[lC]at this;omega,by rw[h.f,La ha],by rw[h.e];simp only[ql,abx ha,fx]⟩
theorem BrkB.nil{m:List (Int×PStart)}{ds r:lab}{d:PDeed}{ep n:Nat}{out:lak}(h:BrkB m ds (d::r) ep n out)(ha:bg d.it.kind=true)(hb:(ct (an (al m d.act) d ds)).isEmpty=true):BrkB m ds r ep n out:=⟨h.len,by have:=h.small;simp only[lC]at this;omega,by rw[h.f,uV ha,I0 hb],by rw[h.e];simp only[ql,abw ha hb,fx]⟩
theorem BrkB.new{m:List (Int×PStart)}{ds r:lab}{d:PDeed}{ep n k:Nat}{out:lak}(h:BrkB m ds (d::r) ep n out)(ha:bg d.it.kind=true)(hb:(ct (an (al m d.act) d ds)).isEmpty=false)(hk:k=n+((ct (an (al m d.act) d ds)).map af).length):BrkB m ds r (ep+1) k (out++ct (an (al m d.act) d ds)):=by
  have:=rA (al m d.act) d ds
  refine⟨by rw[hk,h.len,lM,lA],by(have:=h.small;simp only[lA,lC]at *;omega),by rw[h.f,uV ha,iQ],by rw[h.e];simp only[ql,aby ha hb];omega⟩
theorem BrkB.done{m:List (Int×PStart)}{ds:lab}{ep n:Nat}{out:lak}(h:BrkB m ds [] ep n out):ep=ql m ds ds-1/\n=([0]++ji m ds ds).length/\out=[0]++ji m ds ds:=by
  have e1:=h.f
  simp only[ji,eu]at e1
  have e2:=h.e
  simp only[ql]at e2
  exact⟨by omega,by rw[e1];exact h.len,e1.symm⟩
noncomputable def Xr:Option (AV×AHeap)->Bool
  |some (.tuple [],_)=>true
  |_=>false
noncomputable def Xp:Option (AV×AHeap)->Bool
  |some (.ps [.int .i64 n] true,_)=>ae n 0
  |_=>false
theorem WG{f:FuncId}{a:laa}(k:Nat)(ht:az a=0)(h:Xr (fF C k f a AHeap.none)=true):kP f a (.tuple []):=by
  cases hx:fF C k f a AHeap.none with
  |none=>rw[hx]at h;cases h
  | some r=>
    obtain⟨v,h1⟩:=r
    rw[hx]at h
    have e:v=.tuple []:=by
      unfold Xr at h
      split at h
      · rename_i q;cases q;rfl
      · cases h
    subst e
    exact lg gM ht rfl ((aO.of (ev k) hx).mono λv1 _ e=>e.1)
theorem WF{f:FuncId}{a:laa}(k:Nat)(ht:az a=0)(h:Xp (fF C k f a AHeap.none)=true):aP Tryz.prog G f a (.ps [.int .i64 0] true):=by
  cases hx:fF C k f a AHeap.none with
  |none=>rw[hx]at h;cases h
  | some r=>
    obtain⟨v,h1⟩:=r
    rw[hx]at h
    have e:v=.ps [.int .i64 0] true:=by
      unfold Xp at h
      split at h
      · rename_i q;cases q;rw[jE h]
      · cases h
    subst e
    exact lg gM ht rfl ((aO.of (ev k) hx).mono λv1 _ e=>e.1)
theorem QO:kP 87 [.ps [iV 0] true] (.tuple []):=WG 60 rfl (by kernel_rfl)
theorem IF:aP Tryz.prog G 88 [.ps [.int .i64 0] true] (.ps [.int .i64 0] true):=WF 60 rfl (by kernel_rfl)
theorem Ol(X:lak):(cT X).length=X.length:=(List.mergeSort_perm X _).length_eq
noncomputable def PM(gs:lal):lak:=ji (jt (dR gs) []) (eR gs) (eR gs)
noncomputable def dM(gs:lal):lak:=bW (cT ([0]++PM gs))
theorem I7:∀{l:lac},(∀s,s∈l->0<=s.from_/\s.from_<s.to/\s.to<=1048577)->∀z,z∈ct l->0<=z/\z<1048577
  | s::r,h,z,hz=>by
    have hs:=h s (dr ..)
    rw[ct]at hz
    rcases ie.1 hz with q|q
    · unfold I8 at q
      cases e:aE s.to 1048577<;>rw[e]at q
      · simp at q;omega
      · have:=ap e;simp at q;omega
    · exact I7 (λx hx=>h x (di _ hx)) z q
theorem N4(m:List (Int×PStart))(ds:lab):∀(r:lab)(z:Int),z∈ji m ds r->0<=z/\z<1048577
  | d::r,z,hz=>by
    rw[ji]at hz
    rcases ie.1 hz with q|q
    · unfold BH at q
      cases e:bg d.it.kind<;>rw[e]at q
      · cases q
      · exact I7 (iJ _ _ _).ok z q
    · exact N4 m ds r z q
theorem EA{l:lak}{z:Int}:z∈bW (cT l)↔z∈l:=((uK (pb l)).2 z).trans (jR l).mem_iff
theorem Eu(l:lak):(bW (cT l)).Pairwise (λa b=>a<b):=(uK (pb l)).1
theorem zY(gs:lal):∀z,z∈dM gs->0<=z/\z<1048577:=λz hz=>by
  rcases ie.1 (EA.1 hz)with q|q
  · rw[jr]at q;omega
  · exact N4 _ _ _ z q
theorem ZB(gs:lal):(0:Int)∈dM gs:=EA.2 (ux _ (jr.2 rfl))
theorem TC{gs:lal}{z:Int}(h:z∈PM gs):z∈dM gs:=EA.2 (qJ _ h)
theorem Y2{l:lak}(hp:l.Pairwise (λa b=>a<b))(hb:∀z,z∈l->0<=z)(h0:(0:Int)∈l):∃r,l=0::r:=by
  cases l with
  |nil=>cases h0
  | cons a r=>
    rcases dO.1 h0 with q|q
    · exact⟨r,by rw[<-q]⟩
    · have:=(iN.1 hp).1 0 q
      have:=hb a (dr ..)
      omega
theorem GS:∀{l:lak}{lo hi:Int},l.Pairwise (λa b=>a<b)->(∀z,z∈l->lo<=z/\z<hi)->lo<=hi->(Int.ofNat l.length)<=hi-lo
  |[],lo,hi,_,_,h=>by simp only[lN,oN];omega
  | a::r,lo,hi,hp,hb,h=>by
    obtain⟨h1,h2⟩:=iN.1 hp
    obtain⟨q1,q2⟩:=hb a (dr ..)
    have:=GS (lo:=a+1) (hi:=hi) h2 (λz hz=>⟨by have:=h1 z hz;omega,(hb z (di _ hz)).2⟩) (by omega)
    simp only[lC,oN]at *;omega
theorem TB(gs:lal):(dM gs).length<=1048577:=by
  have:=GS (Eu _) (zY gs) (by omega)
  simp only[oN]at this
  show(bW (cT ([0]++PM gs))).length<=_
  omega
theorem N6:∀{l:lac}{s:PSpan},s∈l->s.from_∈ct l/\(aE s.to 1048577=true->s.to∈ct l)
  | a::r,s,h=>by
    rw[ct]
    rcases dO.1 h with rfl|h
    · cases e:aE s.to 1048577 with
      |true=>rw[BN e];simp
      |false=>rw[BO e];simp
    · obtain⟨k1,k2⟩:=N6 h
      exact⟨qJ _ k1,λe=>qJ _ (k2 e)⟩
theorem Di{l:lac}(h:NrmS l){x y d:Int}(hz:∀z,z∈ct l->z<=x\/y<=z)(hy:y<=1048577)(h1:x<=d)(h2:d<y):gT l d=gT l x:=by
  rw[y6 h,y6 h]
  have key:∀s,s∈l->((s.from_<=d/\d<s.to)↔(s.from_<=x/\x<s.to)):=λs hs=>by
    obtain⟨k1,k2⟩:=N6 hs
    have k3:=hz _ k1
    have k4:=(h.ok s hs).2.2
    cases e:aE s.to 1048577 with
    |true=>have:=hz _ (k2 e);omega
    |false=>have:=aI e;omega
  rw[zd,gv,gv]
  grind
theorem Dk(p:bZ)(m:List (Int×PStart))(ds:lab){x y d:Int}(hy:y<=1048577)(h1:x<=d)(h2:d<y):∀(r:lab),(∀z,z∈ji m ds r->z<=x\/y<=z)->rY d p m ds r=rY x p m ds r
  |[],_=>rfl
  | e::r,h=>by
    have ih:=Dk p m ds hy h1 h2 r λz hz=>h z (by rw[ji];exact qJ _ hz)
    cases ha:bg e.it.kind with
    |false=>rw[HQ ha,HQ ha,ih]
    | true=>
      have hb:xt d p m ds e=xt x p m ds e:=by
        unfold xt
        rw[Di (iJ _ _ _) (λz hz=>h z (by rw[uV ha];exact ux _ hz)) hy h1 h2]
      cases q:xt x p m ds e with
      |true=>rw[G9 ha q,G9 ha (hb.trans q),ih]
      |false=>rw[Dj q,Dj (hb.trans q),ih]
theorem E0(p:bZ)(m:List (Int×PStart))(ds:lab){d:Int}(h:d<0\/1048576<d):∀(r:lab),rY d p m ds r=[]
  |[]=>rfl
  | e::r=>by
    have ih:=E0 p m ds h r
    have hb:xt d p m ds e=false:=by
      unfold xt
      rw[RF (iJ _ _ _) h,qD]
    rw[Dj hb,ih]
def Nd(l:lah):Prop:=(l.map (·.number)).Nodup
theorem Um{out:lah}{a:PAct}(h:Nd out):Nd (js out a):=by
  unfold js
  cases q:g0 a.number (out.map λb=>(b.number,true))with
  |some v=>exact h
  | none=>
    unfold Nd
    rw[mT,zi]
    refine⟨h,by simp,λx hx y hy=>?_⟩
    obtain⟨b,hb,rfl⟩:=iO.1 hx
    simp only[eT,xK,jr]at hy
    rw[hy];exact oT (out:=out) q b hb
theorem Gf:∀(ys out:lah),Nd out->Nd (ys.foldl js out)
  |[],_,h=>h
  |_::r,_,h=>Gf r _ (Um h)
theorem DH:∀(gs:lal)(out:lah),Nd out->Nd (bv gs out)
  |[],_,h=>h
  |g::r,_,h=>DH r _ (Gf g.acts _ h)
theorem Xv(gs:lal):(dR gs).Pairwise λa b=>fp a b=true:=by
  have h1:=(ug jX (bv gs []) [] .nil).2
  have h2:Nd (dR gs):=((j8 gs).map _).nodup_iff.2 (DH gs [] (by simp[Nd]))
  have h3:(dR gs).Pairwise λa b=>a.number≠b.number:=List.pairwise_map.1 h2
  refine(List.Pairwise.and h1 h3).imp λ{a b} h=>?_
  obtain⟨p,q⟩:=h
  rw[lf]
  rw[<-Bool.not_eq_true,lf]at p
  omega
def Z3(d e:PDeed):Prop:=d.day<e.day\/(d.day=e.day/\(d.act<e.act\/(d.act=e.act/\d.item<e.item)))
theorem nG(a:PAct):∀(l:lat)(i:Nat),(cJ a l i).Pairwise Z3/\∀d,d∈cJ a l i->d.act=a.number/\d.day=a.day/\Int.ofNat i<=d.item
  |[],_=>⟨.nil,λ_ h=>by cases h⟩
  | x::r,i=>by
    obtain⟨h1,h2⟩:=nG a r (i+1)
    refine⟨.cons (λd hd=>?_) h1,λd hd=>?_⟩
    · obtain⟨q1,q2,q3⟩:=h2 d hd
      exact .inr ⟨q2.symm,.inr ⟨q1.symm,by simp only[oN]at *;omega⟩⟩
    · rcases dO.1 hd with rfl|hd
      · exact⟨rfl,rfl,so _⟩
      · obtain⟨q1,q2,q3⟩:=h2 d hd
        exact⟨q1,q2,by simp only[oN]at *;omega⟩
theorem yx:∀(L:lah),(L.Pairwise λa b=>fp a b=true)->(kR L).Pairwise Z3
  |[],_=>.nil
  | a::r,h=>by
    cases h with
    | cons h1 h2=>
      rw[kR,CD,List.pairwise_append]
      refine⟨(nG a _ 0).1,yx r h2,λd hd e he=>?_⟩
      obtain⟨b,hb,he⟩:=List.mem_flatMap.1 he
      have z:=(lf a b).1 (h1 b hb)
      obtain⟨p1,p2,_⟩:=(nG a _ 0).2 d hd
      obtain⟨q1,q2,_⟩:=(nG b _ 0).2 e he
      unfold Z3;omega
theorem KN(m:uz)(d:PDeed):(lT m d).act=d.act/\(lT m d).item=d.item/\(lT m d).day=d.day:=by
  unfold lT;split<;>exact⟨rfl,rfl,rfl⟩
theorem QZ{gs:lal}{a b:PAct}(ha:a∈dR gs)(hb:b∈dR gs)(e:a.number=b.number):a=b:=
  rg gs [] (λ_ _ h=>by cases h) a b ((j8 gs).mem_iff.1 ha) ((j8 gs).mem_iff.1 hb) e
def Ne2(d e:PDeed):Prop:=(d.act,d.item)≠(e.act,e.item)
theorem Yh{X:lab}(h:X.Pairwise Z3)(hd:∀d e,d∈X->e∈X->d.act=e.act->d.day=e.day):X.Pairwise Ne2:=h.imp_of_mem λ{d e} h1 h2 q e2=>by
  simp only[sr]at e2
  have:=hd d e h1 h2 e2.1
  unfold Z3 at q;omega
theorem XK(u v:TUnit)(d:PDeed)(e:Int)(he:ae e 0=false)(hA:kP 42 [eU u,aV d] (.tuple [eU v,iV e])):kP 22 [eU u,aV d] (.ls []):=by
  exact bH Tryz.func22<|Kp 4 hA<|Kt 7 (cM he)<|Kf 0 bI
theorem XV(u v x:TUnit)(d:PDeed)(id:PId)(e2:Int)(l:lam)(hk:ae d.it.kind 0=true)(hA:kP 42 [eU u,aV d] (.tuple [eU v,iV 0]))(hF:kP 43 [eU u,.ls (d.it.at_.map aq)] (.tuple [aK id,iV e2]))(hS:kP 45 [eU d.it.unit,iV d.act,iV d.item] (eU x))(hI:kP 44 [eU x] (.ls (l.map aK))):kP 22 [eU u,aV d] (.ls (l.map aK)):=by
  exact bH Tryz.func22<|Kp 4 hA<|Kp 12 hF<|Kt 10 hk<|Kp 6 hS<|Mp hI<|Kf 0<|bA<|aW<|l.map aK
theorem XJ(u v x:TUnit)(d:PDeed)(id:PId)(e2:Int)(b:Bool)(l:lam)(hk:ae d.it.kind 0=false)(hk1:ae d.it.kind 1=true)(hA:kP 42 [eU u,aV d] (.tuple [eU v,iV 0]))(hF:kP 43 [eU u,.ls (d.it.at_.map aq)] (.tuple [aK id,iV e2]))(hX:kP 46 [eU u,aK id] (.tuple [eU x,.bool b]))(hI:kP 44 [eU x] (.ls (l.map aK))):kP 22 [eU u,aV d] (.ls (l.map aK)):=by
  exact bH Tryz.func22<|Kp 4 hA<|Kp 12 hF<|Kh 10 hk<|Kt 1 hk1<|Kp 1 hX<|Kp 6 hI<|Kf 0<|bA<|aW<|l.map aK
theorem XY(u v:TUnit)(d:PDeed)(id:PId)(e2:Int)(hk:ae d.it.kind 0=false)(hk1:ae d.it.kind 1=false)(hA:kP 42 [eU u,aV d] (.tuple [eU v,iV 0]))(hF:kP 43 [eU u,.ls (d.it.at_.map aq)] (.tuple [aK id,iV e2])):kP 22 [eU u,aV d] (.ls ([id].map aK)):=by
  let q:=[av [iV id.a,iV id.i,iV id.n]];exact bH Tryz.func22<|Kp 4 hA<|Kp 12 hF<|Kh 10 hk<|Kh 1 hk1<|Kf 2 (fe q _<|by rfl:Le _ (AV.ps q true))
theorem SC{u:TUnit}(hu:OkB u)(p:PId):nU (cH p u)<=1024:=by
  have hn:=hu.n
  cases h:bG p u with
  |true=>have:=dT (iH h).1;omega
  |false=>unfold cH;rw[h];exact b0 (by decide:nU bo<=1) (by decide)
theorem Lo(u:TUnit)(d:PDeed)(h1:OkB u)(h2:og d.it)(h3:jl d.it.kind=true):kP 22 [eU u,aV d] (.ls ((yo u d (eS u d).2).map aK)):=by
  have hA:=B6 u d h1 h2 h3
  have hF:=uM h1 d.it.at_ h2.2.1
  cases he:ae (eS u d).2 0 with
  |false=>unfold yo;rw[he];exact XK u _ d _ he hA
  | true=>
    rw[jE he]at hA
    unfold yo nM;rw[he]
    cases hk:ae d.it.kind 0 with
    | true=>
      have ht:=h2.2.2.2.2.2.2.2.2
      exact XV u _ _ d _ _ _ hk hA hF (Gp d.act d.item d.it.unit (b0 ht.1 (by decide)) (Gg ht) λx hx=>⟨b0 (ht.2 x hx).1 (by decide),b0 (ht.2 x hx).2.1 (by decide)⟩) (HG _ (by rw[zM];have:=ht.1;omega))
    | false=>
      cases hk1:ae d.it.kind 1 with
      |true=>exact XJ u _ _ d _ _ _ _ hk hk1 hA hF (uX h1 _) (HG _ (by have:=SC h1 (aC u d.it.at_).1;omega))
      |false=>exact XY u _ d _ _ hk hk1 hA hF
abbrev g9:=lam×List (PId×Bool)
noncomputable def Jq(s:g9)(x:PId):g9:=(bif qp ao x s.2 then s.1 else s.1++[x],cQ ao x true s.2)
noncomputable def rB(s:g9)(W:lam):g9:=W.foldl Jq s
theorem v9(s:g9)(x:PId)(r:lam):rB s (x::r)=rB (Jq s x) r:=rfl
theorem abL{out:lam}{m:List (PId×Bool)}{x:PId}(h:qp ao x m=true):Jq (out,m) x=(out,cQ ao x true m):=by unfold Jq;rw[h];rfl
theorem abM{out:lam}{m:List (PId×Bool)}{x:PId}(h:qp ao x m=false):Jq (out,m) x=(out++[x],cQ ao x true m):=by unfold Jq;rw[h];rfl
theorem Xj(s:g9)(x:PId):s.1.length<=(Jq s x).1.length/\(Jq s x).1.length<=s.1.length+1:=by
  unfold Jq
  cases qp ao x s.2
  · show s.1.length<=(s.1++[x]).length/\(s.1++[x]).length<=_;rw[lA,LG];omega
  · show s.1.length<=s.1.length/\s.1.length<=_;omega
theorem v8:∀(W:lam)(s:g9),s.1.length<=(rB s W).1.length/\(rB s W).1.length<=s.1.length+W.length
  |[],s=>⟨ar _,ar _⟩
  | x::r,s=>by
    have h1:=Xj s x
    have h2:=v8 r (Jq s x)
    rw[v9,lC];omega
structure AfI(s0:g9)(W r:lam)(ep n:Nat)(out:lam)(m:List (PId×Bool)):Prop where
  hn:n=out.length
  he:ep+1=n
  le:n+r.length<=s0.1.length+W.length
  f:rB s0 W=rB (out,m) r
theorem AfI.first{w:PId}{W r:lam}{n:Nat}{m m0:List (PId×Bool)}(h0:m0=[])(h:w::r=W)(hn:n=1)(hm:m=cQ ao w true m0):AfI ([],m0) W r 0 n [w] m:=by
  subst h;subst hn;subst hm;subst h0
  exact⟨rfl,rfl,by simp only[lC,lN];omega,rfl⟩
theorem AfI.old{s0:g9}{W r out:lam}{m m2:List (PId×Bool)}{w:PId}{ep n:Nat}(h:AfI s0 W (w::r) ep n out m)(q:qp ao w m=true)(hm:m2=cQ ao w true m):AfI s0 W r ep n out m2:=by
  have:=h.le
  subst hm
  exact⟨h.hn,h.he,by simp only[lC]at this;omega,by rw[h.f,v9,abL q]⟩
theorem AfI.new{s0:g9}{W r out:lam}{m m2:List (PId×Bool)}{w:PId}{ep n e2 n2:Nat}(h:AfI s0 W (w::r) ep n out m)(q:qp ao w m=false)(h1:e2=ep+1)(h2:n2=n+1)(hm:m2=cQ ao w true m):AfI s0 W r e2 n2 (out++[w]) m2:=by
  have:=h.le
  have:=h.hn
  have:=h.he
  subst hm
  exact⟨by rw[lA,LG];omega,by omega,by simp only[lC]at *;omega,by rw[h.f,v9,abM q]⟩
theorem AfI.done{s0:g9}{W out:lam}{m:List (PId×Bool)}{ep n:Nat}(h:AfI s0 W [] ep n out m):out=(rB s0 W).1/\m=(rB s0 W).2/\n=(rB s0 W).1.length/\ep=(rB s0 W).1.length -1:=by
  have e:rB s0 W=(out,m):=h.f
  have:=h.hn
  have:=h.he
  rw[e];exact⟨rfl,rfl,by omega,by show ep=out.length-1;omega⟩
noncomputable abbrev gZ:AObj:=.row 1 false 0 [.map 2]
noncomputable abbrev mapM(m:List (PId×Bool)):AObj:=.map (bq aK dC m 0) m.length
noncomputable abbrev n7(ep:Nat)(out:lam):AObj:=.row 3 true ep (out.map aK)
theorem aaT(m:List (PId×Bool))(a b c:Int):fW (some (.bool false)) false (bf true 3 [(0,1),(1,1),(2,1)] (.agg [iV a,iV b,iV c]) (bq aK dC m 0) 0)=some (.bool (qp ao ⟨a,b,c⟩ m)):=AF wE m ⟨a,b,c⟩
theorem aab(m:List (PId×Bool))(a b c:Int):qL (bq aK dC m 0) m.length (.agg [iV a,iV b,iV c]) (.bool true) (bf true 3 [(0,1),(1,1),(2,1)] (.agg [iV a,iV b,iV c]) (bq aK dC m 0) 0)=some (bq aK dC (cQ ao ⟨a,b,c⟩ true m) 0,(cQ ao ⟨a,b,c⟩ true m).length):=Eo wE m ⟨a,b,c⟩
theorem mg(m:List (PId×Bool)):ce (bq aK dC m 0)=0:=cj wE Bi _ _
theorem abJ(act:Int)(u:TUnit)(d:PDeed)(h:ae d.act act=false):kD 21 [eU u,aV d,.ptr 0 0 0 0,.ptr 3 0 0 0,.ptr 1 0 0 0] (aw [bM act,iq,mapM [],gZ,bU u,bh d]) (.tuple []) (aw [bM act,iq,mapM [],gZ,bU u,bh d]):=by
  exact eg Tryz.func21 λa=>Kt 5 (cM h)<|M1 (.frz 6 []) (Ik rt rt rt rt rt rt ti)<|Mf a
theorem acM(act:Int)(u:TUnit)(d:PDeed)(h:ae d.act act=true)(hA:kP 22 [eU u,aV d] (.ls (([]:lam).map aK))):kD 21 [eU u,aV d,.ptr 0 0 0 0,.ptr 3 0 0 0,.ptr 1 0 0 0] (aw [bM act,iq,mapM [],gZ,bU u,bh d]) (.tuple []) (aw [bM act,iq,mapM [],gZ,bU u,bh d]):=by
  let q:=[av (dLx d)];let q1:=[av (uLx u)];let q2:=[aZ 1 false 0 [iV act],aZ 1 false 0 [ah],AObj.map [] 0,aZ 1 false 0 [AV.map 2],aZ 8 false 0 q1,aZ 28 false 0 q,aZ 8 false 0 q1,aZ 28 false 0 q];let q3:=[bY 3 0 0 0,bY 1 0 0 0,aW [],iV 0,iV 0];exact eg Tryz.func21 λa=>Kh 5 (cp h)<|Kp 1 hA<|Mg 1<|Z2 [3,4,15,16,17] (q3,q2) True 0 ti λ_ _=>K1 1 (.frz 6 []) (Ik rt rt rt rt rt rt ti)<|Mf a
def Lt(act:Int)(u:TUnit)(d:PDeed)(W:lam)(m0:List (PId×Bool))(x0:Nat×lam×Unit):Prop:=(W).drop x0.1=x0.2.1/\x0.2.1=W
noncomputable def CJ(act:Int)(u:TUnit)(d:PDeed)(W:lam)(m0:List (PId×Bool))(x0:Nat×lam×Unit):laa×lai:=([AV.ptr 3 0 0 0,AV.ptr 1 0 0 0,AV.ls (W.map aK),nV W.length,nV x0.1],[AObj.row 1 false 0 [iV act],AObj.row 1 false 0 [AV.nils],AObj.map (bq aK dC m0 0) m0.length,AObj.row 1 false 0 [AV.map 2],AObj.row 8 false 0 [AV.agg (uLx u)],AObj.row 28 false 0 [AV.agg (dLx d)],AObj.row 8 false 0 [AV.agg (uLx u)],AObj.row 28 false 0 [AV.agg (dLx d)]])
def Ls(act:Int)(u:TUnit)(d:PDeed)(W:lam)(m0:List (PId×Bool))(x0:Nat×lam×Nat×Nat×lam×List (PId×Bool)):Prop:=(W).drop x0.1=x0.2.1/\AfI ([],m0) W x0.2.1 x0.2.2.1 x0.2.2.2.1 x0.2.2.2.2.1 x0.2.2.2.2.2
noncomputable def Lr(act:Int)(u:TUnit)(d:PDeed)(W:lam)(m0:List (PId×Bool))(x0:Nat×lam×Nat×Nat×lam×List (PId×Bool)):laa×lai:=([AV.ptr 3 0 0 0,AV.ptr 1 0 0 0,AV.ls (W.map aK),nV W.length,nV x0.1],[AObj.row 1 false 0 [iV act],AObj.row 1 false 0 [AV.slice 8 x0.2.2.1 0 x0.2.2.2.1 none],AObj.map (bq aK dC x0.2.2.2.2.2 0) x0.2.2.2.2.2.length,AObj.row 1 false 0 [AV.map 2],AObj.row 8 false 0 [AV.agg (uLx u)],AObj.row 28 false 0 [AV.agg (dLx d)],AObj.row 8 false 0 [AV.agg (uLx u)],AObj.row 28 false 0 [AV.agg (dLx d)],AObj.row 3 true x0.2.2.1 (x0.2.2.2.2.1.map aK)])
theorem acP(act:Int)(u:TUnit)(d:PDeed)(W:lam)(m0:List (PId×Bool))(hm0:m0=[])(h:ae d.act act=true)(hW:W≠[])(hl:W.length<=4194304)(hA:kP 22 [eU u,aV d] (.ls (W.map aK))):kD 21 [eU u,aV d,.ptr 0 0 0 0,.ptr 3 0 0 0,.ptr 1 0 0 0] (aw [bM act,iq,mapM m0,gZ,bU u,bh d]) (.tuple []) (aw [bM act,jH 6 ((rB ([],m0) W).1.length -1) (rB ([],m0) W).1.length,mapM (rB ([],m0) W).2,gZ,bU u,bh d,n7 ((rB ([],m0) W).1.length -1) (rB ([],m0) W).1]):=by
  have hlk:=aaT
  have hup:=aab
  exact Jl Tryz.func21<|Kh 5 (cp h)<|Kp 1 hA<|Kl 0 16 (ln aK W)<|Mg 0<|MM (Nat×lam×Unit) (Nat×lam×Nat×Nat×lam×List (PId×Bool)) [3,4,15,16,17] (CJ act u d W m0) (Lr act u d W m0) (Lt act u d W m0) (Ls act u d W m0) (λa=>a.2.1.length) (λa=>a.2.1.length) (.inl (0,W,())) (aY<|CJ act u d W m0 (0,W,())) (et (rfl:List.drop 0 (W)=W) (by rfl:(W=W))) (λa b c=>Mc a.2.1 (λc=>have e:=dm b.1 c;have a:=eM (J:=λa _=>a=W) (a:=a.2.2) c b.2;Kh 0 e<|Mw .abs (by(exfalso;exact hW a.symm):False)) λe f g=>have i:=dI b.1 g;have:=ap i;have j:=dl (enc:=aK) b.1 g;have k:=bT (J:=λa _=>a=W) (a:=a.2.2) g b.2;have l:qp ao (PId.mk e.a e.i e.n) m0=false:=(by rw[hm0];rfl);Kt 0 i<|Mx j<|K1 4 (.look<|fZ<|qp ao (PId.mk e.a e.i e.n) m0) (hlk m0 e.a e.i e.n)<|Kt 0 (cM l)<|K1 6 (.upd (bq aK dC (cQ ao (PId.mk e.a e.i e.n) true m0) 0) (cQ ao (PId.mk e.a e.i e.n) true m0).length) (hup m0 e.a e.i e.n)<|Kl 0 31 (dQ a.1)<|K1 0 (.ren [0,1,2,3,4,5,6,7,9,8] [2] [3,4,15,16,17]) (tN (cQ ao (PId.mk e.a e.i e.n) true m0).length (by exact mg _:ce (bq aK dC (cQ ao (PId.mk e.a e.i e.n) true m0) 0)=0))<|M1 (.frz 9 [3,4,15,16,17]) (Iw rt rt rt rt rt rt (tM (cQ ao (PId.mk e.a e.i e.n) true m0).length 9 (by exact mg _:ce (bq aK dC (cQ ao (PId.mk e.a e.i e.n) true m0) 0)=0)) rt rt ti)<|Mf<|c (.inr (a.1+1,f,(0,1,[e],cQ ao (PId.mk e.a e.i e.n) true m0))) (et (aH b.1 g) (by exact AfI.first hm0 k rfl rfl:(AfI ([],m0) W f (0:Nat) (1:Nat) [e] (cQ ao (PId.mk e.a e.i e.n) true m0))))<|cC g) λa b c=>Mc a.2.1 (λc=>have e:=dm b.1 c;have b:=eM (J:=λa b=>AfI ([],m0) W a b.1 b.2.1 b.2.2.1 b.2.2.2) (a:=a.2.2) c b.2;Kh 0 e<|M2 (.ren [0,1,2,3,4,5,8,6,7] [2,8] []) (tN a.2.2.2.2.2.length (by exact mg _:ce (bq aK dC a.2.2.2.2.2 0)=0)) (tS 3 true a.2.2.1<|aX LQ a.2.2.2.2.1)<|M1 (.frz 7 []) (et8 (tR 3 true a.2.2.1 7<|aX LQ a.2.2.2.2.1) rt rt rt (tM a.2.2.2.2.2.length 7 (by exact mg _:ce (bq aK dC a.2.2.2.2.2 0)=0)) rt rt ti)<|Mf<|et (aY<|cX []) (by(obtain⟨z1,z2,z3,z4⟩:=b.done;rw[z4,z3,z2,z1];try rfl;done):(aw [AObj.row 1 false 0 [iV act],AObj.row 1 false 0 [AV.slice 6 a.2.2.1 0 a.2.2.2.1 none],AObj.map (bq aK dC a.2.2.2.2.2 0) a.2.2.2.2.2.length,AObj.row 1 false 0 [AV.map 2],AObj.row 8 false 0 [AV.agg (uLx u)],AObj.row 28 false 0 [AV.agg (dLx d)],AObj.row 3 true a.2.2.1 (a.2.2.2.2.1.map aK)])=(aw [bM act,jH 6 ((rB ([],m0) W).1.length -1) (rB ([],m0) W).1.length,mapM (rB ([],m0) W).2,gZ,bU u,bh d,n7 ((rB ([],m0) W).1.length -1) (rB ([],m0) W).1]))) λe f g=>have i:=dI b.1 g;have:=ap i;have j:=dl (enc:=aK) b.1 g;have k:=bT (J:=λa b=>AfI ([],m0) W a b.1 b.2.1 b.2.2.1 b.2.2.2) (a:=a.2.2) g b.2;have:qp ao (PId.mk e.a e.i e.n) m0=false:=(by rw[hm0];rfl);Kt 0 i<|Mx j<|K1 4 (.look<|fZ<|qp ao (PId.mk e.a e.i e.n) a.2.2.2.2.2) (hlk a.2.2.2.2.2 e.a e.i e.n)<|Kn 0 (qp ao (PId.mk e.a e.i e.n) a.2.2.2.2.2) (λ_=>K1 2 .app (cL (aY a.2.2.1) (by(rw[lM];exact k.hn):a.2.2.2.1=(a.2.2.2.2.1.map aK).length) (by(have z1:=k.le;simp only[lC,lN]at z1;refine c8 (m:=8388608) ?_ ?_ ?_<;>omega):small (a.2.2.2.1+1) 24=true))<|M1 (.obj 8<|aZ 3 true (a.2.2.1+1)<|(a.2.2.2.2.1++[e]).map aK) (congrArg (aZ 3 true<|a.2.2.1+1)<|cO (f:=aK) (l:=a.2.2.2.2.1) (ws:=[e]))<|K1 2 (.upd (bq aK dC (cQ ao (PId.mk e.a e.i e.n) true a.2.2.2.2.2) 0) (cQ ao (PId.mk e.a e.i e.n) true a.2.2.2.2.2).length) (hup a.2.2.2.2.2 e.a e.i e.n)<|Kl 0 31 (dQ a.1)<|K1 0 (.frz 9 [3,4,15,16,17]) (Iw (tR 3 true (a.2.2.1+1) 9<|aX LQ<|a.2.2.2.2.1++[e]) rt rt rt rt rt (tM (cQ ao (PId.mk e.a e.i e.n) true a.2.2.2.2.2).length 9 (by exact mg _:ce (bq aK dC (cQ ao (PId.mk e.a e.i e.n) true a.2.2.2.2.2) 0)=0)) rt rt ti)<|Mf<|c (.inr (a.1+1,f,(a.2.2.1+1,a.2.2.2.1+1,a.2.2.2.2.1++[e],cQ ao (PId.mk e.a e.i e.n) true a.2.2.2.2.2))) (et (aH b.1 g) (by exact k.new (by assumption) rfl rfl rfl:(AfI ([],m0) W f (a.2.2.1+1) (a.2.2.2.1+1) (a.2.2.2.2.1++[e]) (cQ ao (PId.mk e.a e.i e.n) true a.2.2.2.2.2))))<|cC g) λ_=>K1 1 (.upd (bq aK dC (cQ ao (PId.mk e.a e.i e.n) true a.2.2.2.2.2) 0) (cQ ao (PId.mk e.a e.i e.n) true a.2.2.2.2.2).length) (hup a.2.2.2.2.2 e.a e.i e.n)<|Kl 0 31 (dQ a.1)<|K1 0 (.frz 9 [3,4,15,16,17]) (Iw (tR 3 true a.2.2.1 9<|aX LQ a.2.2.2.2.1) rt rt rt rt rt (tM (cQ ao (PId.mk e.a e.i e.n) true a.2.2.2.2.2).length 9 (by exact mg _:ce (bq aK dC (cQ ao (PId.mk e.a e.i e.n) true a.2.2.2.2.2) 0)=0)) rt rt ti)<|Mf<|c (.inr (a.1+1,f,(a.2.2.1,a.2.2.2.1,a.2.2.2.2.1,cQ ao (PId.mk e.a e.i e.n) true a.2.2.2.2.2))) (et (aH b.1 g) (by exact k.old (by assumption) rfl:(AfI ([],m0) W f a.2.2.1 a.2.2.2.1 a.2.2.2.2.1 (cQ ao (PId.mk e.a e.i e.n) true a.2.2.2.2.2))))<|cC g
theorem acO(act:Int)(u:TUnit)(d:PDeed)(ep n:Nat)(out:lam)(m:List (PId×Bool))(h:ae d.act act=false):kD 21 [eU u,aV d,.ptr 0 0 0 0,.ptr 3 0 0 0,.ptr 1 0 0 0] (aw [bM act,jH 5 ep n,mapM m,gZ,bU u,n7 ep out,bh d]) (.tuple []) (aw [bM act,jH 5 ep n,mapM m,gZ,bU u,n7 ep out,bh d]):=by
  have ht:=mg m
  exact eg Tryz.func21 λa=>Kt 5 (cM h)<|M1 (.frz 7 []) (et8 rt (tR 3 true ep 7<|aX LQ out) rt rt (tM m.length 7 (by assumption:ce (bq aK dC m 0)=0)) rt rt ti)<|Mf a
def Lp(act:Int)(u:TUnit)(d:PDeed)(W:lam)(out:lam)(m:List (PId×Bool))(x0:Nat×lam×Nat×Nat×lam×List (PId×Bool)):Prop:=(W).drop x0.1=x0.2.1/\AfI (out,m) W x0.2.1 x0.2.2.1 x0.2.2.2.1 x0.2.2.2.2.1 x0.2.2.2.2.2
noncomputable def CW(act:Int)(u:TUnit)(d:PDeed)(W:lam)(out:lam)(m:List (PId×Bool))(x0:Nat×lam×Nat×Nat×lam×List (PId×Bool)):laa×lai:=([AV.ptr 3 0 0 0,AV.ptr 1 0 0 0,AV.ls (W.map aK),nV W.length,nV x0.1],[AObj.row 1 false 0 [iV act],AObj.row 1 false 0 [AV.slice 5 x0.2.2.1 0 x0.2.2.2.1 none],AObj.map (bq aK dC x0.2.2.2.2.2 0) x0.2.2.2.2.2.length,AObj.row 1 false 0 [AV.map 2],AObj.row 8 false 0 [AV.agg (uLx u)],AObj.row 3 true x0.2.2.1 (x0.2.2.2.2.1.map aK),AObj.row 28 false 0 [AV.agg (dLx d)],AObj.row 8 false 0 [AV.agg (uLx u)],AObj.row 28 false 0 [AV.agg (dLx d)]])
theorem acN(act:Int)(u:TUnit)(d:PDeed)(W:lam)(ep n:Nat)(out:lam)(m:List (PId×Bool))(hn:n=out.length)(he:ep+1=n)(hb:n<=30300000000)(h:ae d.act act=true)(hl:W.length<=4194304)(hA:kP 22 [eU u,aV d] (.ls (W.map aK))):kD 21 [eU u,aV d,.ptr 0 0 0 0,.ptr 3 0 0 0,.ptr 1 0 0 0] (aw [bM act,jH 5 ep n,mapM m,gZ,bU u,n7 ep out,bh d]) (.tuple []) (aw [bM act,jH 5 ((rB (out,m) W).1.length -1) (rB (out,m) W).1.length,mapM (rB (out,m) W).2,gZ,bU u,n7 ((rB (out,m) W).1.length -1) (rB (out,m) W).1,bh d]):=by
  have hlk:=aaT
  have hup:=aab
  have h0:AfI (out,m) W W ep n out m:=⟨hn,he,by show n+W.length<=out.length+W.length;omega,rfl⟩
  exact Jl Tryz.func21<|Kh 5 (cp h)<|Kp 1 hA<|Kl 0 16 (ln aK W)<|Mg 0<|ML (Nat×lam×Nat×Nat×lam×List (PId×Bool)) [3,4,15,16,17] (CW act u d W out m) (Lp act u d W out m) (λa=>a.2.1.length) (0,W,(ep,n,out,m)) (aY<|CW act u d W out m (0,W,(ep,n,out,m))) (et (rfl:List.drop 0 (W)=W) (by(exact h0):(AfI (out,m) W W ep n out m))) λa b c=>Mc a.2.1 (λc=>have e:=dm b.1 c;have b:=eM (J:=λa b=>AfI (out,m) W a b.1 b.2.1 b.2.2.1 b.2.2.2) (a:=a.2.2) c b.2;Kh 0 e<|M1 (.frz 7 []) (et8 rt (tR 3 true a.2.2.1 7<|aX LQ a.2.2.2.2.1) rt rt (tM a.2.2.2.2.2.length 7 (by exact mg _:ce (bq aK dC a.2.2.2.2.2 0)=0)) rt rt ti)<|Mf<|et (aY<|cX []) (by(obtain⟨z1,z2,z3,z4⟩:=b.done;rw[z4,z3,z2,z1];try rfl;done):(aw [AObj.row 1 false 0 [iV act],AObj.row 1 false 0 [AV.slice 5 a.2.2.1 0 a.2.2.2.1 none],AObj.map (bq aK dC a.2.2.2.2.2 0) a.2.2.2.2.2.length,AObj.row 1 false 0 [AV.map 2],AObj.row 8 false 0 [AV.agg (uLx u)],AObj.row 3 true a.2.2.1 (a.2.2.2.2.1.map aK),AObj.row 28 false 0 [AV.agg (dLx d)]])=(aw [bM act,jH 5 ((rB (out,m) W).1.length -1) (rB (out,m) W).1.length,mapM (rB (out,m) W).2,gZ,bU u,n7 ((rB (out,m) W).1.length -1) (rB (out,m) W).1,bh d]))) λe f g=>have i:=dI b.1 g;have:=ap i;have j:=dl (enc:=aK) b.1 g;have k:=bT (J:=λa b=>AfI (out,m) W a b.1 b.2.1 b.2.2.1 b.2.2.2) (a:=a.2.2) g b.2;Kt 0 i<|Mx j<|K1 4 (.look<|fZ<|qp ao (PId.mk e.a e.i e.n) a.2.2.2.2.2) (hlk a.2.2.2.2.2 e.a e.i e.n)<|Kn 0 (qp ao (PId.mk e.a e.i e.n) a.2.2.2.2.2) (λ_=>K1 2 .app (cL (aY a.2.2.1) (by(rw[lM];exact k.hn):a.2.2.2.1=(a.2.2.2.2.1.map aK).length) (by(have z1:=k.le;simp only[lC,lN]at z1;refine c8 (m:=34359738368) ?_ ?_ ?_<;>omega):small (a.2.2.2.1+1) 24=true))<|M1 (.obj 5<|aZ 3 true (a.2.2.1+1)<|(a.2.2.2.2.1++[e]).map aK) (congrArg (aZ 3 true<|a.2.2.1+1)<|cO (f:=aK) (l:=a.2.2.2.2.1) (ws:=[e]))<|K1 2 (.upd (bq aK dC (cQ ao (PId.mk e.a e.i e.n) true a.2.2.2.2.2) 0) (cQ ao (PId.mk e.a e.i e.n) true a.2.2.2.2.2).length) (hup a.2.2.2.2.2 e.a e.i e.n)<|Kl 0 31 (dQ a.1)<|K1 0 (.frz 9 [3,4,15,16,17]) (Iw rt rt rt (tR 3 true (a.2.2.1+1) 9<|aX LQ<|a.2.2.2.2.1++[e]) rt rt (tM (cQ ao (PId.mk e.a e.i e.n) true a.2.2.2.2.2).length 9 (by exact mg _:ce (bq aK dC (cQ ao (PId.mk e.a e.i e.n) true a.2.2.2.2.2) 0)=0)) rt rt ti)<|Mf<|c (a.1+1,f,(a.2.2.1+1,a.2.2.2.1+1,a.2.2.2.2.1++[e],cQ ao (PId.mk e.a e.i e.n) true a.2.2.2.2.2)) (et (aH b.1 g) (by exact k.new (by assumption) rfl rfl rfl:(AfI (out,m) W f (a.2.2.1+1) (a.2.2.2.1+1) (a.2.2.2.2.1++[e]) (cQ ao (PId.mk e.a e.i e.n) true a.2.2.2.2.2))))<|cC g) λ_=>K1 1 (.upd (bq aK dC (cQ ao (PId.mk e.a e.i e.n) true a.2.2.2.2.2) 0) (cQ ao (PId.mk e.a e.i e.n) true a.2.2.2.2.2).length) (hup a.2.2.2.2.2 e.a e.i e.n)<|Kl 0 31 (dQ a.1)<|K1 0 (.frz 9 [3,4,15,16,17]) (Iw rt rt rt (tR 3 true a.2.2.1 9<|aX LQ a.2.2.2.2.1) rt rt (tM (cQ ao (PId.mk e.a e.i e.n) true a.2.2.2.2.2).length 9 (by exact mg _:ce (bq aK dC (cQ ao (PId.mk e.a e.i e.n) true a.2.2.2.2.2) 0)=0)) rt rt ti)<|Mf<|c (a.1+1,f,(a.2.2.1,a.2.2.2.1,a.2.2.2.2.1,cQ ao (PId.mk e.a e.i e.n) true a.2.2.2.2.2)) (et (aH b.1 g) (by exact k.old (by assumption) rfl:(AfI (out,m) W f a.2.2.1 a.2.2.2.1 a.2.2.2.2.1 (cQ ao (PId.mk e.a e.i e.n) true a.2.2.2.2.2))))<|cC g
noncomputable def yp(u:TUnit)(d:PDeed):lam:=yo u d (eS u d).2
noncomputable def kw(act:Int)(s:g9)(u:TUnit)(d:PDeed):g9:=bif ae d.act act then rB s (yp u d)else s
noncomputable def GX(act:Int):lab->TUnit->g9->g9
  |[],_,s=>s
  |d::r,u,s=>GX act r (eS u d).1 (kw act s u d)
theorem CX{u:TUnit}{d:PDeed}(h1:OkB u)(h2:og d.it):(yp u d).length<=1048576:=by
  unfold yp yo nM
  have ht:=h2.2.2.2.2.2.2.2.2.1
  cases ae (eS u d).2 0
  · exact(by decide:0<=1048576)
  · cases ae d.it.kind 0
    · cases ae d.it.kind 1
      · exact(by decide:1<=1048576)
      · show(cG _).length<=_
        rw[<-je];have:=SC h1 (aC u d.it.at_).1;omega
    · show(cG _).length<=_
      rw[<-je,zM];omega
theorem vR{act:Int}{s:g9}{u:TUnit}{d:PDeed}(h:ae d.act act=true):kw act s u d=rB s (yp u d):=by unfold kw;rw[h];rfl
theorem Ef{act:Int}{s:g9}{u:TUnit}{d:PDeed}(h:ae d.act act=false):kw act s u d=s:=by unfold kw;rw[h];rfl
theorem FP{act:Int}{s:g9}{u:TUnit}{d:PDeed}(h1:OkB u)(h2:og d.it):s.1.length<=(kw act s u d).1.length/\(kw act s u d).1.length<=s.1.length+1048576:=by
  have:=CX h1 h2
  cases q:ae d.act act with
  |true=>rw[vR q];have:=v8 (yp u d) s;omega
  |false=>rw[Ef q];omega
noncomputable def wW(act:Int)(u:TUnit)(d:PDeed):Bool:=ae d.act act&&ak (yp u d).isEmpty
theorem Xg{act:Int}{u:TUnit}{d:PDeed}(h:wW act u d=false):ae d.act act=false\/yp u d=[]:=by
  unfold wW at h
  cases q:ae d.act act with
  |false=>exact .inl rfl
  | true=>
    rw[q,xY]at h
    cases e:yp u d with
    |nil=>exact .inr rfl
    |cons a r=>rw[e]at h;cases h
theorem Qu{act:Int}{u:TUnit}{d:PDeed}(h:wW act u d=true):ae d.act act=true/\yp u d≠[]:=by
  unfold wW at h
  obtain⟨h1,h2⟩:=jj.1 h
  exact⟨h1,λe=>by rw[e]at h2;cases h2⟩
theorem abI{act:Int}{u:TUnit}{d:PDeed}(h:wW act u d=false):kw act ([],[]) u d=([],[]):=by
  rcases Xg h with q|q
  · exact Ef q
  · cases e:ae d.act act with
    |false=>exact Ef e
    |true=>rw[vR e,q];rfl
theorem abH(act:Int)(u:TUnit)(d:PDeed)(h1:OkB u)(h2:og d.it)(h3:jl d.it.kind=true)(hb:wW act u d=false):kD 21 [eU u,aV d,.ptr 0 0 0 0,.ptr 3 0 0 0,.ptr 1 0 0 0] (aw [bM act,iq,mapM [],gZ,bU u,bh d]) (.tuple []) (aw [bM act,iq,mapM [],gZ,bU u,bh d]):=by
  have hA:=Lo u d h1 h2 h3
  rcases Xg hb with q|q
  · exact abJ act u d q
  · cases e:ae d.act act with
    |false=>exact abJ act u d e
    |true=>exact acM act u d e (by rw[<-q];exact hA)
theorem acJ(act:Int)(u:TUnit)(d:PDeed)(h1:OkB u)(h2:og d.it)(h3:jl d.it.kind=true)(hb:By (wW act u d) false):kD 21 [eU u,aV d,.ptr 0 0 0 0,.ptr 3 0 0 0,.ptr 1 0 0 0] (aw [bM act,iq,mapM [],gZ,bU u,bh d]) (.tuple []) (aw [bM act,iq,mapM [],gZ,bU u,bh d]):=abH act u d h1 h2 h3 hb
theorem acL(act:Int)(u:TUnit)(d:PDeed)(h1:OkB u)(h2:og d.it)(h3:jl d.it.kind=true)(hb:By (wW act u d) true):kD 21 [eU u,aV d,.ptr 0 0 0 0,.ptr 3 0 0 0,.ptr 1 0 0 0] (aw [bM act,iq,mapM [],gZ,bU u,bh d]) (.tuple []) (aw [bM act,jH 6 ((kw act ([],[]) u d).1.length -1) (kw act ([],[]) u d).1.length,mapM (kw act ([],[]) u d).2,gZ,bU u,bh d,n7 ((kw act ([],[]) u d).1.length -1) (kw act ([],[]) u d).1]):=by
  obtain⟨q1,q2⟩:=Qu hb
  have:=CX h1 h2
  rw[vR q1]
  exact acP act u d _ [] rfl q1 q2 (by omega) (Lo u d h1 h2 h3)
theorem acK(act:Int)(u:TUnit)(d:PDeed)(h1:OkB u)(h2:og d.it)(h3:jl d.it.kind=true)(ep n:Nat)(out:lam)(m:List (PId×Bool))(hn:n=out.length)(he:ep+1=n)(hb:n<=30300000000):kD 21 [eU u,aV d,.ptr 0 0 0 0,.ptr 3 0 0 0,.ptr 1 0 0 0] (aw [bM act,jH 5 ep n,mapM m,gZ,bU u,n7 ep out,bh d]) (.tuple []) (aw [bM act,jH 5 ((kw act (out,m) u d).1.length -1) (kw act (out,m) u d).1.length,mapM (kw act (out,m) u d).2,gZ,bU u,n7 ((kw act (out,m) u d).1.length -1) (kw act (out,m) u d).1,bh d]):=by
  have:=CX h1 h2
  cases q:ae d.act act with
  |true=>rw[vR q];exact acN act u d _ ep n out m hn he hb q (by omega) (Lo u d h1 h2 h3)
  | false=>
    rw[Ef q]
    show aO _ _ _ _ _ λv h=>v=.tuple []/\h=aw [bM act,jH 5 (out.length-1) out.length,mapM m,gZ,bU u,n7 (out.length-1) out,bh d]
    rw[show out.length-1=ep by omega,<-hn]
    exact acO act u d ep n out m q
structure Ah0(act:Int)(S:g9)(r:lab)(u:TUnit):Prop where
  ok:OkB u
  le:r.length<=7200
  f:S=GX act r u ([],[])
structure AhI(act:Int)(S:g9)(r:lab)(u:TUnit)(ep n:Nat)(out:lam)(m:List (PId×Bool)):Prop where
  ok:OkB u
  hn:n=out.length
  he:ep+1=n
  le:n+1048576*r.length<=1048576*7200
  f:S=GX act r u (out,m)
theorem Ah0.step{act:Int}{S:g9}{r:lab}{d:PDeed}{u:TUnit}(h:Ah0 act S (d::r) u)(h1:og d.it)(h2:jl d.it.kind=true)(hb:By (wW act u d) false):Ah0 act S r (eS u d).1:=by
  have z:=h.le
  rw[lC]at z
  have f:=h.f
  rw[GX,abI hb]at f
  exact⟨(lu ⟨h.ok,h1,h2⟩).2,by omega,f⟩
theorem Ah0.go{act:Int}{S:g9}{r:lab}{d:PDeed}{u:TUnit}(h:Ah0 act S (d::r) u)(h1:og d.it)(h2:jl d.it.kind=true)(hb:By (wW act u d) true):AhI act S r (eS u d).1 ((kw act ([],[]) u d).1.length -1) (kw act ([],[]) u d).1.length (kw act ([],[]) u d).1 (kw act ([],[]) u d).2:=by
  have z:=h.le
  rw[lC]at z
  have z2:=(FP (act:=act) (s:=([],[])) h.ok h1).2
  have z3:0<(kw act ([],[]) u d).1.length:=by
    obtain⟨q1,q2⟩:=Qu hb
    rw[vR q1]
    cases e:yp u d with
    |nil=>exact absurd e q2
    | cons x t=>
      have:=(v8 t (Jq ([],[]) x)).1
      exact CI (pU 0) this
  have z2:(kw act ([],[]) u d).1.length<=0+1048576:=z2
  exact⟨(lu ⟨h.ok,h1,h2⟩).2,rfl,by omega,by omega,h.f⟩
theorem AhI.step{act:Int}{S:g9}{r:lab}{d:PDeed}{u:TUnit}{ep n:Nat}{out:lam}{m:List (PId×Bool)}(h:AhI act S (d::r) u ep n out m)(h1:og d.it)(h2:jl d.it.kind=true):AhI act S r (eS u d).1 ((kw act (out,m) u d).1.length -1) (kw act (out,m) u d).1.length (kw act (out,m) u d).1 (kw act (out,m) u d).2:=by
  have z:=h.le
  rw[lC]at z
  have z1:=h.hn
  have z3:=h.he
  have z2:=FP (act:=act) (s:=(out,m)) h.ok h1
  have z2:out.length<=(kw act (out,m) u d).1.length/\(kw act (out,m) u d).1.length<=out.length+1048576:=z2
  exact⟨(lu ⟨h.ok,h1,h2⟩).2,rfl,by omega,by omega,h.f⟩
theorem AhI.done{act:Int}{S:g9}{u:TUnit}{ep n:Nat}{out:lam}{m:List (PId×Bool)}(h:AhI act S [] u ep n out m):out=S.1/\m=S.2/\n=S.1.length/\ep=S.1.length-1:=by
  have e:S=(out,m):=h.f
  have:=h.hn
  have:=h.he
  rw[e];exact⟨rfl,rfl,by omega,by show ep=out.length-1;omega⟩
theorem OJ{act:Int}:∀(r:lab)(u:TUnit)(s:g9),s.1.length<=(GX act r u s).1.length
  |[],_,_=>ar _
  | d::r,u,s=>by
    refine b0 ?_ (OJ r _ _)
    cases q:ae d.act act with
    |true=>rw[vR q];exact(v8 _ _).1
    |false=>rw[Ef q];exact ar _
theorem Ah0.nil{act:Int}{S:g9}{r:lab}{d:PDeed}{u:TUnit}(h:Ah0 act S (d::r) u)(hS:S.1=[]):wW act u d=false:=by
  cases q:wW act u d with
  |false=>rfl
  | true=>
    have f:=h.f
    rw[GX]at f
    have z:=OJ (act:=act) r (eS u d).1 (kw act ([],[]) u d)
    rw[<-f,hS]at z
    obtain⟨q1,q2⟩:=Qu q
    rw[vR q1]at z
    cases e:yp u d with
    |nil=>exact absurd e q2
    | cons x t=>
      rw[e,v9]at z
      have:=(v8 t (Jq ([],[]) x)).1
      have h1:(Jq ([],[]) x).1.length=1:=rfl
      simp only[lN]at z;omega
noncomputable abbrev L4:AV:=.func (.func 21) [] [.ptr 0 0 0 0,.ptr 3 0 0 0,.ptr 1 0 0 0]
theorem D6:kP 41 [] (eU mG):=by
  exact wk Tryz.func41 (.go 2 .fin) (bJ (lc<|lc<|lc<|lc<|lc<|.cons bI<|.cons bI<|.cons bI .nil)<|by kernel_rfl:Le _ (AV.agg [iV 0,iV 0,iV 0,iV 0,AV.str [],AV.nils,AV.nils,AV.nils]))
def Lm(act:Int)(X:lab)(S:g9)(x0:Nat×lab×TUnit):Prop:=(X).drop x0.1=x0.2.1/\Ah0 act S x0.2.1 x0.2.2
noncomputable def CZ(act:Int)(X:lab)(S:g9)(x0:Nat×lab×TUnit):laa×lai:=([AV.func (Fn.func 21) [] [AV.ptr 0 0 0 0,AV.ptr 3 0 0 0,AV.ptr 1 0 0 0],AV.ptr 4 0 0 0,AV.ls (X.map aV),nV X.length,nV x0.1],[AObj.row 1 false 0 [iV act],AObj.row 1 false 0 [AV.nils],AObj.map [] 0,AObj.row 1 false 0 [AV.map 2],AObj.row 8 false 0 [AV.agg (uLx x0.2.2)]])
def Ll(act:Int)(X:lab)(S:g9)(x0:Nat×lab×TUnit×Nat×Nat×lam×List (PId×Bool)):Prop:=(X).drop x0.1=x0.2.1/\AhI act S x0.2.1 x0.2.2.1 x0.2.2.2.1 x0.2.2.2.2.1 x0.2.2.2.2.2.1 x0.2.2.2.2.2.2
noncomputable def Li(act:Int)(X:lab)(S:g9)(x0:Nat×lab×TUnit×Nat×Nat×lam×List (PId×Bool)):laa×lai:=([AV.func (Fn.func 21) [] [AV.ptr 0 0 0 0,AV.ptr 3 0 0 0,AV.ptr 1 0 0 0],AV.ptr 4 0 0 0,AV.ls (X.map aV),nV X.length,nV x0.1],[AObj.row 1 false 0 [iV act],AObj.row 1 false 0 [AV.slice 5 x0.2.2.2.1 0 x0.2.2.2.2.1 none],AObj.map (bq aK dC x0.2.2.2.2.2.2 0) x0.2.2.2.2.2.2.length,AObj.row 1 false 0 [AV.map 2],AObj.row 8 false 0 [AV.agg (uLx x0.2.2.1)],AObj.row 3 true x0.2.2.2.1 (x0.2.2.2.2.2.1.map aK)])
theorem abF(w:TUnit)(hw:OkB w)(h0:kP 41 [] (eU w))(gs:lal)(day:Int)(p:bZ)(act:Int)(X:lab)(S:g9)(hO:kP 9 [iV day,.str p,.ls (gs.map am)] (.ls (X.map aV)))(hl:X.length<=7200)(ho:∀d,d∈X->og d.it/\jl d.it.kind=true)(hS:S=GX act X w ([],[]))(hn:S.1≠[]):kD 20 [iV day,.str p,.ls (gs.map am),L4] (aw [bM act,iq,mapM [],gZ]) (.tuple []) (aw [bM act,jH 4 (S.1.length-1) S.1.length,mapM S.2,gZ,n7 (S.1.length-1) S.1]):=by
  exact Jl Tryz.func20<|Mp h0<|Kp 4 hO<|Kl 0 16 (ln aV X)<|Mg 0<|MM (Nat×lab×TUnit) (Nat×lab×TUnit×Nat×Nat×lam×List (PId×Bool)) [3,8,15,16,17] (CZ act X S) (Li act X S) (Lm act X S) (Ll act X S) (λa=>a.2.1.length) (λa=>a.2.1.length) (.inl (0,X,w)) (aY<|CZ act X S (0,X,w)) (et (rfl:List.drop 0 (X)=X) (by(exact⟨hw,by omega,hS⟩):(Ah0 act S X w))) (λa b c=>Mc a.2.1 (λc=>have e:=dm b.1 c;have a:=eM (J:=λa b=>Ah0 act S a b) (a:=a.2.2) c b.2;Kh 0 e<|Mw .abs (by(exfalso;have z:=a.f;exact hn (by rw[z];rfl)):False)) λe f g=>have h:=dI b.1 g;have:=ap h;have i:=dl (enc:=aV) b.1 g;have j:=bT (J:=λa b=>Ah0 act S a b) (a:=a.2.2) g b.2;have k:=ho _<|aG b.1 g;Kt 0 h<|Mx i<|Ks 5 (wW act a.2.2 e) (λh=>Me (acL act a.2.2 e (by exact j.ok) (by exact k.1) (by exact k.2) h)<|Kp 1 (B6 a.2.2 e (by exact j.ok) (by exact k.1)<|by exact k.2)<|Kl 4 31 (dQ a.1)<|Mg 0<|M2 (.ren [0,1,2,3,4,6,5] [2,6] [3,8,15,16,17]) (tN ((kw act ([],[]) a.2.2 e).2).length (by exact mg _:ce (bq aK dC (kw act ([],[]) a.2.2 e).2 0)=0)) (tS 3 true (((kw act ([],[]) a.2.2 e).1).length -1)<|aX LQ (kw act ([],[]) a.2.2 e).1)<|M1 (.frz 6 [3,8,15,16,17]) (Ik (tR 3 true (((kw act ([],[]) a.2.2 e).1).length -1) 6<|aX LQ (kw act ([],[]) a.2.2 e).1) rt rt (tM ((kw act ([],[]) a.2.2 e).2).length 6 (by exact mg _:ce (bq aK dC (kw act ([],[]) a.2.2 e).2 0)=0)) rt rt ti)<|Mf<|c (.inr (a.1+1,f,((eS a.2.2 e).1,((kw act ([],[]) a.2.2 e).1).length -1,((kw act ([],[]) a.2.2 e).1).length,(kw act ([],[]) a.2.2 e).1,(kw act ([],[]) a.2.2 e).2))) (et (aH b.1 g) (by exact j.go k.1 k.2 (by assumption):(AhI act S f (eS a.2.2 e).1 ((kw act ([],[]) a.2.2 e).1.length -1) (kw act ([],[]) a.2.2 e).1.length (kw act ([],[]) a.2.2 e).1 (kw act ([],[]) a.2.2 e).2)))<|cC g) λh=>Me (acJ act a.2.2 e (by exact j.ok) (by exact k.1) (by exact k.2) h)<|Kp 1 (B6 a.2.2 e (by exact j.ok) (by exact k.1)<|by exact k.2)<|Kl 4 31 (dQ a.1)<|K1 0 (.frz 5 [3,8,15,16,17]) (od rt rt rt rt rt ti)<|Mf<|c (.inl (a.1+1,f,(eS a.2.2 e).1)) (et (aH b.1 g) (by exact j.step k.1 k.2 (by assumption):(Ah0 act S f (eS a.2.2 e).1)))<|cC g) λa b c=>Mc a.2.1 (λc=>have e:=dm b.1 c;have b:=eM (J:=λa b=>AhI act S a b.1 b.2.1 b.2.2.1 b.2.2.2.1 b.2.2.2.2) (a:=a.2.2) c b.2;Kh 0 e<|M2 (.ren [0,1,2,3,5,4] [2,5] []) (tN a.2.2.2.2.2.2.length (by exact mg _:ce (bq aK dC a.2.2.2.2.2.2 0)=0)) (tS 3 true a.2.2.2.1<|aX LQ a.2.2.2.2.2.1)<|M1 (.frz 5 []) (od (tR 3 true a.2.2.2.1 5<|aX LQ a.2.2.2.2.2.1) rt (tM a.2.2.2.2.2.2.length 5 (by exact mg _:ce (bq aK dC a.2.2.2.2.2.2 0)=0)) rt rt ti)<|Mf<|et (aY<|cX []) (by(obtain⟨z1,z2,z3,z4⟩:=b.done;rw[z4,z3,z2,z1];try rfl;done):(aw [AObj.row 1 false 0 [iV act],AObj.row 1 false 0 [AV.slice 4 a.2.2.2.1 0 a.2.2.2.2.1 none],AObj.map (bq aK dC a.2.2.2.2.2.2 0) a.2.2.2.2.2.2.length,AObj.row 1 false 0 [AV.map 2],AObj.row 3 true a.2.2.2.1 (a.2.2.2.2.2.1.map aK)])=(aw [bM act,jH 4 (S.1.length-1) S.1.length,mapM S.2,gZ,n7 (S.1.length-1) S.1]))) λe f g=>have h:=dI b.1 g;have:=ap h;have i:=dl (enc:=aV) b.1 g;have j:=bT (J:=λa b=>AhI act S a b.1 b.2.1 b.2.2.1 b.2.2.2.1 b.2.2.2.2) (a:=a.2.2) g b.2;have k:=ho _<|aG b.1 g;Kt 0 h<|Mx i<|Ke 5 (acK act a.2.2.1 e (by exact j.ok) (by exact k.1) (by exact k.2) a.2.2.2.1 a.2.2.2.2.1 a.2.2.2.2.2.1 a.2.2.2.2.2.2 (by exact j.hn) (by exact j.he)<|by(have z1:=j.le;rw[lC]at z1;omega))<|Kp 1 (B6 a.2.2.1 e (by exact j.ok) (by exact k.1)<|by exact k.2)<|Kl 4 31 (dQ a.1)<|K1 0 (.frz 6 [3,8,15,16,17]) (Ik (tR 3 true (((kw act (a.2.2.2.2.2.1,a.2.2.2.2.2.2) a.2.2.1 e).1).length -1) 6<|aX LQ (kw act (a.2.2.2.2.2.1,a.2.2.2.2.2.2) a.2.2.1 e).1) rt rt (tM ((kw act (a.2.2.2.2.2.1,a.2.2.2.2.2.2) a.2.2.1 e).2).length 6 (by exact mg _:ce (bq aK dC (kw act (a.2.2.2.2.2.1,a.2.2.2.2.2.2) a.2.2.1 e).2 0)=0)) rt rt ti)<|Mf<|c (.inr (a.1+1,f,((eS a.2.2.1 e).1,((kw act (a.2.2.2.2.2.1,a.2.2.2.2.2.2) a.2.2.1 e).1).length -1,((kw act (a.2.2.2.2.2.1,a.2.2.2.2.2.2) a.2.2.1 e).1).length,(kw act (a.2.2.2.2.2.1,a.2.2.2.2.2.2) a.2.2.1 e).1,(kw act (a.2.2.2.2.2.1,a.2.2.2.2.2.2) a.2.2.1 e).2))) (et (aH b.1 g) (by exact j.step k.1 k.2:(AhI act S f (eS a.2.2.1 e).1 ((kw act (a.2.2.2.2.2.1,a.2.2.2.2.2.2) a.2.2.1 e).1.length -1) (kw act (a.2.2.2.2.2.1,a.2.2.2.2.2.2) a.2.2.1 e).1.length (kw act (a.2.2.2.2.2.1,a.2.2.2.2.2.2) a.2.2.1 e).1 (kw act (a.2.2.2.2.2.1,a.2.2.2.2.2.2) a.2.2.1 e).2)))<|cC g
theorem abG(w:TUnit)(hw:OkB w)(h0:kP 41 [] (eU w))(gs:lal)(day:Int)(p:bZ)(act:Int)(X:lab)(S:g9)(hO:kP 9 [iV day,.str p,.ls (gs.map am)] (.ls (X.map aV)))(hl:X.length<=7200)(ho:∀d,d∈X->og d.it/\jl d.it.kind=true)(hS:S=GX act X w ([],[]))(hn:S.1=[]):kD 20 [iV day,.str p,.ls (gs.map am),L4] (aw [bM act,iq,mapM [],gZ]) (.tuple []) (aw [bM act,iq,mapM [],gZ]):=by
  exact eg Tryz.func20 λa=>Mp h0<|Kp 4 hO<|Kl 0 16 (ln aV X)<|Mg 0<|OV aV X w [3,8,15,16,17] (λa _ b=>([bc (bb 21) [] [bY 0 0 0 0,bY 3 0 0 0,bY 1 0 0 0],bY 4 0 0 0,aW<|X.map aV,nV X.length,nV a],[aZ 1 false 0 [iV act],aZ 1 false 0 [ah],AObj.map [] 0,aZ 1 false 0 [AV.map 2],aZ 8 false 0 [av (uLx b)]])) (λa b=>Ah0 act S a b) (by(exact⟨hw,by omega,hS⟩)) (λ_ _ _ _ _ _ b _=>Kh 0 b<|M1 (.frz 4 []) (qh rt rt rt rt ti)<|Mf a) λa _ b c _ e f g h i _ j k=>have c:=ho _<|aG c h;Kt 0 i<|Mx j<|Ke 5 (abH act b e (by exact k.ok) (by exact c.1) (by exact c.2)<|by exact k.nil hn)<|Kp 1 (B6 b e (by exact k.ok) (by exact c.1)<|by exact c.2)<|Kl 4 31 (dQ a)<|K1 0 (.frz 5 [3,8,15,16,17]) (od rt rt rt rt rt ti)<|Mf<|g (eS b e).1<|by exact k.step c.1 c.2 (k.nil hn)
theorem abd(gs:lal)(day:Int)(p:bZ)(act:Int)(hs:kD 20 [iV day,.str p,.ls (gs.map am),L4] (aw [bM act,iq,mapM [],gZ]) (.tuple []) (aw [bM act,iq,mapM [],gZ])):kP 8 [iV act,iV day,.str p,.ls (gs.map am)] (.ls (([]:lam).map aK)):=by
  exact bH Tryz.func8<|Ke 9 hs<|Kf 1 bI
theorem abc(gs:lal)(day:Int)(p:bZ)(act:Int)(S:g9)(hs:kD 20 [iV day,.str p,.ls (gs.map am),L4] (aw [bM act,iq,mapM [],gZ]) (.tuple []) (aw [bM act,jH 4 (S.1.length-1) S.1.length,mapM S.2,gZ,n7 (S.1.length-1) S.1])):kP 8 [iV act,iV day,.str p,.ls (gs.map am)] (.ls (S.1.map aK)):=by
  have ht:=mg S.2
  let q:=List.map aK S.1;exact bH Tryz.func8<|Ke 9 hs<|Mg 1<|M2 (.fsl 0 [] 8 q) ti (cL (aY<|S.1.length-1) (tA aK S.1 S.1.length rfl)<|aX LQ S.1)<|Ml 8 (fe q false<|aX LQ S.1)<|Mf<|bA<|aW q
theorem JV(gs:lal)(day:Int)(p:bZ)(act:Int)(X:lab)(hO:kP 9 [iV day,.str p,.ls (gs.map am)] (.ls (X.map aV)))(hl:X.length<=7200)(ho:∀d,d∈X->og d.it/\jl d.it.kind=true):kP 8 [iV act,iV day,.str p,.ls (gs.map am)] (.ls ((GX act X mG ([],[])).1.map aK)):=by
  by_cases h:(GX act X mG ([],[])).1=[]
  · rw[h];exact abd gs day p act (abG mG wN D6 gs day p act X _ hO hl ho rfl h)
  · exact abc gs day p act _ (abF mG wN D6 gs day p act X _ hO hl ho rfl h)
end Go.Proofs.YtiflidpifinbjaaGreatDoor
