/- Functions walked: what each of them answers, for For each unit of the book of a day, Addresses contains its current address and Holders of that address contains the unit: part 8. Conditions: those that each theorem names. -/
import Derived.Test.YtdhkhecalpkngaaGreatDoorH7
namespace Go.Proofs.YtdhkhecalpkngaaGreatDoor
open Go Go.Ev
noncomputable abbrev dE(out:List PId):List (PId×Bool):=out.map fun y=>(y,true)
noncomputable def gS(out:List PId)(x:PId):Bool:=(ip bh x (dE out)).isSome
noncomputable def ye(out:List PId)(x:PId):List PId:=match gS out x with|true=>out|false=>out++[x]
theorem LW{out:List PId}{x:PId}(h:gS out x=true):ye out x=out:=by unfold ye;rw[h]
theorem Fu{out:List PId}{x:PId}(h:gS out x=false):ye out x=out++[x]:=by unfold ye;rw[h]
theorem zH{K V:Type}{keq:K->K->Bool}{k:K}{v:V}:∀{l:List (K×V)},ip keq k l=none->fZ keq k v l=l++[(k,v)]
  |[],_=>rfl
  | (j,u)::r,h=>by
    rw[ip]at h
    cases q:keq k j with
    |true=>rw[q]at h;cases h
    |false=>rw[q]at h;rw[fZ,q,zH (l:=r) h];rfl
noncomputable abbrev bD(b:Bool):AV:=.bool b
noncomputable abbrev fz(out:List PId):AObj:=.map (an aX bD (dE out) 0) out.length
noncomputable abbrev gz(ep:Nat)(out:List PId):AObj:=.row 3 true ep (out.map aX)
noncomputable abbrev bK:AObj:=.row 1 false 0 [.map 1]
noncomputable abbrev fk:AObj:=.row 1 false 0 [.func (.func 72) [] [.ptr 2 0 0 0,.ptr 3 0 0 0]]
theorem rf(out:List PId)(x:PId):eS (some (.bool false)) false (bw true 3 [(0,1),(1,1),(2,1)] (.agg [iV x.a,iV x.i,iV x.n]) (an aX bD (dE out) 0) 0)=some (.bool (gS out x)):=by
  have h:=pE (f:=bD) gK (some (.bool false)) false x (dE out)
  refine h.trans ?_
  unfold gS
  cases q:ip bh x (dE out)with
  |none=>rfl
  | some v=>
    have:v=true:=by
      obtain⟨e,e1,e2⟩:=va q
      obtain⟨y,_,rfl⟩:=gO.1 e1
      exact e2.symm
    subst this;rfl
theorem Gx(out:List PId)(x:PId)(h:gS out x=false):qt (an aX bD (dE out) 0) out.length (.agg [iV x.a,iV x.i,iV x.n]) (.bool true) (bw true 3 [(0,1),(1,1),(2,1)] (.agg [iV x.a,iV x.i,iV x.n]) (an aX bD (dE out) 0) 0)=some (an aX bD (dE (out++[x])) 0,(out++[x]).length):=by
  have hn:ip bh x (dE out)=none:=by
    unfold gS at h
    cases q:ip bh x (dE out)with
    |none=>rfl
    |some v=>rw[q]at h;cases h
  have z:=rP (f:=bD) gK x true (dE out)
  rw[zH hn]at z
  have e:(dE out).length=out.length:=cJ ..
  have e2:dE out++[(x,true)]=dE (out++[x]):=by simp[dE]
  rw[e2,e]at z
  have e3:(dE (out++[x])).length=(out++[x]).length:=cJ ..
  rw[e3]at z
  exact z
theorem aaJ(p:List PStep)(q u:TUnit)(x:PId):kD 72 [aX x,.ptr 2 0 0 0,.ptr 3 0 0 0] (aw [cP p,fz [],bK,dR,fk,bU q,bU u,mH x]) (.tuple []) (aw [cP p,fz [x],bK,dz 8 0 1,fk,bU q,bU u,mH x,gz 0 [x]]):=by
  have hk:=rf [] x
  have hu:=Gx [] x rfl
  exact wcq Tryz.func72 (.go 13<|.ren [0,1,2,3,4,5,6,7,9,8] [] []<|.frz 9 [] .fin) fun a=>et (Bz rt rt rt rt rt rt rt rt rt ti) a
theorem aaI(p:List PStep)(q u:TUnit)(d:PDeed)(x:PId):kD 72 [aX x,.ptr 2 0 0 0,.ptr 3 0 0 0] (aw [cP p,fz [],bK,dR,fk,bU q,bp d,bU u,mH x]) (.tuple []) (aw [cP p,fz [x],bK,dz 9 0 1,fk,bU q,bp d,bU u,mH x,gz 0 [x]]):=by
  have hk:=rf [] x
  have hu:=Gx [] x rfl
  exact wcq Tryz.func72 (.go 13<|.ren [0,1,2,3,4,5,6,7,8,10,9] [] []<|.frz 10 [] .fin) fun a=>et (Sb rt rt rt rt rt rt rt rt rt rt ti) a
theorem aaE(p:List PStep)(q u:TUnit)(ep n:Nat)(out:List PId)(x:PId)(hx:By (gS out x) true):kD 72 [aX x,.ptr 2 0 0 0,.ptr 3 0 0 0] (aw [cP p,fz out,bK,dz 7 ep n,fk,bU q,bU u,gz ep out,mH x]) (.tuple []) (aw [cP p,fz out,bK,dz 7 ep n,fk,bU q,bU u,gz ep out,mH x]):=by
  have hk:=rf out x
  rw[show gS out x=_ from hx]at hk
  have ht:aO (an aX bD (dE out) 0)=0:=bJ gK (fun _=>rfl) _ _
  exact dL Tryz.func72 fun a=>K1 2 (.look<|dU true) hk<|K1 1 (.frz 9 []) (Bz rt (tR 3 true ep 9<|aW Bc out) rt rt rt rt rt (tM out.length 9 (by assumption:aO (an aX bD (dE out) 0)=0)) rt ti)<|Mf a
theorem aaH(p:List PStep)(q u:TUnit)(ep n:Nat)(out:List PId)(x:PId)(hx:By (gS out x) false)(hn:n=out.length)(hb:n<34359738368):kD 72 [aX x,.ptr 2 0 0 0,.ptr 3 0 0 0] (aw [cP p,fz out,bK,dz 7 ep n,fk,bU q,bU u,gz ep out,mH x]) (.tuple []) (aw [cP p,fz (out++[x]),bK,dz 7 (ep+1) (n+1),fk,bU q,bU u,gz (ep+1) (out++[x]),mH x]):=by
  have hk:=rf out x
  rw[show gS out x=_ from hx]at hk
  have hu:=Gx out x hx
  have ht:aO (an aX bD (dE (out++[x])) 0)=0:=bJ gK (fun _=>rfl) _ _
  exact dL Tryz.func72 fun a=>K1 2 (.look<|dU false) hk<|K1 3 (.upd (an aX bD (dE<|out++[x]) 0) (out++[x]).length) hu<|K1 2 .app (cF (aV ep) (by(rw[lM];exact hn):n=(out.map aX).length) (by(refine dC (m:=34359738368) ?_ ?_ ?_<;>omega):small (n+1) 24=true))<|M1 (.obj 7<|aZ 3 true (ep+1)<|(out++[x]).map aX) (congrArg (aZ 3 true<|ep+1)<|cT (f:=aX) (l:=out) (ws:=[x]))<|K1 0 (.frz 9 []) (Bz rt (tR 3 true (ep+1) 9<|aW Bc<|out++[x]) rt rt rt rt rt (tM (out++[x]).length 9 (by assumption:aO (an aX bD (dE (out++[x])) 0)=0)) rt ti)<|Mf a
theorem aaD(p:List PStep)(q u:TUnit)(d:PDeed)(ep n:Nat)(out:List PId)(x:PId)(hx:By (gS out x) true):kD 72 [aX x,.ptr 2 0 0 0,.ptr 3 0 0 0] (aw [cP p,fz out,bK,dz 8 ep n,fk,bU q,bp d,bU u,gz ep out,mH x]) (.tuple []) (aw [cP p,fz out,bK,dz 8 ep n,fk,bU q,bp d,bU u,gz ep out,mH x]):=by
  have hk:=rf out x
  rw[show gS out x=_ from hx]at hk
  have ht:aO (an aX bD (dE out) 0)=0:=bJ gK (fun _=>rfl) _ _
  exact dL Tryz.func72 fun a=>K1 2 (.look<|dU true) hk<|K1 1 (.frz 10 []) (Sb rt (tR 3 true ep 10<|aW Bc out) rt rt rt rt rt rt (tM out.length 10 (by assumption:aO (an aX bD (dE out) 0)=0)) rt ti)<|Mf a
theorem aaG(p:List PStep)(q u:TUnit)(d:PDeed)(ep n:Nat)(out:List PId)(x:PId)(hx:By (gS out x) false)(hn:n=out.length)(hb:n<34359738368):kD 72 [aX x,.ptr 2 0 0 0,.ptr 3 0 0 0] (aw [cP p,fz out,bK,dz 8 ep n,fk,bU q,bp d,bU u,gz ep out,mH x]) (.tuple []) (aw [cP p,fz (out++[x]),bK,dz 8 (ep+1) (n+1),fk,bU q,bp d,bU u,gz (ep+1) (out++[x]),mH x]):=by
  have hk:=rf out x
  rw[show gS out x=_ from hx]at hk
  have hu:=Gx out x hx
  have ht:aO (an aX bD (dE (out++[x])) 0)=0:=bJ gK (fun _=>rfl) _ _
  exact dL Tryz.func72 fun a=>K1 2 (.look<|dU false) hk<|K1 3 (.upd (an aX bD (dE<|out++[x]) 0) (out++[x]).length) hu<|K1 2 .app (cF (aV ep) (by(rw[lM];exact hn):n=(out.map aX).length) (by(refine dC (m:=34359738368) ?_ ?_ ?_<;>omega):small (n+1) 24=true))<|M1 (.obj 8<|aZ 3 true (ep+1)<|(out++[x]).map aX) (congrArg (aZ 3 true<|ep+1)<|cT (f:=aX) (l:=out) (ws:=[x]))<|K1 0 (.frz 10 []) (Sb rt (tR 3 true (ep+1) 10<|aW Bc<|out++[x]) rt rt rt rt rt rt (tM (out++[x]).length 10 (by assumption:aO (an aX bD (dE (out++[x])) 0)=0)) rt ti)<|Mf a
theorem aaC(p:List PStep)(q u:TUnit)(d:PDeed)(ep n:Nat)(out:List PId)(x:PId)(hx:By (gS out x) true):kD 72 [aX x,.ptr 2 0 0 0,.ptr 3 0 0 0] (aw [cP p,fz out,bK,dz 6 ep n,fk,bU q,gz ep out,bp d,bU u,mH x]) (.tuple []) (aw [cP p,fz out,bK,dz 6 ep n,fk,bU q,gz ep out,bp d,bU u,mH x]):=by
  have hk:=rf out x
  rw[show gS out x=_ from hx]at hk
  have ht:aO (an aX bD (dE out) 0)=0:=bJ gK (fun _=>rfl) _ _
  exact dL Tryz.func72 fun a=>K1 2 (.look<|dU true) hk<|K1 1 (.frz 10 []) (Sb rt rt rt (tR 3 true ep 10<|aW Bc out) rt rt rt rt (tM out.length 10 (by assumption:aO (an aX bD (dE out) 0)=0)) rt ti)<|Mf a
theorem aaF(p:List PStep)(q u:TUnit)(d:PDeed)(ep n:Nat)(out:List PId)(x:PId)(hx:By (gS out x) false)(hn:n=out.length)(hb:n<34359738368):kD 72 [aX x,.ptr 2 0 0 0,.ptr 3 0 0 0] (aw [cP p,fz out,bK,dz 6 ep n,fk,bU q,gz ep out,bp d,bU u,mH x]) (.tuple []) (aw [cP p,fz (out++[x]),bK,dz 6 (ep+1) (n+1),fk,bU q,gz (ep+1) (out++[x]),bp d,bU u,mH x]):=by
  have hk:=rf out x
  rw[show gS out x=_ from hx]at hk
  have hu:=Gx out x hx
  have ht:aO (an aX bD (dE (out++[x])) 0)=0:=bJ gK (fun _=>rfl) _ _
  exact dL Tryz.func72 fun a=>K1 2 (.look<|dU false) hk<|K1 3 (.upd (an aX bD (dE<|out++[x]) 0) (out++[x]).length) hu<|K1 2 .app (cF (aV ep) (by(rw[lM];exact hn):n=(out.map aX).length) (by(refine dC (m:=34359738368) ?_ ?_ ?_<;>omega):small (n+1) 24=true))<|M1 (.obj 6<|aZ 3 true (ep+1)<|(out++[x]).map aX) (congrArg (aZ 3 true<|ep+1)<|cT (f:=aX) (l:=out) (ws:=[x]))<|K1 0 (.frz 10 []) (Sb rt rt rt (tR 3 true (ep+1) 10<|aW Bc<|out++[x]) rt rt rt rt (tM (out++[x]).length 10 (by assumption:aO (an aX bD (dE (out++[x])) 0)=0)) rt ti)<|Mf a
noncomputable def ae(out W:List PId):List PId:=W.foldl ye out
theorem mh(out:List PId)(x:PId)(r:List PId):ae out (x::r)=ae (ye out x) r:=rfl
theorem Tt(out:List PId)(x:PId):out.length<=(ye out x).length/\(ye out x).length<=out.length+1:=by
  cases h:gS out x with
  |true=>rw[LW h];omega
  |false=>rw[Fu h,lA,wT];omega
structure AddI(out0 W r:List PId)(ep n:Nat)(out:List PId):Prop where
  hn:n=out.length
  he:ep+1=n
  le:n+r.length<=out0.length+W.length
  f:ae out0 W=ae out r
theorem AddI.first{w:PId}{W r:List PId}{n:Nat}(h:w::r=W)(hn:n=1):AddI [] W r 0 n [w]:=by
  subst h;subst hn
  exact⟨rfl,rfl,by simp only[lC,lN];omega,rfl⟩
theorem AddI.old{out0 W r out:List PId}{w:PId}{ep n:Nat}(h:AddI out0 W (w::r) ep n out)(q:gS out w=true):AddI out0 W r ep n out:=by
  have:=h.le
  exact⟨h.hn,h.he,by simp only[lC]at this;omega,by rw[h.f,mh,LW q]⟩
theorem AddI.new{out0 W r out:List PId}{w:PId}{ep n e2 n2:Nat}(h:AddI out0 W (w::r) ep n out)(q:gS out w=false)(h1:e2=ep+1)(h2:n2=n+1):AddI out0 W r e2 n2 (out++[w]):=by
  have:=h.le
  have:=h.hn
  have:=h.he
  exact⟨by rw[lA,wT];omega,by omega,by simp only[lC]at *;omega,by rw[h.f,mh,Fu q]⟩
theorem AddI.done{out0 W out:List PId}{ep n:Nat}(h:AddI out0 W [] ep n out):out=ae out0 W/\n=(ae out0 W).length/\ep=(ae out0 W).length -1:=by
  have e:ae out0 W=out:=h.f
  have:=h.hn
  have:=h.he
  rw[e];exact⟨rfl,by omega,by omega⟩
theorem Zv(p:List PStep)(q u:TUnit)(hf:kP 39 [eU u,.ls (p.map aK)] (.ls (([]:List PId).map aX))):kD 38 [eU u,.ptr 0 0 0 0,.ptr 4 0 0 0] (aw [cP p,fz [],bK,dR,fk,bU q]) (.tuple []) (aw [cP p,fz [],bK,dR,fk,bU q]):=by
  let q1:=[aZ 1 false 0 [aJ (p.map aK)],AObj.map [] 0,aZ 1 false 0 [AV.map 1],aZ 1 false 0 [ab],aZ 1 false 0 [bx (bz 72) [] [ah 2 0 0 0,ah 3 0 0 0]],aZ 8 false 0 [ak (uLx q)],aZ 8 false 0 [ak (uLx u)]];let q2:=[ah 4 0 0 0,aJ [],iV 0,iV 0];exact dL Tryz.func38 fun a=>Kp 2 hf<|Mg 1<|Y3 [2,8,9,10] (q2,q1) True 0 ti fun _ _=>K1 1 (.frz 6 []) (Bq rt rt rt rt rt rt ti)<|Mf a
theorem Za(p:List PStep)(q u:TUnit)(W:List PId)(hf:kP 39 [eU u,.ls (p.map aK)] (.ls (W.map aX)))(hW:W≠[])(hl:W.length<=4194304):kD 38 [eU u,.ptr 0 0 0 0,.ptr 4 0 0 0] (aw [cP p,fz [],bK,dR,fk,bU q]) (.tuple []) (aw [cP p,fz (ae [] W),bK,dz 6 ((ae [] W).length -1) (ae [] W).length,fk,bU q,gz ((ae [] W).length -1) (ae [] W)]):=by
  have ht:∀out:List PId,aO (an aX bD (dE out) 0)=0:=fun out=>bJ gK (fun _=>rfl) _ _
  exact GJ Tryz.func38<|Kp 2 hf<|Kl 0 9 (ln aX W)<|Mg 0<|ka Nat Nat (List PId) aX W [2,8,9,10] (fun a _=>([ah 4 0 0 0,aJ<|W.map aX,nV W.length,nV a],[aZ 1 false 0 [aJ<|p.map aK],AObj.map [] 0,aZ 1 false 0 [AV.map 1],aZ 1 false 0 [ab],aZ 1 false 0 [bx (bz 72) [] [ah 2 0 0 0,ah 3 0 0 0]],aZ 8 false 0 [ak (uLx q)],aZ 8 false 0 [ak (uLx u)]])) (fun a _ b c d=>([ah 4 0 0 0,aJ<|W.map aX,nV W.length,nV a],[aZ 1 false 0 [aJ<|p.map aK],AObj.map (an aX bD (dE d) 0) d.length,aZ 1 false 0 [AV.map 1],aZ 1 false 0 [bQ 7 b 0 c none],aZ 1 false 0 [bx (bz 72) [] [ah 2 0 0 0,ah 3 0 0 0]],aZ 8 false 0 [ak (uLx q)],aZ 8 false 0 [ak (uLx u)],aZ 3 true b<|d.map aX])) (fun a=>a=W) (fun a b c d=>AddI [] W a b c d) (by rfl) (fun _ _ _ _ _ a b=>Kh 0 a<|Mw .abs (by(exfalso;exact hW b.symm):False)) (fun a _ _ _ b c _ d _ e _ f g=>Kt 0 e<|Mx f<|Ke 4 (aaJ p q u b)<|Kl 0 17 (dq a)<|Mg 0<|M0 (.ren [0,1,2,3,4,5,6,8,7] [] [2,8,9,10])<|M1 (.frz 8 [2,8,9,10]) (TP rt rt rt rt rt rt rt rt ti)<|Mf<|d 0 1 [b]<|by exact AddI.first g rfl) (fun _ _ a b c _ _ _ d e=>Kh 0 d<|M2 (.ren [0,1,2,3,4,5,7,6] [1,7] []) (tN c.length (by exact ht _:aO (an aX bD (dE c) 0)=0)) (tS 3 true a<|aW Bc c)<|M1 (.frz 7 []) (Pe (tR 3 true a 7<|aW Bc c) rt rt rt rt (tM c.length 7 (by exact ht _:aO (an aX bD (dE c) 0)=0)) rt ti)<|Mf<|et (aV<|bP []) (by(obtain⟨z1,z2,z3⟩:=e.done;rw[z3,z2,z1];try rfl;done):(aw [AObj.row 1 false 0 [AV.ls (p.map aK)],AObj.map (an aX bD (dE c) 0) c.length,AObj.row 1 false 0 [AV.map 1],AObj.row 1 false 0 [AV.slice 6 a 0 b none],AObj.row 1 false 0 [AV.func (Fn.func 72) [] [AV.ptr 2 0 0 0,AV.ptr 3 0 0 0]],AObj.row 8 false 0 [AV.agg (uLx q)],AObj.row 3 true a (c.map aX)])=(aw [cP p,fz (ae [] W),bK,dz 6 ((ae [] W).length -1) (ae [] W).length,fk,bU q,gz ((ae [] W).length -1) (ae [] W)]))) fun a _ b c d _ _ e f _ g _ h _ i j=>Kt 0 h<|Mx i<|Ks 4 (gS d e) (fun h=>Me (aaE p q u b c d e h)<|Kl 0 17 (dq a)<|K1 0 (.frz 8 [2,8,9,10]) (TP (tR 3 true b 8<|aW Bc d) rt rt rt rt rt (tM d.length 8 (by exact ht _:aO (an aX bD (dE d) 0)=0)) rt ti)<|Mf<|g b c d<|by exact j.old (by assumption)) fun h=>Me (aaH p q u b c d e h (by exact j.hn)<|by(have z1:=j.le;simp only[lC,lN]at z1;omega))<|Kl 0 17 (dq a)<|K1 0 (.frz 8 [2,8,9,10]) (TP (tR 3 true (b+1) 8<|aW Bc<|d++[e]) rt rt rt rt rt (tM (d++[e]).length 8 (by exact ht _:aO (an aX bD (dE (d++[e])) 0)=0)) rt ti)<|Mf<|g (b+1) (c+1) (d++[e])<|by exact j.new (by assumption) rfl rfl
theorem Wm(p:List PStep)(q u:TUnit)(d:PDeed)(hf:kP 39 [eU u,.ls (p.map aK)] (.ls (([]:List PId).map aX))):kD 38 [eU u,.ptr 0 0 0 0,.ptr 4 0 0 0] (aw [cP p,fz [],bK,dR,fk,bU q,bp d]) (.tuple []) (aw [cP p,fz [],bK,dR,fk,bU q,bp d]):=by
  let q1:=[ak (dLx d)];let q2:=[aZ 1 false 0 [aJ (p.map aK)],AObj.map [] 0,aZ 1 false 0 [AV.map 1],aZ 1 false 0 [ab],aZ 1 false 0 [bx (bz 72) [] [ah 2 0 0 0,ah 3 0 0 0]],aZ 8 false 0 [ak (uLx q)],aZ 28 false 0 q1,aZ 8 false 0 [ak (uLx u)]];let q3:=[ah 4 0 0 0,aJ [],iV 0,iV 0];exact dL Tryz.func38 fun a=>Kp 2 hf<|Mg 1<|Y3 [2,8,9,10] (q3,q2) True 0 ti fun _ _=>K1 1 (.frz 7 []) (Pe rt rt rt rt rt rt rt ti)<|Mf a
theorem Zy(p:List PStep)(q u:TUnit)(d:PDeed)(W:List PId)(hf:kP 39 [eU u,.ls (p.map aK)] (.ls (W.map aX)))(hW:W≠[])(hl:W.length<=4194304):kD 38 [eU u,.ptr 0 0 0 0,.ptr 4 0 0 0] (aw [cP p,fz [],bK,dR,fk,bU q,bp d]) (.tuple []) (aw [cP p,fz (ae [] W),bK,dz 7 ((ae [] W).length -1) (ae [] W).length,fk,bU q,bp d,gz ((ae [] W).length -1) (ae [] W)]):=by
  have ht:∀out:List PId,aO (an aX bD (dE out) 0)=0:=fun out=>bJ gK (fun _=>rfl) _ _
  exact GJ Tryz.func38<|Kp 2 hf<|Kl 0 9 (ln aX W)<|Mg 0<|ka Nat Nat (List PId) aX W [2,8,9,10] (fun a _=>([ah 4 0 0 0,aJ<|W.map aX,nV W.length,nV a],[aZ 1 false 0 [aJ<|p.map aK],AObj.map [] 0,aZ 1 false 0 [AV.map 1],aZ 1 false 0 [ab],aZ 1 false 0 [bx (bz 72) [] [ah 2 0 0 0,ah 3 0 0 0]],aZ 8 false 0 [ak (uLx q)],aZ 28 false 0 [ak (dLx d)],aZ 8 false 0 [ak (uLx u)]])) (fun a _ b c e=>([ah 4 0 0 0,aJ<|W.map aX,nV W.length,nV a],[aZ 1 false 0 [aJ<|p.map aK],AObj.map (an aX bD (dE e) 0) e.length,aZ 1 false 0 [AV.map 1],aZ 1 false 0 [bQ 8 b 0 c none],aZ 1 false 0 [bx (bz 72) [] [ah 2 0 0 0,ah 3 0 0 0]],aZ 8 false 0 [ak (uLx q)],aZ 28 false 0 [ak (dLx d)],aZ 8 false 0 [ak (uLx u)],aZ 3 true b<|e.map aX])) (fun a=>a=W) (fun a b c e=>AddI [] W a b c e) (by rfl) (fun _ _ _ _ _ a b=>Kh 0 a<|Mw .abs (by(exfalso;exact hW b.symm):False)) (fun a _ _ _ b c _ e _ f _ g h=>Kt 0 f<|Mx g<|Ke 4 (aaI p q u d b)<|Kl 0 17 (dq a)<|Mg 0<|M0 (.ren [0,1,2,3,4,5,6,7,9,8] [] [2,8,9,10])<|M1 (.frz 9 [2,8,9,10]) (Bz rt rt rt rt rt rt rt rt rt ti)<|Mf<|e 0 1 [b]<|by exact AddI.first h rfl) (fun _ _ a b c _ _ _ e f=>Kh 0 e<|M2 (.ren [0,1,2,3,4,5,6,8,7] [1,8] []) (tN c.length (by exact ht _:aO (an aX bD (dE c) 0)=0)) (tS 3 true a<|aW Bc c)<|M1 (.frz 8 []) (TP (tR 3 true a 8<|aW Bc c) rt rt rt rt rt (tM c.length 8 (by exact ht _:aO (an aX bD (dE c) 0)=0)) rt ti)<|Mf<|et (aV<|bP []) (by(obtain⟨z1,z2,z3⟩:=f.done;rw[z3,z2,z1];try rfl;done):(aw [AObj.row 1 false 0 [AV.ls (p.map aK)],AObj.map (an aX bD (dE c) 0) c.length,AObj.row 1 false 0 [AV.map 1],AObj.row 1 false 0 [AV.slice 7 a 0 b none],AObj.row 1 false 0 [AV.func (Fn.func 72) [] [AV.ptr 2 0 0 0,AV.ptr 3 0 0 0]],AObj.row 8 false 0 [AV.agg (uLx q)],AObj.row 28 false 0 [AV.agg (dLx d)],AObj.row 3 true a (c.map aX)])=(aw [cP p,fz (ae [] W),bK,dz 7 ((ae [] W).length -1) (ae [] W).length,fk,bU q,bp d,gz ((ae [] W).length -1) (ae [] W)]))) fun a _ b c e _ _ f g _ h _ i _ j k=>Kt 0 i<|Mx j<|Ks 4 (gS e f) (fun i=>Me (aaD p q u d b c e f i)<|Kl 0 17 (dq a)<|K1 0 (.frz 9 [2,8,9,10]) (Bz (tR 3 true b 9<|aW Bc e) rt rt rt rt rt rt (tM e.length 9 (by exact ht _:aO (an aX bD (dE e) 0)=0)) rt ti)<|Mf<|h b c e<|by exact k.old (by assumption)) fun i=>Me (aaG p q u d b c e f i (by exact k.hn)<|by(have z1:=k.le;simp only[lC,lN]at z1;omega))<|Kl 0 17 (dq a)<|K1 0 (.frz 9 [2,8,9,10]) (Bz (tR 3 true (b+1) 9<|aW Bc<|e++[f]) rt rt rt rt rt rt (tM (e++[f]).length 9 (by exact ht _:aO (an aX bD (dE (e++[f])) 0)=0)) rt ti)<|Mf<|h (b+1) (c+1) (e++[f])<|by exact k.new (by assumption) rfl rfl
theorem aa4(p:List PStep)(q u:TUnit)(d:PDeed)(W:List PId)(hf:kP 39 [eU u,.ls (p.map aK)] (.ls (W.map aX)))(hl:W.length<=4194304)(ep n:Nat)(out:List PId)(hn:n=out.length)(he:ep+1=n)(hb:n<=30300000000):kD 38 [eU u,.ptr 0 0 0 0,.ptr 4 0 0 0] (aw [cP p,fz out,bK,dz 6 ep n,fk,bU q,gz ep out,bp d]) (.tuple []) (aw [cP p,fz (ae out W),bK,dz 6 ((ae out W).length -1) (ae out W).length,fk,bU q,gz ((ae out W).length -1) (ae out W),bp d]):=by
  have ht:∀out:List PId,aO (an aX bD (dE out) 0)=0:=fun out=>bJ gK (fun _=>rfl) _ _
  have h0:AddI out W W ep n out:=⟨hn,he,by omega,rfl⟩
  exact GJ Tryz.func38<|Kp 2 hf<|Kl 0 9 (ln aX W)<|Mg 0<|TS aX W ep n out [2,8,9,10] (fun a _ b c e=>([ah 4 0 0 0,aJ<|W.map aX,nV W.length,nV a],[aZ 1 false 0 [aJ<|p.map aK],AObj.map (an aX bD (dE e) 0) e.length,aZ 1 false 0 [AV.map 1],aZ 1 false 0 [bQ 6 b 0 c none],aZ 1 false 0 [bx (bz 72) [] [ah 2 0 0 0,ah 3 0 0 0]],aZ 8 false 0 [ak (uLx q)],aZ 3 true b<|e.map aX,aZ 28 false 0 [ak (dLx d)],aZ 8 false 0 [ak (uLx u)]])) (fun a b c e=>AddI out W a b c e) (by(exact h0)) (fun _ _ a b c _ _ _ e f=>Kh 0 e<|M1 (.frz 8 []) (TP rt (tR 3 true a 8<|aW Bc c) rt rt rt rt (tM c.length 8 (by exact ht _:aO (an aX bD (dE c) 0)=0)) rt ti)<|Mf<|et (aV<|bP []) (by(obtain⟨z1,z2,z3⟩:=f.done;rw[z3,z2,z1];try rfl;done):(aw [AObj.row 1 false 0 [AV.ls (p.map aK)],AObj.map (an aX bD (dE c) 0) c.length,AObj.row 1 false 0 [AV.map 1],AObj.row 1 false 0 [AV.slice 6 a 0 b none],AObj.row 1 false 0 [AV.func (Fn.func 72) [] [AV.ptr 2 0 0 0,AV.ptr 3 0 0 0]],AObj.row 8 false 0 [AV.agg (uLx q)],AObj.row 3 true a (c.map aX),AObj.row 28 false 0 [AV.agg (dLx d)]])=(aw [cP p,fz (ae out W),bK,dz 6 ((ae out W).length -1) (ae out W).length,fk,bU q,gz ((ae out W).length -1) (ae out W),bp d]))) fun a _ b c e _ _ f g h _ i _ j k=>Kt 0 i<|Mx j<|Ks 4 (gS e f) (fun i=>Me (aaC p q u d b c e f i)<|Kl 0 17 (dq a)<|K1 0 (.frz 9 [2,8,9,10]) (Bz rt rt (tR 3 true b 9<|aW Bc e) rt rt rt rt (tM e.length 9 (by exact ht _:aO (an aX bD (dE e) 0)=0)) rt ti)<|Mf<|h b c e<|by exact k.old (by assumption)) fun i=>Me (aaF p q u d b c e f i (by exact k.hn)<|by(have z1:=k.le;simp only[lC,lN]at z1;omega))<|Kl 0 17 (dq a)<|K1 0 (.frz 9 [2,8,9,10]) (Bz rt rt (tR 3 true (b+1) 9<|aW Bc<|e++[f]) rt rt rt rt (tM (e++[f]).length 9 (by exact ht _:aO (an aX bD (dE (e++[f])) 0)=0)) rt ti)<|Mf<|h (b+1) (c+1) (e++[f])<|by exact k.new (by assumption) rfl rfl
noncomputable def bE(u:TUnit)(p:List PStep):List PId:=(dF u p).map am
noncomputable def sC(p:List PStep):List PDeed->TUnit->List PId->List PId
  |[],_,out=>out
  |d::r,u,out=>sC p r (aM u d).1 (ae out (bE (aM u d).1 p))
theorem kQ:∀(W out:List PId),out.length<=(ae out W).length/\(ae out W).length<=out.length+W.length
  |[],_=>⟨af _,af _⟩
  | x::r,out=>by
    have h1:=kQ r (ye out x)
    have h2:=Tt out x
    rw[mh,lC];omega
theorem EZ{W:List PId}(h:W≠[]):0<(ae [] W).length:=by
  cases W with
  |nil=>exact absurd rfl h
  | cons x r=>
    have h1:=kQ r (ye [] x)
    have e:(ye [] x).length=1:=by rw[Fu (show gS [] x=false from rfl)];rfl
    rw[mh];omega
noncomputable abbrev Gw:AV:=.func (.func 38) [] [.ptr 0 0 0 0,.ptr 4 0 0 0]
theorem tE1(p:List PStep)(q u:TUnit)(hf:kP 39 [eU u,.ls (p.map aK)] (.ls ((bE u p).map aX)))(hW:By (bE u p).isEmpty true):kD 38 [eU u,.ptr 0 0 0 0,.ptr 4 0 0 0] (aw [cP p,fz [],bK,dR,fk,bU q]) (.tuple []) (aw [cP p,fz [],bK,dR,fk,bU q]):=by
  rw[pv.1 hW]at hf
  exact Zv p q u hf
theorem tE2(p:List PStep)(q u:TUnit)(d:PDeed)(hf:kP 39 [eU u,.ls (p.map aK)] (.ls ((bE u p).map aX)))(hW:By (bE u p).isEmpty true):kD 38 [eU u,.ptr 0 0 0 0,.ptr 4 0 0 0] (aw [cP p,fz [],bK,dR,fk,bU q,bp d]) (.tuple []) (aw [cP p,fz [],bK,dR,fk,bU q,bp d]):=by
  rw[pv.1 hW]at hf
  exact Wm p q u d hf
theorem aa5(p:List PStep)(q u:TUnit)(d:PDeed)(hf:kP 39 [eU u,.ls (p.map aK)] (.ls ((bE u p).map aX)))(hW:(bE u p).isEmpty=true):kD 38 [eU u,.ptr 0 0 0 0,.ptr 4 0 0 0] (aw [cP p,fz [],bK,dR,fk,bU q,bp d]) (.tuple []) (aw [cP p,fz [],bK,dR,fk,bU q,bp d]):=by
  rw[pv.1 hW]at hf
  exact Wm p q u d hf
theorem nee{l:List PId}(h:By l.isEmpty false):l≠[]:=fun e=>by subst e;cases h
theorem tA1(p:List PStep)(q u:TUnit)(hf:kP 39 [eU u,.ls (p.map aK)] (.ls ((bE u p).map aX)))(hW:By (bE u p).isEmpty false)(hl:(bE u p).length<=4194304):kD 38 [eU u,.ptr 0 0 0 0,.ptr 4 0 0 0] (aw [cP p,fz [],bK,dR,fk,bU q]) (.tuple []) (aw [cP p,fz (ae [] (bE u p)),bK,dz 6 ((ae [] (bE u p)).length -1) (ae [] (bE u p)).length,fk,bU q,gz ((ae [] (bE u p)).length -1) (ae [] (bE u p))]):=Za p q u _ hf (nee hW) hl
theorem tA2(p:List PStep)(q u:TUnit)(d:PDeed)(hf:kP 39 [eU u,.ls (p.map aK)] (.ls ((bE u p).map aX)))(hW:By (bE u p).isEmpty false)(hl:(bE u p).length<=4194304):kD 38 [eU u,.ptr 0 0 0 0,.ptr 4 0 0 0] (aw [cP p,fz [],bK,dR,fk,bU q,bp d]) (.tuple []) (aw [cP p,fz (ae [] (bE u p)),bK,dz 7 ((ae [] (bE u p)).length -1) (ae [] (bE u p)).length,fk,bU q,bp d,gz ((ae [] (bE u p)).length -1) (ae [] (bE u p))]):=Zy p q u d _ hf (nee hW) hl
theorem tB(p:List PStep)(q u:TUnit)(d:PDeed)(hf:kP 39 [eU u,.ls (p.map aK)] (.ls ((bE u p).map aX)))(hl:(bE u p).length<=4194304)(ep n:Nat)(out:List PId)(hn:n=out.length)(he:ep+1=n)(hb:n<=30300000000):kD 38 [eU u,.ptr 0 0 0 0,.ptr 4 0 0 0] (aw [cP p,fz out,bK,dz 6 ep n,fk,bU q,gz ep out,bp d]) (.tuple []) (aw [cP p,fz (ae out (bE u p)),bK,dz 6 ((ae out (bE u p)).length -1) (ae out (bE u p)).length,fk,bU q,gz ((ae out (bE u p)).length -1) (ae out (bE u p)),bp d]):=aa4 p q u d _ hf hl ep n out hn he hb
structure HldI(p:List PStep)(H:List PId)(N:Nat)(r:List PDeed)(u:TUnit)(ep n:Nat)(out:List PId):Prop where
  ok:OkB u
  hn:n=out.length
  he:ep+1=n
  le:n+4194304*r.length<=N
  f:H=sC p r u out
theorem HldI.step{p:List PStep}{H:List PId}{N:Nat}{r:List PDeed}{d:PDeed}{u:TUnit}{ep n:Nat}{out:List PId}(h:HldI p H N (d::r) u ep n out)(h1:OkB (aM u d).1)(hl:(bE (aM u d).1 p).length<=4194304):HldI p H N r (aM u d).1 ((ae out (bE (aM u d).1 p)).length -1) (ae out (bE (aM u d).1 p)).length (ae out (bE (aM u d).1 p)):=by
  have:=h.hn
  have:=h.he
  have z:=h.le
  have:=kQ (bE (aM u d).1 p) out
  rw[lC]at z
  exact⟨h1,rfl,by omega,by omega,h.f⟩
theorem HldI.first{p:List PStep}{H:List PId}{N:Nat}{r:List PDeed}{u:TUnit}(h1:OkB u)(hW:By (bE u p).isEmpty false)(hl:(bE u p).length<=4194304)(hN:4194304*(r.length+1)<=N)(f:H=sC p r u (ae [] (bE u p))):HldI p H N r u ((ae [] (bE u p)).length -1) (ae [] (bE u p)).length (ae [] (bE u p)):=by
  have:=kQ (bE u p) []
  have:=EZ (nee hW)
  exact⟨h1,rfl,by omega,by simp only[lN]at *;omega,f⟩
theorem HldI.done{p:List PStep}{H:List PId}{N:Nat}{u:TUnit}{ep n:Nat}{out:List PId}(h:HldI p H N [] u ep n out):out=H/\n=H.length/\ep=H.length-1:=by
  have e:H=out:=h.f
  have:=h.hn
  have:=h.he
  rw[e];exact⟨rfl,by omega,by omega⟩
structure Hld0(p:List PStep)(H:List PId)(N:Nat)(r:List PDeed)(u:TUnit):Prop where
  ok:OkB u
  le:4194304*r.length<=N
  f:H=sC p r u []
theorem Hld0.step{p:List PStep}{H:List PId}{N:Nat}{r:List PDeed}{d:PDeed}{u:TUnit}(h:Hld0 p H N (d::r) u)(h1:OkB (aM u d).1)(hW:(bE (aM u d).1 p).isEmpty=true):Hld0 p H N r (aM u d).1:=by
  have z:=h.le
  rw[lC]at z
  have f:=h.f
  rw[sC,pv.1 hW]at f
  exact⟨h1,by omega,f⟩
theorem Hld0.go{p:List PStep}{H:List PId}{N:Nat}{r:List PDeed}{d:PDeed}{u:TUnit}(h:Hld0 p H N (d::r) u)(h1:OkB (aM u d).1)(hW:(bE (aM u d).1 p).isEmpty=false)(hl:(bE (aM u d).1 p).length<=4194304):HldI p H N r (aM u d).1 ((ae [] (bE (aM u d).1 p)).length -1) (ae [] (bE (aM u d).1 p)).length (ae [] (bE (aM u d).1 p)):=by
  have z:=h.le
  rw[lC]at z
  exact HldI.first h1 hW hl (by omega) h.f
theorem XU(w:TUnit)(hw:OkB w)(h0:kP 51 [] (eU w))(p:List PStep)(Y:List PDeed)(H:List PId)(hl:Y.length<=7200)(ho:∀d,d∈Y->qe d.it/\jJ d.it.kind=true)(hp:∀u,OkB u->kP 39 [eU u,.ls (p.map aK)] (.ls ((bE u p).map aX)))(hq:∀u,OkB u->(bE u p).length<=4194304)(hW:By (bE w p).isEmpty true)(hH:H=sC p Y w [])(hn:H≠[]):kD 30 [.ls (Y.map aq),Gw] (aw [cP p,fz [],bK,dR,fk]) (.tuple []) (aw [cP p,fz H,bK,dz 5 (H.length-1) H.length,fk,gz (H.length-1) H]):=by
  have ha:=tE1 p w w (hp w hw) hW
  exact GJ Tryz.func30<|Mp h0<|Ke 3 ha<|Kl 1 12 (ln aq Y)<|Mg 0<|TG TUnit Nat Nat (List PId) aq Y w [1,4,11,12,13] (fun a _ b=>([bx (bz 38) [] [ah 0 0 0 0,ah 4 0 0 0],ah 5 0 0 0,aJ<|Y.map aq,nV Y.length,nV a],[aZ 1 false 0 [aJ<|p.map aK],AObj.map [] 0,aZ 1 false 0 [AV.map 1],aZ 1 false 0 [ab],aZ 1 false 0 [bx (bz 72) [] [ah 2 0 0 0,ah 3 0 0 0]],aZ 8 false 0 [ak (uLx b)]])) (fun a _ b c e f=>([bx (bz 38) [] [ah 0 0 0 0,ah 4 0 0 0],ah 5 0 0 0,aJ<|Y.map aq,nV Y.length,nV a],[aZ 1 false 0 [aJ<|p.map aK],AObj.map (an aX bD (dE f) 0) f.length,aZ 1 false 0 [AV.map 1],aZ 1 false 0 [bQ 6 c 0 e none],aZ 1 false 0 [bx (bz 72) [] [ah 2 0 0 0,ah 3 0 0 0]],aZ 8 false 0 [ak (uLx b)],aZ 3 true c<|f.map aX])) (fun a b=>Hld0 p H (30203183104:Nat) a b) (fun a b c e f=>HldI p H (30203183104:Nat) a b c e f) (by(exact⟨hw,by omega,hH⟩)) (fun _ _ _ _ _ _ a b=>Kh 0 a<|Mw .abs (by(exfalso;exact hn b.f):False)) (fun a _ b c _ e f g h i j _ k l=>have c:=ho _<|aA c i;Kt 0 j<|Mx k<|Kp 4 (tX b e (by exact l.ok) (by exact c.1)<|by exact c.2)<|Ks 5 (bE (aM b e).1 p).isEmpty (fun h=>Me (tE2 p (aM b e).1 (aM b e).1 e (by exact hp _ (eV ⟨l.ok,c.1,c.2⟩).2) h)<|Kl 0 26 (dq a)<|K1 0 (.frz 6 [1,4,11,12,13]) (Bq rt rt rt rt rt rt ti)<|Mf<|g (aM b e).1<|by exact l.step (eV ⟨l.ok,c.1,c.2⟩).2 (by assumption)) fun g=>Me (tA2 p (aM b e).1 (aM b e).1 e (by exact hp _ (eV ⟨l.ok,c.1,c.2⟩).2) g<|by exact hq _ (eV ⟨l.ok,c.1,c.2⟩).2)<|Kl 0 26 (dq a)<|Mg 0<|M2 (.ren [0,1,2,3,4,5,7,6] [1,7] [1,4,11,12,13]) (tN (ae []<|bE (aM b e).1 p).length (by exact bJ gK (fun _=>rfl) _ _:aO (an aX bD (dE (ae [] (bE (aM b e).1 p))) 0)=0)) (tS 3 true ((ae []<|bE (aM b e).1 p).length -1)<|aW Bc<|ae []<|bE (aM b e).1 p)<|M1 (.frz 7 [1,4,11,12,13]) (Pe (tR 3 true ((ae []<|bE (aM b e).1 p).length -1) 7<|aW Bc<|ae []<|bE (aM b e).1 p) rt rt rt rt (tM (ae []<|bE (aM b e).1 p).length 7 (by exact bJ gK (fun _=>rfl) _ _:aO (an aX bD (dE (ae [] (bE (aM b e).1 p))) 0)=0)) rt ti)<|Mf<|h (aM b e).1 ((ae []<|bE (aM b e).1 p).length -1) (ae []<|bE (aM b e).1 p).length (ae []<|bE (aM b e).1 p)<|by exact l.go (eV ⟨l.ok,c.1,c.2⟩).2 (by assumption) (hq _ (eV ⟨l.ok,c.1,c.2⟩).2)) (fun _ _ _ a b c _ _ _ e f=>Kh 0 e<|M2 (.ren [0,1,2,3,4,6,5] [1,6] []) (tN c.length (by exact bJ gK (fun _=>rfl) _ _:aO (an aX bD (dE c) 0)=0)) (tS 3 true a<|aW Bc c)<|M1 (.frz 6 []) (Bq (tR 3 true a 6<|aW Bc c) rt rt rt (tM c.length 6 (by exact bJ gK (fun _=>rfl) _ _:aO (an aX bD (dE c) 0)=0)) rt ti)<|Mf<|et (aV<|bP []) (by(obtain⟨z1,z2,z3⟩:=f.done;rw[z3,z2,z1];try rfl;done):(aw [AObj.row 1 false 0 [AV.ls (p.map aK)],AObj.map (an aX bD (dE c) 0) c.length,AObj.row 1 false 0 [AV.map 1],AObj.row 1 false 0 [AV.slice 5 a 0 b none],AObj.row 1 false 0 [AV.func (Fn.func 72) [] [AV.ptr 2 0 0 0,AV.ptr 3 0 0 0]],AObj.row 3 true a (c.map aX)])=(aw [cP p,fz H,bK,dz 5 (H.length-1) H.length,fk,gz (H.length-1) H]))) fun a _ b c e f g _ h i _ j k l _ m n=>have g:=ho _<|aA g k;Kt 0 l<|Mx m<|Kp 4 (tX b h (by exact n.ok) (by exact g.1)<|by exact g.2)<|Ke 5 (tB p (aM b h).1 (aM b h).1 h (by exact hp _ (eV ⟨n.ok,g.1,g.2⟩).2) (by exact hq _ (eV ⟨n.ok,g.1,g.2⟩).2) c e f (by exact n.hn) (by exact n.he)<|by(have z1:=n.le;omega))<|Kl 0 26 (dq a)<|K1 0 (.frz 7 [1,4,11,12,13]) (Pe (tR 3 true ((ae f<|bE (aM b h).1 p).length -1) 7<|aW Bc<|ae f<|bE (aM b h).1 p) rt rt rt rt (tM (ae f<|bE (aM b h).1 p).length 7 (by exact bJ gK (fun _=>rfl) _ _:aO (an aX bD (dE (ae f (bE (aM b h).1 p))) 0)=0)) rt ti)<|Mf<|j (aM b h).1 ((ae f<|bE (aM b h).1 p).length -1) (ae f<|bE (aM b h).1 p).length (ae f<|bE (aM b h).1 p)<|by exact n.step (eV ⟨n.ok,g.1,g.2⟩).2 (hq _ (eV ⟨n.ok,g.1,g.2⟩).2)
def Gc(p:List PStep)(Y:List PDeed)(H:List PId)(x0:Nat×List PDeed×TUnit×Nat×Nat×List PId):Prop:=(Y).drop x0.1=x0.2.1/\HldI p H (30203183104:Nat) x0.2.1 x0.2.2.1 x0.2.2.2.1 x0.2.2.2.2.1 x0.2.2.2.2.2
noncomputable def xw(p:List PStep)(Y:List PDeed)(H:List PId)(x0:Nat×List PDeed×TUnit×Nat×Nat×List PId):List AV×List AObj:=([AV.func (Fn.func 38) [] [AV.ptr 0 0 0 0,AV.ptr 4 0 0 0],AV.ptr 5 0 0 0,AV.ls (Y.map aq),nV Y.length,nV x0.1],[AObj.row 1 false 0 [AV.ls (p.map aK)],AObj.map (an aX bD (dE x0.2.2.2.2.2) 0) x0.2.2.2.2.2.length,AObj.row 1 false 0 [AV.map 1],AObj.row 1 false 0 [AV.slice 6 x0.2.2.2.1 0 x0.2.2.2.2.1 none],AObj.row 1 false 0 [AV.func (Fn.func 72) [] [AV.ptr 2 0 0 0,AV.ptr 3 0 0 0]],AObj.row 8 false 0 [AV.agg (uLx x0.2.2.1)],AObj.row 3 true x0.2.2.2.1 (x0.2.2.2.2.2.map aX)])
theorem XY(w:TUnit)(hw:OkB w)(h0:kP 51 [] (eU w))(p:List PStep)(Y:List PDeed)(H:List PId)(hl:Y.length<=7200)(ho:∀d,d∈Y->qe d.it/\jJ d.it.kind=true)(hp:∀u,OkB u->kP 39 [eU u,.ls (p.map aK)] (.ls ((bE u p).map aX)))(hq:∀u,OkB u->(bE u p).length<=4194304)(hW:By (bE w p).isEmpty false)(hH:H=sC p Y w (ae [] (bE w p))):kD 30 [.ls (Y.map aq),Gw] (aw [cP p,fz [],bK,dR,fk]) (.tuple []) (aw [cP p,fz H,bK,dz 5 (H.length-1) H.length,fk,gz (H.length-1) H]):=by
  have ha:=tA1 p w w (hp w hw) hW (hq w hw)
  have hs:=HldI.first (N:=30203183104) hw hW (hq w hw) (by omega) hH
  exact GJ Tryz.func30<|Mp h0<|Ke 3 ha<|Kl 1 12 (ln aq Y)<|Mg 0<|ML (Nat×List PDeed×TUnit×Nat×Nat×List PId) [1,4,11,12,13] (xw p Y H) (Gc p Y H) (fun a=>a.2.1.length) (0,Y,(w,(ae []<|bE w p).length -1,(ae []<|bE w p).length,ae []<|bE w p)) (aV<|xw p Y H (0,Y,(w,(ae []<|bE w p).length -1,(ae []<|bE w p).length,ae []<|bE w p))) (et (rfl:List.drop 0 (Y)=Y) (by(exact hs):(HldI p H (30203183104:Nat) Y w ((ae [] (bE w p)).length -1) (ae [] (bE w p)).length (ae [] (bE w p))))) fun a b c=>Mc a.2.1 (fun c=>have e:=eu b.1 c;have b:=gJ (J:=fun a b=>HldI p H (30203183104:Nat) a b.1 b.2.1 b.2.2.1 b.2.2.2) (a:=a.2.2) c b.2;Kh 0 e<|M2 (.ren [0,1,2,3,4,6,5] [1,6] []) (tN a.2.2.2.2.2.length (by exact bJ gK (fun _=>rfl) _ _:aO (an aX bD (dE a.2.2.2.2.2) 0)=0)) (tS 3 true a.2.2.2.1<|aW Bc a.2.2.2.2.2)<|M1 (.frz 6 []) (Bq (tR 3 true a.2.2.2.1 6<|aW Bc a.2.2.2.2.2) rt rt rt (tM a.2.2.2.2.2.length 6 (by exact bJ gK (fun _=>rfl) _ _:aO (an aX bD (dE a.2.2.2.2.2) 0)=0)) rt ti)<|Mf<|et (aV<|bP []) (by(obtain⟨z1,z2,z3⟩:=b.done;rw[z3,z2,z1];try rfl;done):(aw [AObj.row 1 false 0 [AV.ls (p.map aK)],AObj.map (an aX bD (dE a.2.2.2.2.2) 0) a.2.2.2.2.2.length,AObj.row 1 false 0 [AV.map 1],AObj.row 1 false 0 [AV.slice 5 a.2.2.2.1 0 a.2.2.2.2.1 none],AObj.row 1 false 0 [AV.func (Fn.func 72) [] [AV.ptr 2 0 0 0,AV.ptr 3 0 0 0]],AObj.row 3 true a.2.2.2.1 (a.2.2.2.2.2.map aX)])=(aw [cP p,fz H,bK,dz 5 (H.length-1) H.length,fk,gz (H.length-1) H]))) fun e f g=>have h:=fX b.1 g;have:=ap h;have i:=ei (enc:=aq) b.1 g;have j:=cw (J:=fun a b=>HldI p H (30203183104:Nat) a b.1 b.2.1 b.2.2.1 b.2.2.2) (a:=a.2.2) g b.2;have k:=ho _<|aA b.1 g;Kt 0 h<|Mx i<|Kp 4 (tX a.2.2.1 e (by exact j.ok) (by exact k.1)<|by exact k.2)<|Ke 5 (tB p (aM a.2.2.1 e).1 (aM a.2.2.1 e).1 e (by exact hp _ (eV ⟨j.ok,k.1,k.2⟩).2) (by exact hq _ (eV ⟨j.ok,k.1,k.2⟩).2) a.2.2.2.1 a.2.2.2.2.1 a.2.2.2.2.2 (by exact j.hn) (by exact j.he)<|by(have z1:=j.le;omega))<|Kl 0 26 (dq a.1)<|K1 0 (.frz 7 [1,4,11,12,13]) (Pe (tR 3 true ((ae a.2.2.2.2.2<|bE (aM a.2.2.1 e).1 p).length -1) 7<|aW Bc<|ae a.2.2.2.2.2<|bE (aM a.2.2.1 e).1 p) rt rt rt rt (tM (ae a.2.2.2.2.2<|bE (aM a.2.2.1 e).1 p).length 7 (by exact bJ gK (fun _=>rfl) _ _:aO (an aX bD (dE (ae a.2.2.2.2.2 (bE (aM a.2.2.1 e).1 p))) 0)=0)) rt ti)<|Mf<|c (a.1+1,f,((aM a.2.2.1 e).1,(ae a.2.2.2.2.2<|bE (aM a.2.2.1 e).1 p).length -1,(ae a.2.2.2.2.2<|bE (aM a.2.2.1 e).1 p).length,ae a.2.2.2.2.2<|bE (aM a.2.2.1 e).1 p)) (et (bf b.1 g) (by exact j.step (eV ⟨j.ok,k.1,k.2⟩).2 (hq _ (eV ⟨j.ok,k.1,k.2⟩).2):(HldI p H (30203183104:Nat) f (aM a.2.2.1 e).1 ((ae a.2.2.2.2.2 (bE (aM a.2.2.1 e).1 p)).length -1) (ae a.2.2.2.2.2 (bE (aM a.2.2.1 e).1 p)).length (ae a.2.2.2.2.2 (bE (aM a.2.2.1 e).1 p)))))<|ed g
theorem Hld0.nil{p:List PStep}{N:Nat}{r:List PDeed}{d:PDeed}{u:TUnit}(h:Hld0 p [] N (d::r) u):By (bE (aM u d).1 p).isEmpty true:=by
  have mono:∀(r:List PDeed)(u:TUnit)(out:List PId),out.length<=(sC p r u out).length:=fun r=>by
    induction r with
    |nil=>exact fun _ _=>af _
    |cons d r ih=>exact fun u out=>bu (kQ _ out).1 (ih _ _)
  cases q:(bE (aM u d).1 p).isEmpty with
  |true=>rfl
  | false=>
    have z:=EZ (nee q)
    have z2:=mono r (aM u d).1 (ae [] (bE (aM u d).1 p))
    have f:=h.f
    rw[sC]at f
    rw[<-f]at z2
    simp only[lN]at z2;omega
theorem Xq(w:TUnit)(hw:OkB w)(h0:kP 51 [] (eU w))(p:List PStep)(Y:List PDeed)(hl:Y.length<=7200)(ho:∀d,d∈Y->qe d.it/\jJ d.it.kind=true)(hp:∀u,OkB u->kP 39 [eU u,.ls (p.map aK)] (.ls ((bE u p).map aX)))(hW:By (bE w p).isEmpty true)(hH:[]=sC p Y w []):kD 30 [.ls (Y.map aq),Gw] (aw [cP p,fz [],bK,dR,fk]) (.tuple []) (aw [cP p,fz [],bK,dR,fk]):=by
  have ha:=tE1 p w w (hp w hw) hW
  exact dL Tryz.func30 fun a=>Mp h0<|Ke 3 ha<|Kl 1 12 (ln aq Y)<|Mg 0<|JY aq Y w [1,4,11,12,13] (fun a _ b=>([bx (bz 38) [] [ah 0 0 0 0,ah 4 0 0 0],ah 5 0 0 0,aJ<|Y.map aq,nV Y.length,nV a],[aZ 1 false 0 [aJ<|p.map aK],AObj.map [] 0,aZ 1 false 0 [AV.map 1],aZ 1 false 0 [ab],aZ 1 false 0 [bx (bz 72) [] [ah 2 0 0 0,ah 3 0 0 0]],aZ 8 false 0 [ak (uLx b)]])) (fun a b=>Hld0 p [] (30203183104:Nat) a b) (by(exact⟨hw,by omega,hH⟩)) (fun _ _ _ _ _ _ b _=>Kh 0 b<|M1 (.frz 5 []) (xM rt rt rt rt rt ti)<|Mf a) fun a _ b c _ e f g h i _ j k=>have c:=ho _<|aA c h;Kt 0 i<|Mx j<|Kp 4 (tX b e (by exact k.ok) (by exact c.1)<|by exact c.2)<|Ke 5 (aa5 p (aM b e).1 (aM b e).1 e (by exact hp _ (eV ⟨k.ok,c.1,c.2⟩).2)<|by exact k.nil)<|Kl 0 26 (dq a)<|K1 0 (.frz 6 [1,4,11,12,13]) (Bq rt rt rt rt rt rt ti)<|Mf<|g (aM b e).1<|by exact k.step (eV ⟨k.ok,c.1,c.2⟩).2 k.nil
theorem YJ(gs:List PGaz)(day:Int)(f:au)(p:List PStep)(X:List PDeed)(ho:kP 20 [iV day,.str f,.ls (gs.map aI)] (.ls (X.map aq)))(hs:kD 30 [.ls (X.map aq),Gw] (aw [cP p,fz [],bK,dR,fk]) (.tuple []) (aw [cP p,fz [],bK,dR,fk])):kP 13 [iV day,.str f,.ls (p.map aK),.ls (gs.map aI)] (.ls (([]:List PId).map aX)):=by
  exact b6 Tryz.func13<|Kp 11 ho<|Ke 0 hs<|Kf 2 bO
theorem RO(gs:List PGaz)(day:Int)(f:au)(p:List PStep)(X:List PDeed)(H:List PId)(ho:kP 20 [iV day,.str f,.ls (gs.map aI)] (.ls (X.map aq)))(hs:kD 30 [.ls (X.map aq),Gw] (aw [cP p,fz [],bK,dR,fk]) (.tuple []) (aw [cP p,fz H,bK,dz 5 (H.length-1) H.length,fk,gz (H.length-1) H])):kP 13 [iV day,.str f,.ls (p.map aK),.ls (gs.map aI)] (.ls (H.map aX)):=by
  have ht:aO (an aX bD (dE H) 0)=0:=bJ gK (fun _=>rfl) _ _
  let q:=List.map aX H;exact b6 Tryz.func13<|Kp 11 ho<|Ke 0 hs<|Mg 2<|M2 (.fsl 0 [] 8 q) ti (cF (aV<|H.length-1) (tA aX H H.length rfl)<|aW Bc H)<|Ml 8 (fc q false<|aW Bc H)<|Mf<|bo<|aJ q
def xj:List PStep->Int->Int
  |[],a=>a
  |s::r,a=>xj r (IntKind.i64.wrap (a+Int.ofNat s.label.length))
noncomputable def BV(gs:List PGaz)(f:au)(p:List PStep):Bool:=IJ gs 24&&(aj (aL 200 (xj p (Int.ofNat f.length)))&&aj (aL 12 (Int.ofNat p.length)))
theorem Sw(gs:List PGaz)(f:au)(p:List PStep)(hf:qh gs)(hp:p.length<2^60):kP 6 [.ls (gs.map aI),.str f,.ls (p.map aK)] (.bool (BV gs f p)):=by
  have keepWrap:True:=trivial
  have rr0 b' (h:(BV gs f p)=b':=by(unfold BV;rw[hj0];simp only[xj,aS,aj,bS, *];first|done|rfl)):=h;exact b6 Tryz.func6<|Mg 4<|JY aK p (Int.ofNat<|List.length f) [0,2,7,8] (fun a _ b=>([aJ<|gs.map aI,aJ<|p.map aK,iV b,nV a],[])) (fun a b=>xj p (Int.ofNat<|List.length f)=xj a b) (by rfl) (fun _ _ a _ _ _ b hj0=>Kl 2 13 (ln aK p)<|Kh 0 b<|Kp 0 (VD gs 24 hf oA oA)<|Kb 0 (IJ gs 24) (fun b=>Kt 0 b<|Ku 0 b<|Kd 0 200 a (fun a _=>Kt 0 (dY a)<|Kl 0 33 (ln aK p)<|Mt (dY a)<|Ku 0 (dY a)<|Kf 0<|cC<|rr0<|aj<|aL 12<|Int.ofNat p.length) fun a _=>Mh (c9 a)<|Mh (c9 a)<|My (c9 a)<|Ky 0<|rr0 false) fun a=>Mh a<|My a<|Ky 2<|rr0 false) fun _ _ a b _ c d e g i _ j hj0=>Kl 2 13 (ln aK p)<|Kt 0 i<|Kx 2 j<|Kl 7 8 (ot (k:=.i64)<|Qy b g oA)<|Mf<|e (IntKind.i64.wrap<|a+Int.ofNat (List.length c.label))<|by(rw[hj0];rfl)
theorem Ga:∀(p:List PStep)(a:Int)(B:Nat),0<=a->(∀s,s∈p->s.label.length<2^47)->a+2^47*(p.length:Int)<2^63->a<=xj p a/\∀s,s∈p->(s.label.length:Int)<=xj p a
  |[],a,_,_,_,_=>⟨Int.le_refl _,fun s hs=>by cases hs⟩
  | s::r,a,B,h0,hl,hb=>by
    have h1:=hl s (ef ..)
    rw[lC]at hb
    have e:IntKind.i64.wrap (a+Int.ofNat s.label.length)=a+(s.label.length:Int):=ug (by simp only[oN];omega) (by simp only[oN];omega)
    have ih:=Ga r (a+(s.label.length:Int)) B (by omega) (fun x hx=>hl x (dA _ hx)) (by omega)
    rw[xj,e]
    refine⟨by omega,fun x hx=>?_⟩
    rcases dP.1 hx with rfl|hx
    · omega
    · exact ih.2 x hx
theorem Kq{gs:List PGaz}{f:au}{p:List PStep}(h:BV gs f p=true)(hs:f.length<2^47)(hl:∀s,s∈p->s.label.length<2^47):IJ gs 24=true/\p.length<2^40/\∀s,s∈p->s.label.length<=2^39:=by
  unfold BV at h
  obtain⟨h1,h2⟩:=mQ.1 h
  obtain⟨h2,h3⟩:=mQ.1 h2
  have h2:=aG (oP h2)
  have h3:=aG (oP h3)
  simp only[oN]at h2 h3
  have z:=Ga p (f.length:Int) 0 (by omega) hl (by omega)
  exact⟨h1,by omega,fun s hs=>by have:=z.2 s hs;omega⟩
theorem Y0{day:Int}{p:au}{gs:List PGaz}{d:PDeed}(h:d∈pR day p gs):jJ d.it.kind=true:=(mQ.1 (zW.1 h).2).1
theorem A6{K V:Type}{keq:K->K->Bool}{k:K}{v:V}:∀{l:List (K×V)},ip keq k l=some v->∃e,e∈l/\keq k e.1=true
  |[],h=>by cases h
  | (j,u)::r,h=>by
    rw[ip]at h
    cases q:keq k j with
    |true=>exact⟨(j,u),ef ..,q⟩
    | false=>
      rw[q]at h
      obtain⟨e,h1,h2⟩:=A6 (l:=r) h
      exact⟨e,dA _ h1,h2⟩
theorem I8{out:List PId}{x y:PId}(h:y∈out\/y=x):y∈ye out x:=by
  cases q:gS out x with
  | true=>
    rw[LW q]
    rcases h with h|rfl
    · exact h
    · unfold gS at q
      cases w:ip bh y (dE out)with
      |none=>rw[w]at q;cases q
      | some v=>
        obtain⟨e,e1,e2⟩:=A6 w
        obtain⟨z,z1,rfl⟩:=gO.1 e1
        have:=sy e2
        subst this;exact z1
  | false=>
    rw[Fu q]
    rcases h with h|rfl
    · exact Ch _ h
    · exact Cg _ (oC.2 rfl)
theorem ux:∀(W out:List PId)(y:PId),y∈out\/y∈W->y∈ae out W
  | [],_,y,h=>by
    rcases h with h|h
    · exact h
    · cases h
  | x::r,out,y,h=>by
    rw[mh]
    refine ux r _ y ?_
    rcases h with h|h
    · exact .inl (I8 (.inl h))
    · rcases dP.1 h with h|h
      · exact .inl (I8 (.inr h))
      · exact .inr h
section
variable(p:List PStep)(hp:p.length<2^40/\∀s,s∈p->s.label.length<=2^39)
include hp
theorem aax{u:TUnit}(hu:OkB u):kP 39 [eU u,.ls (p.map aK)] (.ls ((bE u p).map aX)):=
  Dn u p (dF u p) (M9 u p (bu hu.n (by omega)) hp.1 hp.2) (uX p (bu hu.n (by omega)))
omit hp in
theorem yO{u:TUnit}(hu:OkB u):(bE u p).length<=4194304:=by
  unfold bE
  rw[lM]
  exact uX p (bu hu.n (by omega))
end
theorem MN(p:List PStep):∀(Y:List PDeed)(u:TUnit)(out:List PId),OkB u->(∀d,d∈Y->qe d.it/\jJ d.it.kind=true)->(sC p Y u out).length<=out.length+4194304*Y.length
  |[],_,_,_,_=>af _
  | d::r,u,out,hu,ho=>by
    obtain⟨q1,q2⟩:=ho d (ef ..)
    have h1:=(eV ⟨hu,q1,q2⟩).2
    have ih:=MN p r (aM u d).1 (ae out (bE (aM u d).1 p)) h1 fun x hx=>ho x (dA _ hx)
    have:=(kQ (bE (aM u d).1 p) out).2
    have:=yO p h1
    rw[lC,sC];omega
def YP:PStep:=⟨0,[]⟩
def P6(u:TUnit):PStep:=⟨u.kind,u.label⟩
def cq(p:PId)(u:TUnit):List PStep:=((aE p u).drop 1).map P6
def kq(p:PId)(u:TUnit):List PStep:=bif bX p u then YP::cq p u else[]
theorem wa{p:PId}{u:TUnit}(h:eD p u=true):cq p u=[]/\bX p u=true:=by
  unfold cq;rw[lP h];exact⟨rfl,vv h⟩
theorem G2{p:PId}{u:TUnit}(h:eD p u=false)(h2:be p u.kids=be p []):cq p u=[]/\bX p u=false:=by
  unfold cq;rw[GV h h2];exact⟨rfl,A5 h h2⟩
theorem nr{p:PId}{u w:TUnit}{r:List TUnit}(h:eD p u=false)(h2:be p u.kids=be p (w::r))(h3:bX p w=true):cq p u=P6 w::cq p w/\bX p u=true:=by
  unfold cq
  rw[yl h h2 h3]
  refine⟨?_,M4 h h2 h3⟩
  have e:=jl h3
  have e2:(aE p w).head? =some w:=by
    rw[fF]at e ⊢
    cases h0:eD p w
    · cases ew:be p w.kids with
      |nil=>rw[h0,ew]at e;exact absurd rfl e
      |cons y t=>rfl
    · rfl
  cases ew:aE p w with
  |nil=>exact absurd ew e
  |cons y t=>rw[ew]at e2;cases e2;rfl
theorem AU(p:PId)(u:TUnit):(cq p u).length<=nU u:=by
  have:=lO (p:=p) u
  unfold cq;rw[lM,uy];omega
theorem Er{p:PId}{u:TUnit}(h:By (cq p u).isEmpty false):(cq p u).map aK≠[]:=fun e=>by
  have e:=zk.1 e
  unfold By at h;rw[e]at h;cases h
theorem Ep{p:PId}{u:TUnit}(h:(cq p u).isEmpty=true):cq p u=[]:=pv.1 h
theorem rz{p:PId}{u w:TUnit}{r:List TUnit}(hs:(cq p u).isEmpty=true)(h:eD p u=false)(h2:be p u.kids=be p (w::r))(h3:bX p w=true):False:=by
  rw[(nr h h2 h3).1]at hs;cases hs
theorem xg{p:PId}{u:TUnit}(hs:(cq p u).isEmpty=false)(h:eD p u=true):False:=by
  rw[(wa h).1]at hs;cases hs
theorem AY{p:PId}{u:TUnit}(hs:(cq p u).isEmpty=false)(h:eD p u=false)(h2:be p u.kids=be p []):False:=by
  rw[(G2 h h2).1]at hs;cases hs
theorem PJ(p:PId):∀u:TUnit,nU u<=2^20->((cq p u).isEmpty=true->kP 28 [eU u,aX p] (.tuple [.nils,.bool (bX p u)]))/\((cq p u).isEmpty=false->kP 28 [eU u,aX p] (.tuple [.ls ((cq p u).map aK),.bool (bX p u)])):=by
  refine TUnit.ind fun u ih hn=>?_
  have ihn:∀k,k∈u.kids->By (cq p k).isEmpty true->kP 28 [eU k,aX p] (.tuple [.nils,.bool (bX p k)]):=fun k hk=>(ih k hk (bu (qz (gv hk)) hn)).1
  have ihy:∀k,k∈u.kids->By (cq p k).isEmpty false->kP 28 [eU k,aX p] (.tuple [.ls ((cq p k).map aK),.bool (bX p k)]):=fun k hk=>(ih k hk (bu (qz (gv hk)) hn)).2
  have hkl:=bg u
  refine⟨fun hs=>?_,fun hs=>?_⟩
  · have rr0 b' (h:(bX p u)=b':=by first|rfl|(rw[(wa ‹_›).2])|(rw[(G2 ‹_› hj0).2])|exact(rz hs ‹_› hj0 ‹_›).elim):=h;let q3:=[iV p.a,iV p.i,iV p.n];let q4:=bP [ab,dU (bX p u)];exact b6 Tryz.func28<|Kv 6 (kT ((Tryz.prog).underlying 26) u.act u.item u.n p.a p.i p.n<|aw [aZ 8 false 0 [ak (uLx u)],aZ 3 false 0 [ak q3]])<|Mb (aa u.act p.a&&(aa u.item p.i&&aa u.n p.n)) (fun _=>Kf 1 (cb<|lc<|.cons (cC<|rr0 true) .nil:Le _ (bP [ab,dU true]))) fun _=>Kl 2 16 (ln aY u.kids)<|Mg 0<|Pi (0:Nat) u.kids () [3,15,16,17] (fun a _ _=>([ah 1 0 0 0,aJ<|u.kids.map aY,nV u.kids.length,nV a],[aZ 8 false 0 [ak (uLx u)],aZ 3 false 0 [ak [iV p.a,iV p.i,iV p.n]]])) (fun a b _=>(u.kids).drop a=b/\be p u.kids=be p b) (fun _ a _=>a.length) (et rfl<|by rfl) fun a b c d e=>Mc b (fun a=>have b:=eu d.1 a;have hj0:=gJ (J:=fun a _=>be p u.kids=be p a) (a:=c) a d.2;Kh 0 b<|Kf 1 (cb<|lc<|.cons (cC<|rr0 false) .nil:Le _ (bP [ab,dU false]))) fun b f g=>let i:=[ak [iV b.kind,ax b.label]];let j:=List.map aK<|[PStep.mk b.kind b.label]++cq p b;have l:=fX d.1 g;have:=ap l;have n:=(ei (enc:=aY) d.1 g).trans<|congrArg some<|aR b;have hj0:=cw (J:=fun a _=>be p u.kids=be p a) (a:=c) g d.2;have:=gv<|aA d.1 g;have:=AU p b;Kt 0 l<|Mx n<|Ks 4 (cq p b).isEmpty (fun c=>Mp (ihn b (by exact aA d.1 g) c)<|Kb 5 (bX p b) (fun _=>Kl 7 35 (fc i true (aV 0:az (i)=0))<|Kf 1<|fe (by exact(rz hs (by assumption) hj0 (by assumption)).elim:q4=(AV.tuple [AV.ls i,AV.bool true]))) fun _=>Kl 0 36 (dq a)<|K1 0 (.frz 2 [3,15,16,17]) (cF rt rt ti)<|Mf<|e (a+1) f () (et (bf d.1 g)<|by(rw[hj0,fQ (by assumption)]))<|ed g) fun c=>Mp (ihy b (by exact aA d.1 g) c)<|Kb 5 (bX p b) (fun _=>Mg 6<|M2 .apl (et (by exact Er (by assumption):List.map aK (cq p b)≠[])<|fM 2 aK (cq p b) fun _=>rfl) (et (by(refine aF (m:=2^21) ?_ ?_ ?_<;>(try simp only[lM,lC,lN])<;>omega):small (([AV.agg [iV b.kind,AV.str b.label]]).length+((cq p b).map aK).length) 24=true) rt)<|M1 (.obj 3<|aZ 2 true 0 j) (congrArg (aZ 2 true 0) (by rfl:i++List.map aK (cq p b)=List.map aK ([PStep.mk b.kind b.label]++cq p b)))<|M2 (.fsl 3 [] 35 j) (kg rt rt rt ti) (cF (aV 0) (tA aK ([PStep.mk b.kind b.label]++cq p b) (i++List.map aK (cq p b)).length (by(simp only[lM,lA,lC,lN]<;>omega):([PStep.mk b.kind b.label]++cq p b).length=([AV.agg [iV b.kind,AV.str b.label]]++List.map aK (cq p b)).length))<|aW Ix<|[PStep.mk b.kind b.label]++cq p b)<|Ml 35 (fc j false<|aW Ix<|[PStep.mk b.kind b.label]++cq p b)<|Kf 1<|fe (by exact(rz hs (by assumption) hj0 (by assumption)).elim:q4=(AV.tuple [AV.ls j,AV.bool true]))) fun _=>Kl 0 36 (dq a)<|K1 0 (.frz 2 [3,15,16,17]) (cF rt rt ti)<|Mf<|e (a+1) f () (et (bf d.1 g)<|by(rw[hj0,fQ (by assumption)]))<|ed g
  · have rr0 b' (h:((cq p u).map aK)=b':=by first|rfl|exact(xg hs ‹_›).elim |exact(AY hs ‹_› hj0).elim |(rw[(nr ‹_› hj0 ‹_›).2])|(rw[(nr ‹_› hj0 ‹_›).1,Ep ‹_›];rfl)|(rw[(nr ‹_› hj0 ‹_›).1];rfl)):=h;have rr1 b' (h:(bX p u)=b':=by first|rfl|exact(xg hs ‹_›).elim |exact(AY hs ‹_› hj0).elim |(rw[(nr ‹_› hj0 ‹_›).2])|(rw[(nr ‹_› hj0 ‹_›).1,Ep ‹_›];rfl)|(rw[(nr ‹_› hj0 ‹_›).1];rfl)):=h;let q3:=[iV p.a,iV p.i,iV p.n];exact b6 Tryz.func28<|Kv 6 (kT ((Tryz.prog).underlying 26) u.act u.item u.n p.a p.i p.n<|aw [aZ 8 false 0 [ak (uLx u)],aZ 3 false 0 [ak q3]])<|Mb (aa u.act p.a&&(aa u.item p.i&&aa u.n p.n)) (fun _=>Kf 1 (cb<|.cons (Le.lsn<|rr0 [])<|.cons (cC<|rr1 true) .nil:Le _ (bP [ab,dU true]))) fun _=>Kl 2 16 (ln aY u.kids)<|Mg 0<|Pi (0:Nat) u.kids () [3,15,16,17] (fun a _ _=>([ah 1 0 0 0,aJ<|u.kids.map aY,nV u.kids.length,nV a],[aZ 8 false 0 [ak (uLx u)],aZ 3 false 0 [ak [iV p.a,iV p.i,iV p.n]]])) (fun a b _=>(u.kids).drop a=b/\be p u.kids=be p b) (fun _ a _=>a.length) (et rfl<|by rfl) fun a b c d e=>Mc b (fun a=>have b:=eu d.1 a;have hj0:=gJ (J:=fun a _=>be p u.kids=be p a) (a:=c) a d.2;Kh 0 b<|Kf 1 (cb<|.cons (Le.lsn<|rr0 [])<|.cons (cC<|rr1 false) .nil:Le _ (bP [ab,dU false]))) fun b f g=>let i:=[ak [iV b.kind,ax b.label]];let j:=List.map aK<|[PStep.mk b.kind b.label]++cq p b;have l:=fX d.1 g;have:=ap l;have n:=(ei (enc:=aY) d.1 g).trans<|congrArg some<|aR b;have hj0:=cw (J:=fun a _=>be p u.kids=be p a) (a:=c) g d.2;have:=gv<|aA d.1 g;have:=AU p b;Kt 0 l<|Mx n<|Ks 4 (cq p b).isEmpty (fun c=>Mp (ihn b (by exact aA d.1 g) c)<|Kb 5 (bX p b) (fun _=>Kl 7 35 (fc i true (aV 0:az (i)=0))<|Kf 1<|cb<|.cons (ct<|rr0 i)<|.cons (cC<|rr1 true) .nil) fun _=>Kl 0 36 (dq a)<|K1 0 (.frz 2 [3,15,16,17]) (cF rt rt ti)<|Mf<|e (a+1) f () (et (bf d.1 g)<|by(rw[hj0,fQ (by assumption)]))<|ed g) fun c=>Mp (ihy b (by exact aA d.1 g) c)<|Kb 5 (bX p b) (fun _=>Mg 6<|M2 .apl (et (by exact Er (by assumption):List.map aK (cq p b)≠[])<|fM 2 aK (cq p b) fun _=>rfl) (et (by(refine aF (m:=2^21) ?_ ?_ ?_<;>(try simp only[lM,lC,lN])<;>omega):small (([AV.agg [iV b.kind,AV.str b.label]]).length+((cq p b).map aK).length) 24=true) rt)<|M1 (.obj 3<|aZ 2 true 0 j) (congrArg (aZ 2 true 0) (by rfl:i++List.map aK (cq p b)=List.map aK ([PStep.mk b.kind b.label]++cq p b)))<|M2 (.fsl 3 [] 35 j) (kg rt rt rt ti) (cF (aV 0) (tA aK ([PStep.mk b.kind b.label]++cq p b) (i++List.map aK (cq p b)).length (by(simp only[lM,lA,lC,lN]<;>omega):([PStep.mk b.kind b.label]++cq p b).length=([AV.agg [iV b.kind,AV.str b.label]]++List.map aK (cq p b)).length))<|aW Ix<|[PStep.mk b.kind b.label]++cq p b)<|Ml 35 (fc j false<|aW Ix<|[PStep.mk b.kind b.label]++cq p b)<|Kf 1<|cb<|.cons (ct<|rr0 j)<|.cons (cC<|rr1 true) .nil) fun _=>Kl 0 36 (dq a)<|K1 0 (.frz 2 [3,15,16,17]) (cF rt rt ti)<|Mf<|e (a+1) f () (et (bf d.1 g)<|by(rw[hj0,fQ (by assumption)]))<|ed g
theorem Yj(p:PId)(u:TUnit)(b:Bool)(hw:kP 28 [eU u,aX p] (.tuple [.nils,.bool b])):kP 10 [eU u,aX p] (.tuple [.ls ((bif b then[YP]else[]).map aK),.bool b]):=by
  have rr0 b' (h:((bif b then[YP]else[]).map aK)=b':=by(simp only[*];first|done|rfl)):=h;have rr1 b' (h:(b)=b':=by(simp only[*];first|done|rfl)):=h;let q:=[ak [iV 0,ax []]];exact b6 Tryz.func10<|Kp 5 hw<|Kn 6 b (fun _=>Kf 1 (cb<|.cons (Le.lsn<|rr0 [])<|.cons (cC<|rr1 false) .nil:Le _ (bP [ab,dU false]))) fun _=>Kf 5 (cb<|.cons (Le.lsp (rr0 q)<|by rfl)<|.cons (cC<|rr1 true) .nil:Le _ (bP [lY q true,dU true]))
theorem Yx(p:PId)(u:TUnit)(l:List PStep)(h0:l.map aK≠[])(hl:l.length<=2^20)(hw:kP 28 [eU u,aX p] (.tuple [.ls (l.map aK),.bool true])):kP 10 [eU u,aX p] (.tuple [.ls ((YP::l).map aK),.bool true]):=by
  let q:=List.map aK ([PStep.mk 0 []]++l);let q1:=[ak [iV 0,ax []]];exact b6 Tryz.func10<|Kl 2 4 bO<|Kp 2 hw<|Mg 10<|M2 .apl (et (by assumption:List.map aK l≠[])<|fM 2 aK l fun _=>rfl) (et (by(refine aF (m:=2^21) ?_ ?_ ?_<;>(try simp only[lM,lC,lN])<;>omega):small (([AV.agg [iV 0,AV.str []]]).length+(l.map aK).length) 24=true) rt)<|M1 (.obj 2<|aZ 2 true 0 q) (congrArg (aZ 2 true 0) (by rfl:q1++List.map aK l=List.map aK ([PStep.mk 0 []]++l)))<|Mg 0<|M2 (.fsl 2 [] 4 q) (cF rt rt ti) (cF (aV 0) (tA aK ([PStep.mk 0 []]++l) (q1++List.map aK l).length (by(simp only[lM,lA,lC,lN]<;>omega):([PStep.mk 0 []]++l).length=([AV.agg [iV 0,AV.str []]]++List.map aK l).length))<|aW Ix<|[PStep.mk 0 []]++l)<|Ml 4 (fc q false<|aW Ix<|[PStep.mk 0 []]++l)<|Kf 0<|bo<|bP [aJ q,dU true]
theorem Qt{p:PId}{u:TUnit}(h:(cq p u).isEmpty=false):bX p u=true:=by
  cases hu:bX p u with
  |true=>rfl
  |false=>unfold cq at h;rw[uZ hu]at h;cases h
theorem M7(p:PId)(u:TUnit)(hn:nU u<=2^20):kP 10 [eU u,aX p] (.tuple [.ls ((kq p u).map aK),.bool (bX p u)]):=by
  have h:=PJ p u hn
  unfold kq
  cases he:(cq p u).isEmpty with
  |true=>rw[Ep he];exact Yj p u _ (h.1 he)
  | false=>
    have z:=h.2 he
    rw[Qt he]at z ⊢
    exact Yx p u _ (Er he) (bu (AU p u) hn) z
theorem Td(k:Int)(h0:0<=k)(h7:k<=7):kP 34 [iV k] (.tuple [.str (bL k),.bool true]):=by
  rcases J4 h0 h7 with rfl|rfl|rfl|rfl|rfl|rfl|rfl|rfl<;>exact bY.closed (C:=C) (k:=60) jX (ev 60) rfl (by kernel_rfl)
def lq(l:List PStep):List au:=l.flatMap fun s=>bif iR s then[bL s.kind]else[bL s.kind,s.label]
def aay(p:List PStep):au:=Lib.join (lq p) [32]
theorem To{s:PStep}{r:List PStep}(h:iR s=true):lq (s::r)=bL s.kind::lq r:=by
  unfold lq;rw[zJ,h];rfl
theorem Tm{s:PStep}{r:List PStep}(h:iR s=false):lq (s::r)=bL s.kind::s.label::lq r:=by
  unfold lq;rw[zJ,h];rfl
theorem Oh{s:au}(h:gI s=true):s.length<=7:=by
  unfold gI at h
  simp only[bZ]at h
  have h1:=fP h.2.1
  have h2:=fP h.2.2.2.1
  have h3:=congrArg List.length (F4 (eN kc s) s)
  rw[lA]at h3
  simp only[oN]at h1 h2
  omega
theorem P8{s:PStep}(h:iR s=true\/nw s=true):s.label.length<=7/\0<=s.kind/\s.kind<=7:=by
  rcases h with h|h
  · unfold iR at h
    obtain⟨h1,h2⟩:=mQ.1 h
    have h1:=i9 h1
    rw[xP h2]
    exact⟨b8 _,by omega,by omega⟩
  · unfold nw at h
    simp only[bZ]at h
    have h1:=ap h.1
    have h2:=fP h.2.1
    exact⟨Oh h.2.2,by omega,h2⟩
theorem I7{p:List PStep}(h:jZ p=true):p.length<=9/\∀s,s∈p->s.label.length<=7/\0<=s.kind/\s.kind<=7:=by
  unfold jZ at h
  obtain⟨h1,h2⟩:=mQ.1 h
  have h2:=fP h2
  simp only[oN]at h2
  refine⟨by omega,fun s hs=>P8 ?_⟩
  cases p with
  |nil=>cases hs
  | cons x r=>
    rw[LZ]at h1
    obtain⟨a,b⟩:=mQ.1 h1
    rcases dP.1 hs with rfl|hs
    · exact Bool.or_eq_true_iff.1 a
    · exact .inr (kX.1 b s hs)
theorem pI(k:Int):(bL k).length<=9:=by unfold bL;split<;>decide
theorem vU(sep:au):∀l:List au,(∀s,s∈l->s.length<=9)->(Lib.join l sep).length<=l.length*(9+sep.length)
  |[],_=>b8 _
  |[s],h=>by have:=h s (oC.2 rfl);show(s++[]).length<=_;rw[eF];simp only[wT];omega
  | s::t::r,h=>by
    have h1:=h s (ef ..)
    have h2:=vU sep (t::r) fun x hx=>h x (dA _ hx)
    show(s++(sep++Lib.join (t::r) sep)).length<=_
    rw[lA,lA,lC,qw];omega
theorem Tp{p:List PStep}(h:∀s,s∈p->s.label.length<=7/\0<=s.kind/\s.kind<=7):(lq p).length<=2*p.length/\∀x,x∈lq p->x.length<=9:=by
  induction p with
  |nil=>exact⟨af _,fun _ h=>by cases h⟩
  | cons s r ih=>
    obtain⟨h1,h2⟩:=ih fun x hx=>h x (dA _ hx)
    have h3:=h s (ef ..)
    have h4:=pI s.kind
    cases hb:iR s with
    | true=>
      rw[To hb]
      refine⟨by simp only[lC];omega,fun x hx=>?_⟩
      rcases dP.1 hx with rfl|hx
      · exact h4
      · exact h2 x hx
    | false=>
      rw[Tm hb]
      refine⟨by simp only[lC];omega,fun x hx=>?_⟩
      rcases dP.1 hx with rfl|hx
      · exact h4
      · rcases dP.1 hx with rfl|hx
        · omega
        · exact h2 x hx
theorem EQ{p r:List PStep}{xs:List au}(hp:(lq p).length<=2^20)(h:lq p=xs++lq r):xs.length+(lq r).length<=2^20:=by
  rw[h,lA]at hp;exact hp
theorem Wa{p:List PStep}{n:Nat}{l:List au}(h1:n=l.length)(h2:lq p=l++lq []):n=(lq p).length/\lq p=l:=by
  have e:lq p=l:=h2.trans (eF l)
  rw[e];exact⟨h1,rfl⟩
theorem Tn(p:List PStep)(hp:jZ p=true):kP 12 [.ls (p.map aK)] (.str (aay p)):=by
  obtain⟨hl,hs⟩:=I7 hp
  have hV:=pV p (by omega) fun s h=>bu (hs s h).1 (by decide)
  rw[hp]at hV
  have hN:∀s,s∈p->kP 34 [iV s.kind] (.tuple [.str (bL s.kind),.bool true]):=fun s h=>Td s.kind (hs s h).2.1 (hs s h).2.2
  obtain⟨h1,h2⟩:=Tp hs
  have h3:=vU [32] (lq p) h2
  have h4:(lq p).length<=18:=by omega
  have h5:(Lib.join (lq p) [32]).length<=140737488355328:=by
    have:(lq p).length *(9+1)<=180:=by omega
    exact bu h3 (bu this (by decide))
  have hJ:=ET (lq p) [32] (by omega) h5
  let q1:=ax (Lib.join (lq p) [32]);exact b6 Tryz.func12<|Kp 1 hV<|Kl 4 12 (ln aK p)<|Mg 0<|ka Nat Nat (List au) aK p [3,11,12,13] (fun a _=>([ab,aJ<|p.map aK,nV p.length,nV a],[])) (fun a _ b c d=>([bQ 0 b 0 c none,aJ<|p.map aK,nV p.length,nV a],[aZ 1 true b<|d.map nP])) (fun a=>a=p) (fun a _ b c=>b=c.length/\lq p=c++lq a) (by rfl) (fun _ _ _ _ _ a b=>Kh 0 a<|Kp 0 (bY.onArgs (.cons (Le.lsn (by(rw[<-b];rfl):((lq p).map nP)=[]))<|lc .nil) hJ:kP 36 [ab,ax [32]] _)<|Kf 0<|bo q1) (fun a _ b _ c d _ e f g _ i j=>Kt 0 g<|Mx i<|Kp 4 (hN c<|by exact aA b f)<|Kp 10 (pU c)<|Kn 0 (aa c.kind 0&&dH c.label []) (fun _=>Kl 6 35 (dq a)<|Mg 0<|M0 (.ren [1,0] [] [3,11,12,13])<|M1 (.frz 1 [3,11,12,13]) (et rt ti)<|Mf<|e 1 2 [bL c.kind,c.label]<|by exact⟨rfl,by rw[<-j,Tm (by assumption)];rfl⟩) fun _=>Kl 0 35 (dq a)<|Mg 0<|M0 (.ren [1,0] [] [3,11,12,13])<|M1 (.frz 1 [3,11,12,13]) (et rt ti)<|Mf<|e 0 1 [bL c.kind]<|by exact⟨rfl,by rw[<-j,To (by assumption)];rfl⟩) (fun _ _ a b c _ _ _ d e=>let f:=List.map nP c;Kh 0 d<|Mg 0<|M2 (.fsl 0 [] 36 f) ti (cF (aV a) (tA nP c b (oA:(c).length=b))<|aW KE c)<|Ml 36 (fc f false<|aW KE c)<|Mp (bY.onArgs (.cons (ct (by(rw[(Wa e.1 e.2).2]):((lq p).map nP)=(c.map nP)))<|lc .nil) hJ:kP 36 [aJ f,ax [32]] _)<|Kf 0<|bo q1) fun a _ b c d e _ f g _ i j k _ l n=>Kt 0 k<|Mx l<|Kp 4 (hN f<|by exact aA e j)<|K1 7 .app (cF (aV b) (by(rw[lM];exact n.1):c=(d.map nP).length) (by(have z:=EQ (by omega) n.2;refine aF (m:=2^21) ?_ ?_ ?_<;>(try simp only[lA,lC,lN,lM])<;>omega):small (c+1) 16=true))<|M1 (.obj 0<|aZ 1 true (b+1)<|(d++[bL f.kind]).map nP) (congrArg (aZ 1 true<|b+1)<|cT (f:=nP) (l:=d) (ws:=[bL f.kind]))<|Kp 1 (pU f)<|Kn 0 (aa f.kind 0&&dH f.label []) (fun _=>K1 3 .app (cF (aV<|b+1) (by(have z:=n.1;simp only[lM,lA,lC,lN];omega):c+1=((d++[bL f.kind]).map nP).length) (by(have z:=EQ (by omega) n.2;refine aF (m:=2^21) ?_ ?_ ?_<;>(try simp only[lA,lC,lN,lM])<;>omega):small (c+1+1) 16=true))<|M1 (.obj 0<|aZ 1 true (b+1+1)<|(d++[bL f.kind]++[f.label]).map nP) (congrArg (aZ 1 true<|b+1+1)<|cT (f:=nP) (l:=d++[bL f.kind]) (ws:=[f.label]))<|Kl 1 35 (dq a)<|K1 0 (.frz 1 [3,11,12,13]) (et (tR 1 true (b+1+1) 1<|aW KE<|d++[bL f.kind]++[f.label]) ti)<|Mf<|i (b+1+1) (c+1+1) (d++[bL f.kind]++[f.label])<|by exact⟨by(have:=n.1;simp only[lA,lC,lN];omega),by rw[n.2,Tm (by assumption)];simp⟩) fun _=>Kl 0 35 (dq a)<|K1 0 (.frz 1 [3,11,12,13]) (et (tR 1 true (b+1) 1<|aW KE<|d++[bL f.kind]) ti)<|Mf<|i (b+1) (c+1) (d++[bL f.kind])<|by exact⟨by(have:=n.1;simp only[lA,lC,lN];omega),by rw[n.2,To (by assumption)];simp⟩
theorem J6:KeyOf au false 1 [(0,2)] nP dH:=⟨fun a b=>rfl,fun a b h=>xP h,fun a=>by rw[mF];simp,fun a=>by(simp[nP,kN,jf];rw[mF];simp),fun a=>rfl⟩
noncomputable abbrev jG(out:List au):List (au×Bool):=out.map fun y=>(y,true)
noncomputable def qB(out:List au)(x:au):Bool:=(ip dH x (jG out)).isSome
noncomputable def iX(out:List au)(x:au):List au:=match qB out x with|true=>out|false=>out++[x]
theorem LX{out:List au}{x:au}(h:qB out x=true):iX out x=out:=by unfold iX;rw[h]
theorem Ft{out:List au}{x:au}(h:qB out x=false):iX out x=out++[x]:=by unfold iX;rw[h]
noncomputable abbrev fT(out:List au):AObj:=.map (an nP bD (jG out) 0) out.length
noncomputable abbrev mr(ep:Nat)(out:List au):AObj:=.row 1 true ep (out.map nP)
noncomputable abbrev dw:AObj:=.row 1 false 0 [.func (.func 66) [] [.ptr 2 0 0 0,.ptr 3 0 0 0]]
theorem EM(out:List au)(x:au):eS (some (.bool false)) false (bw false 1 [(0,2)] (.str x) (an nP bD (jG out) 0) 0)=some (.bool (qB out x)):=by
  have h:=pE (f:=bD) J6 (some (.bool false)) false x (jG out)
  refine h.trans ?_
  unfold qB
  cases q:ip dH x (jG out)with
  |none=>rfl
  | some v=>
    have:v=true:=by
      obtain⟨e,e1,e2⟩:=va q
      obtain⟨y,_,rfl⟩:=gO.1 e1
      exact e2.symm
    subst this;rfl
theorem PH(out:List au)(x:au)(h:qB out x=false):qt (an nP bD (jG out) 0) out.length (.str x) (.bool true) (bw false 1 [(0,2)] (.str x) (an nP bD (jG out) 0) 0)=some (an nP bD (jG (out++[x])) 0,(out++[x]).length):=by
  have hn:ip dH x (jG out)=none:=by
    unfold qB at h
    cases q:ip dH x (jG out)with
    |none=>rfl
    |some v=>rw[q]at h;cases h
  have z:=rP (f:=bD) J6 x true (jG out)
  rw[zH hn]at z
  have e:(jG out).length=out.length:=cJ ..
  have e2:jG out++[(x,true)]=jG (out++[x]):=by simp[jG]
  rw[e2,e]at z
  have e3:(jG (out++[x])).length=(out++[x]).length:=cJ ..
  rw[e3]at z
  exact z
theorem uA(out:List au):aO (an nP bD (jG out) 0)=0:=bJ J6 (fun _=>rfl) _ _
theorem RJ(u:TUnit)(id:PId)(l:List PStep)(b:Bool)(s:au)(hF:kP 10 [eU u,aX id] (.tuple [.ls (l.map aK),.bool b]))(hM:kP 12 [.ls (l.map aK)] (.str s)):kP 32 [eU u,aX id] (.tuple [.str s,.bool b]):=by
  exact b6 Tryz.func32<|Kp 5 hF<|Kp 5 hM<|Kf 2<|bo<|bP [ax s,dU b]
theorem aaA(p:PId)(q u:TUnit)(x:au):kD 66 [.str x,.ptr 2 0 0 0,.ptr 3 0 0 0] (aw [nQ p,fT [],bK,dR,dw,bU q,bU u]) (.tuple []) (aw [nQ p,fT [x],bK,dz 7 0 1,dw,bU q,bU u,mr 0 [x]]):=by
  have hk:=EM [] x
  have hu:=PH [] x rfl
  exact dL Tryz.func66 fun a=>Kf 12 a
theorem aaz(p:PId)(q u:TUnit)(d:PDeed)(x:au):kD 66 [.str x,.ptr 2 0 0 0,.ptr 3 0 0 0] (aw [nQ p,fT [],bK,dR,dw,bU q,bp d,bU u]) (.tuple []) (aw [nQ p,fT [x],bK,dz 8 0 1,dw,bU q,bp d,bU u,mr 0 [x]]):=by
  have hk:=EM [] x
  have hu:=PH [] x rfl
  exact dL Tryz.func66 fun a=>Kf 12 a
theorem aby(p:PId)(q u:TUnit)(d:PDeed)(ep n:Nat)(out:List au)(x:au)(hx:By (qB out x) true):kD 66 [.str x,.ptr 2 0 0 0,.ptr 3 0 0 0] (aw [nQ p,fT out,bK,dz 6 ep n,dw,bU q,mr ep out,bp d,bU u]) (.tuple []) (aw [nQ p,fT out,bK,dz 6 ep n,dw,bU q,mr ep out,bp d,bU u]):=by
  have hk:=EM out x
  rw[show qB out x=_ from hx]at hk
  have ht:=uA out
  exact dL Tryz.func66 fun a=>K1 1 (.look<|dU true) hk<|Kf 1 a
theorem abz(p:PId)(q u:TUnit)(d:PDeed)(ep n:Nat)(out:List au)(x:au)(hx:By (qB out x) false)(hn:n=out.length)(hb:n<34359738368):kD 66 [.str x,.ptr 2 0 0 0,.ptr 3 0 0 0] (aw [nQ p,fT out,bK,dz 6 ep n,dw,bU q,mr ep out,bp d,bU u]) (.tuple []) (aw [nQ p,fT (out++[x]),bK,dz 6 (ep+1) (n+1),dw,bU q,mr (ep+1) (out++[x]),bp d,bU u]):=by
  have hk:=EM out x
  rw[show qB out x=_ from hx]at hk
  have hu:=PH out x hx
  have ht:=uA (out++[x])
  exact dL Tryz.func66 fun a=>K1 1 (.look<|dU false) hk<|K1 3 (.upd (an nP bD (jG<|out++[x]) 0) (out++[x]).length) hu<|K1 2 .app (cF (aV ep) (by(rw[lM];exact hn):n=(out.map nP).length) (by(refine dC (m:=34359738368) ?_ ?_ ?_<;>omega):small (n+1) 16=true))<|M1 (.obj 6<|aZ 1 true (ep+1)<|(out++[x]).map nP) (congrArg (aZ 1 true<|ep+1)<|cT (f:=nP) (l:=out) (ws:=[x]))<|Kf 0 a
theorem Zq(p:PId)(q u:TUnit)(x:au)(hm:kP 32 [eU u,aX p] (.tuple [.str x,.bool false])):kD 31 [eU u,.ptr 0 0 0 0,.ptr 4 0 0 0] (aw [nQ p,fT [],bK,dR,dw,bU q]) (.tuple []) (aw [nQ p,fT [],bK,dR,dw,bU q]):=by
  exact dL Tryz.func31 fun a=>Kp 2 hm<|K1 6 (.frz 6 []) (Bq rt rt rt rt rt rt ti)<|Mf a
theorem Zw(p:PId)(q u:TUnit)(x:au)(hm:kP 32 [eU u,aX p] (.tuple [.str x,.bool true])):kD 31 [eU u,.ptr 0 0 0 0,.ptr 4 0 0 0] (aw [nQ p,fT [],bK,dR,dw,bU q]) (.tuple []) (aw [nQ p,fT [x],bK,dz 6 0 1,dw,bU q,mr 0 [x]]):=by
  have ht:=uA [x]
  exact dL Tryz.func31 fun a=>Kp 2 hm<|Ke 8 (aaA p q u x)<|M0 (.ren [0,1,2,3,4,5,7,6] [] [])<|M1 (.frz 7 []) (Pe rt rt rt rt rt rt rt ti)<|Mf a
theorem ZU(p:PId)(q u:TUnit)(d:PDeed)(x:au)(hm:kP 32 [eU u,aX p] (.tuple [.str x,.bool false])):kD 31 [eU u,.ptr 0 0 0 0,.ptr 4 0 0 0] (aw [nQ p,fT [],bK,dR,dw,bU q,bp d]) (.tuple []) (aw [nQ p,fT [],bK,dR,dw,bU q,bp d]):=by
  exact dL Tryz.func31 fun a=>Kp 2 hm<|K1 6 (.frz 7 []) (Pe rt rt rt rt rt rt rt ti)<|Mf a
theorem Zk(p:PId)(q u:TUnit)(d:PDeed)(x:au)(hm:kP 32 [eU u,aX p] (.tuple [.str x,.bool true])):kD 31 [eU u,.ptr 0 0 0 0,.ptr 4 0 0 0] (aw [nQ p,fT [],bK,dR,dw,bU q,bp d]) (.tuple []) (aw [nQ p,fT [x],bK,dz 7 0 1,dw,bU q,bp d,mr 0 [x]]):=by
  have ht:=uA [x]
  exact dL Tryz.func31 fun a=>Kp 2 hm<|Ke 8 (aaz p q u d x)<|M0 (.ren [0,1,2,3,4,5,6,8,7] [] [])<|M1 (.frz 8 []) (TP rt rt rt rt rt rt rt rt ti)<|Mf a
theorem Zx(p:PId)(q u:TUnit)(d:PDeed)(ep n:Nat)(out:List au)(x:au)(hm:kP 32 [eU u,aX p] (.tuple [.str x,.bool false])):kD 31 [eU u,.ptr 0 0 0 0,.ptr 4 0 0 0] (aw [nQ p,fT out,bK,dz 6 ep n,dw,bU q,mr ep out,bp d]) (.tuple []) (aw [nQ p,fT out,bK,dz 6 ep n,dw,bU q,mr ep out,bp d]):=by
  have ht:=uA out
  exact dL Tryz.func31 fun a=>Kp 2 hm<|K1 6 (.frz 8 []) (TP rt (tR 1 true ep 8<|aW KE out) rt rt rt rt (tM out.length 8 (by assumption:aO (an nP bD (jG out) 0)=0)) rt ti)<|Mf a
theorem Zz(p:PId)(q u:TUnit)(d:PDeed)(ep n:Nat)(out:List au)(x:au)(hx:qB out x=true)(hm:kP 32 [eU u,aX p] (.tuple [.str x,.bool true])):kD 31 [eU u,.ptr 0 0 0 0,.ptr 4 0 0 0] (aw [nQ p,fT out,bK,dz 6 ep n,dw,bU q,mr ep out,bp d]) (.tuple []) (aw [nQ p,fT out,bK,dz 6 ep n,dw,bU q,mr ep out,bp d]):=by
  have ht:=uA out
  exact dL Tryz.func31 fun a=>Kp 2 hm<|Ke 8 (aby p q u d ep n out x hx)<|M1 (.frz 8 []) (TP rt (tR 1 true ep 8<|aW KE out) rt rt rt rt (tM out.length 8 (by assumption:aO (an nP bD (jG out) 0)=0)) rt ti)<|Mf a
theorem Zj(p:PId)(q u:TUnit)(d:PDeed)(ep n:Nat)(out:List au)(x:au)(hx:qB out x=false)(hn:n=out.length)(hb:n<34359738368)(hm:kP 32 [eU u,aX p] (.tuple [.str x,.bool true])):kD 31 [eU u,.ptr 0 0 0 0,.ptr 4 0 0 0] (aw [nQ p,fT out,bK,dz 6 ep n,dw,bU q,mr ep out,bp d]) (.tuple []) (aw [nQ p,fT (out++[x]),bK,dz 6 (ep+1) (n+1),dw,bU q,mr (ep+1) (out++[x]),bp d]):=by
  have ht:=uA (out++[x])
  exact dL Tryz.func31 fun a=>Kp 2 hm<|Ke 8 (abz p q u d ep n out x hx hn hb)<|M1 (.frz 8 []) (TP rt (tR 1 true (ep+1) 8<|aW KE<|out++[x]) rt rt rt rt (tM (out++[x]).length 8 (by assumption:aO (an nP bD (jG (out++[x])) 0)=0)) rt ti)<|Mf a
end Go.Proofs.YtdhkhecalpkngaaGreatDoor
