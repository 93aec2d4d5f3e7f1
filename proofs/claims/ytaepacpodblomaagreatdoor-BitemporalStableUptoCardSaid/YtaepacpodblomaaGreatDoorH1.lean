/- Functions walked: what each of them answers, for Appending gazettes changes neither the book known after k gazettes nor the days that the k-th gazette changed (arguments of bulk at most 1048576): part 1. Conditions: those that each theorem names. -/
import Derived.Test.YtaepacpodblomaaGreatDoorCmb
import Derived.Test.YtaepacpodblomaaGreatDoorLay
import Derived.Test.YtaepacpodblomaaGreatDoorLay2
namespace Go.Proofs.YtaepacpodblomaaGreatDoor
open Go Go.Ev
noncomputable abbrev aW:=@AV.ls
noncomputable abbrev bw:=@AV.func
noncomputable abbrev bj:=@Fn.func
noncomputable abbrev cn:=@Le.bool
noncomputable abbrev eX:=@Le.ps
noncomputable abbrev jJ:=@AV.ps
noncomputable abbrev bZ:=@Le.refl
noncomputable abbrev dJ:=@AV.bool
noncomputable abbrev eN:=@Le.tuple
noncomputable abbrev eb:=@AV.tuple
noncomputable abbrev aV:=@AV.str
noncomputable abbrev ah:=@AV.nils
noncomputable abbrev aj:=@AV.agg
noncomputable abbrev aX:=@AObj.row
noncomputable abbrev fy:=@Sx
noncomputable abbrev bz:=@AV.ptr
noncomputable abbrev aM:=@AV.slice
noncomputable abbrev bN:=@Le.nils
noncomputable abbrev aai:=@ARes.val
theorem ifB(l:aP)(g:Nat)(p:UInt8→Bool)(hp:∀s,s∈l→kP g [.int .u8 (.ofNat s.toNat)] (.bool (p s)))(hl:l.length<2^40):kP 306 [.ls (l.map np),.func (.func g) [] []] (iV (dD p l 0)):=by
  have rr0 b' (h:(dD p l 0)=b':=by first|exact mV zd0 hr0 hj0 ‹_› |exact hj0):=h;exact bD Tryz.func306<|Kl 2 7 (ln np l)<|Mg 0<|tJ np l [0,1,7,8] (fun a _=>([aW<|l.map np,bw (bj g) [] [],nV<|List.length l,nV a],[])) (fun a=>dD p l (0:Nat)=dD p a (List.length l-a.length)) sA (fun _ _ zd0 _ hr0 a hj0=>Kh 0 a<|Kf 0<|li<|rr0 (-1)) fun a _ zd0 _ b c d hr0 e _ f hj0=>Kt 0 e<|Kx 4 f<|Kp 0 (hp b<|by exact bQ zd0 hr0)<|Mb (p b) (fun _=>Kf 1<|li<|rr0<|Int.ofNat a) fun _=>Kl 0 18 (dU a)<|Kf 0<|d<|by exact kV zd0 hr0 hj0 (by omega)
theorem cfB(l:aP)(g:Nat)(p:UInt8→Bool)(hp:∀s,s∈l→kP g [.int .u8 (.ofNat s.toNat)] (.bool (p s)))(hl:l.length<2^40):kP 294 [.ls (l.map np),.func (.func g) [] []] (.bool (l.any p)):=by
  have h:=ifB l g p hp hl
  have rr0 b' (h:(List.any l p)=b':=by(rw[lY];simp only[aS,aw,bS,rG])):=h;exact bD Tryz.func294<|Kp 2 h<|Kf 1<|cn<|rr0<|aw<|aF (dD p l 0) 0
theorem Ov(c:UInt8):kP 293 [.int .u8 (.ofNat c.toNat)] (.bool (aw (Qf 33 126 c))):=by
  have rr0 b' (h:(aw (Qf 33 126 c))=b':=by(simp only[Qf,aS,aw,bS,rG, *])):=h;exact bD Tryz.func293<|Kb 3 (aF (Int.ofNat c.toNat) 33) (fun a=>Mt a<|MV a<|Ky 0<|rr0 true) fun a=>Kh 0 a<|Kw 0 a<|Kf 0<|cn<|rr0<|aF 126<|Int.ofNat c.toNat
theorem Sd(s:aP)(hs:s.length≤2^39):kP 266 [.str s] (.bool (rP s)):=by
  have h:=cfB s 293 _ (fun c _=>Ov c) (by omega)
  have rr0 b' (h:(rP s)=b':=by first|(simp only[rP,aS,aw,bS, *];done)|(rw[rP,RV,List.all_eq_not_any_not];simp only[DO,aS,aw,bS, *]at *)):=h;let q:=List.map np s;exact bD Tryz.func266<|Kn 4 (eZ s (ByteArray.mk #[]).data.toList) (fun a=>Kt 0 (bF a)<|Kt 0 (bF a)<|Ku 0 (bF a)<|Kn 0 (aF 24<|Int.ofNat<|List.length s) (fun a=>Kt 0 (bF a)<|Mv (Us (s:=s) (H:=ab []) (oA:(s).length≤2^40))<|Mt (bF a)<|Kt 0 (bF a)<|Mp (ar.onArgs (.cons (eX q _<|aZ Vf s)<|lc .nil) h:kP 294 [jJ q false,bw (bj 293) [] []] _)<|Mt (bF a)<|Ku 0 (bF a)<|Kf 0<|cn<|rr0<|aw<|List.any s fun a=>aw<|Qf 33 126 a) fun a=>Mh (bB a)<|Mh (bB a)<|Mh (bB a)<|Mh (bB a)<|My (bB a)<|Ky 0<|rr0 false) fun a=>Mh (bB a)<|Mh (bB a)<|My (bB a)<|Ky 2<|rr0 false
theorem ifS(l:List aP)(g:Nat)(p:aP→Bool)(hp:∀s,s∈l→kP g [.str s] (.bool (p s)))(hl:l.length<2^40):kP 292 [.ls (l.map mT),.func (.func g) [] []] (iV (dD p l 0)):=by
  have rr0 b' (h:(dD p l 0)=b':=by first|exact mV zd0 hr0 hj0 ‹_› |exact hj0):=h;exact bD Tryz.func292<|Kl 2 7 (ln mT l)<|Mg 0<|tJ mT l [0,1,7,8] (fun a _=>([aW<|l.map mT,bw (bj g) [] [],nV l.length,nV a],[])) (fun a=>dD p l (0:Nat)=dD p a (l.length-a.length)) sA (fun _ _ zd0 _ hr0 a hj0=>Kh 0 a<|Kf 0<|li<|rr0 (-1)) fun a _ zd0 _ b c d hr0 e _ f hj0=>Kt 0 e<|Kx 4 f<|Kp 0 (hp b<|by exact bQ zd0 hr0)<|Mb (p b) (fun _=>Kf 1<|li<|rr0<|Int.ofNat a) fun _=>Kl 0 18 (dU a)<|Kf 0<|d<|by exact kV zd0 hr0 hj0 (by omega)
theorem cfS(l:List aP)(g:Nat)(p:aP→Bool)(hp:∀s,s∈l→kP g [.str s] (.bool (p s)))(hl:l.length<2^40):kP 264 [.ls (l.map mT),.func (.func g) [] []] (.bool (l.any p)):=by
  have h:=ifS l g p hp hl
  have rr0 b' (h:(l.any p)=b':=by(rw[lY];simp only[aS,aw,bS,rG])):=h;exact bD Tryz.func264<|Kp 2 h<|Kf 1<|cn<|rr0<|aw<|aF (dD p l 0) 0
theorem LL(s:aP)(hs:s.length≤2^39):kP 265 [.str s] (.bool (aw (rP s))):=by
  exact bD Tryz.func265<|Kp 1 (Sd s hs)<|Kf 1<|bZ<|dJ<|aw<|rP s
theorem KX(l:List aP)(hl:l.length<2^40)(hs:∀s,s∈l→s.length≤2^39):kP 236 [.ls (l.map mT)] (.bool (qj l)):=by
  have h:=cfS l 265 _ (fun s m=>LL s (hs s m)) hl
  have rr0 b' (h:(qj l)=b':=by first|(simp only[qj,aS,aw,bS, *];done)|(rw[qj,List.all_eq_not_any_not];simp only[aS,aw,bS, *])):=h;exact bD Tryz.func236<|Kl 2 4 (ln mT l)<|Kn 1 (aF 256<|Int.ofNat l.length) (fun a=>Kt 0 (bF a)<|Mp h<|Mt (bF a)<|Ku 0 (bF a)<|Kf 0<|cn<|rr0<|aw<|l.any fun a=>aw<|rP a) fun a=>Mh (bB a)<|Mh (bB a)<|My (bB a)<|Ky 0<|rr0 false
theorem Pb(r:Int):kP 268 [.int .i32 r] (.bool (aF r 48||aF 57 r)):=by
  have rr0 b' (h:(aF r 48||aF 57 r)=b':=by(simp only[aS,aw,bS, *])):=h;exact bD Tryz.func268<|Kb 3 (aF r 48) (fun a=>Mt a<|MV a<|Ky 0<|rr0 true) fun a=>Kh 0 a<|Kw 0 a<|Kf 0<|cn<|rr0<|aF 57 r
theorem Tq(r:Int):kP 238 [.int .i32 r] (.bool (aF r 65||aF 90 r)):=by
  have rr0 b' (h:(aF r 65||aF 90 r)=b':=by(simp only[aS,aw,bS, *])):=h;exact bD Tryz.func238<|Kb 3 (aF r 65) (fun a=>Mt a<|MV a<|Ky 0<|rr0 true) fun a=>Kh 0 a<|Kw 0 a<|Kf 0<|cn<|rr0<|aF 90 r
theorem HC(s:PStep):kP 199 [ak s] (.bool (al s.kind 0&&eZ s.label [])):=by
  have rr0 b' (h:(al s.kind 0&&eZ s.label [])=b':=by(simp only[aS,aw,bS, *];first|done|rfl)):=h;exact bD Tryz.func199<|Kb 5 (al s.kind 0) (fun a=>Kt 0 a<|Kt 0 a<|Ku 0 a<|Kf 0<|cn<|rr0<|eZ s.label (ByteArray.mk #[]).data.toList) fun a=>Mh a<|Mh a<|My a<|Ky 0<|rr0 false
theorem vK(n a b:Int):kP 195 [iV n,iV a,iV b] (.bool (aw (aF n a)&&aw (aF b n))):=by
  have rr0 b' (h:(aw (aF n a)&&aw (aF b n))=b':=by(simp only[aS,aw,bS, *])):=h;exact bD Tryz.func195<|Kn 4 (aF n a) (fun c=>Kt 0 (bF c)<|Kt 0 (bF c)<|Ku 0 (bF c)<|Kf 0<|cn<|rr0<|aw<|aF b n) fun c=>Mh (bB c)<|Mh (bB c)<|My (bB c)<|Ky 0<|rr0 false
theorem Ql(s:aP):kP 267 [.str s,.func (.func 268) [] []] (iV (bif Nat.beq (ec kx s) s.length then -1 else Int.ofNat (ec kx s))):=
  AX fz (Go.Proofs.enters_of Go.Proofs.Tryz.lidxf.f15 (by kernel_rfl) rfl) (Go.Proofs.enters_of Tryz.func268 (by kernel_rfl) rfl)
    (fun s w hp=>Go.Proofs.Any.strings_IndexFunc_grows Go.Proofs.Tryz.lidxf 268 #[] (Go.Proofs.enters_of Tryz.func268 (by kernel_rfl) rfl) _ s w hp) Pb (fun _=>rfl) (Hy (lo:=48) (hi:=57) (by omega)) s
theorem Qm(s:aP)(h:By (Nat.beq (ec kx s) s.length) true):kP 267 [.str s,.func (.func 268) [] []] (iV (-1)):=by
  have:=Ql s
  simp_all
theorem T0(s:aP)(h:By (Nat.beq (ec kx s) s.length) false):kP 267 [.str s,.func (.func 268) [] []] (nV (ec kx s)):=by
  have:=Ql s
  grind
theorem Z0(s:aP):kP 239 [.str s,.func (.func 238) [] []] (.bool (aw (s.all Xk))):=
  uF fz (Go.Proofs.enters_of Go.Proofs.Tryz.lconf.f17 (by kernel_rfl) rfl) (Go.Proofs.enters_of Tryz.func238 (by kernel_rfl) rfl)
    (fun s w hp=>Go.Proofs.Any.strings_ContainsFunc_grows Go.Proofs.Tryz.lconf 238 #[] (Go.Proofs.enters_of Tryz.func238 (by kernel_rfl) rfl) _ s w hp) Tq (fun _=>rfl) (Hy (lo:=65) (hi:=90) (by omega)) s
theorem MA(s:aP)(hs:s.length≤2^39):kP 237 [.str s] (.tuple [.str (s.take (ec kx s)),.str (s.drop (ec kx s))]):=by
  have hl:=J7 (p:=kx) (s:=s)
  have rr0 b' (h:(s.take (ec kx s))=b':=by(rw[pf h0];simp)):=h;have rr1 b' (h:(s.drop (ec kx s))=b':=by(rw[pf h0];simp)):=h;let q:=AHeap.mk 1000000 Tr.nil;exact bD Tryz.func237<|Ks 2 ((ec kx s).beq<|List.length s) (fun h0=>Mp (Qm s h0)<|Kf 6<|eN<|.cons (Le.str<|rr0 s)<|.cons (Le.str<|rr1 []) .nil) fun h0=>Mp (T0 s h0)<|Kv 5 (VT (s:=s) (n:=ec kx s) (k:=IntKind.i64) (H:=q) oA)<|Kv 1 (VS (s:=s) (l:=ec kx s) (k:=IntKind.i64) (H:=q) oA)<|Kf 1<|bZ<|eb [aV<|s.take<|ec kx s,aV<|s.drop<|ec kx s]
theorem uV(s:aP)(hs:s.length≤2^39):kP 190 [.str s] (.bool (kJ s)):=by
  have hd:(s.drop (ec kx s)).length≤2^39:=by grind
  have rr0 b' (h:(kJ s)=b':=by first|(simp only[kJ,aS,aw,bS,rG, *];done)|(simp only[kJ,aS,aw,bS,rG, *];rfl)|(unfold kJ;simp only[h0,h1,h2];rfl)):=h;exact bD Tryz.func190<|Kp 1 (MA s hs)<|Kd 9 (Int.ofNat (s.take<|ec kx s).length) 1 (fun h0 _=>Kt 0 (bF h0)<|Kt 0 (bF h0)<|Ku 0 (bF h0)<|Kd 0 4 (Int.ofNat (s.take<|ec kx s).length) (fun h1 _=>Kt 0 (bF h1)<|M1 (.chr<|gD (s.take<|ec kx s) 0) (zc (gR:0<(s.take (ec kx s)).length))<|Mt (bF h1)<|Ku 0 (bF h1)<|Kc 0 (Int.ofNat (gD (s.take<|ec kx s) 0).toNat) 48 (fun h2 _=>Kt 0 (bF h2)<|Kt 0 (bF h2)<|Ku 0 (bF h2)<|Kd 0 3 (Int.ofNat (s.drop<|ec kx s).length) (fun a _=>Kt 0 (bF a)<|Kt 0 (bF a)<|Mp (Z0<|s.drop<|ec kx s)<|Mt (bF a)<|Ku 0 (bF a)<|Kf 0<|cn<|rr0<|aw<|aw<|(s.drop<|ec kx s).all Xk) fun a _=>Mh (bB a)<|Mh (bB a)<|Mh (bB a)<|My (bB a)<|Ky 0<|rr0 false) fun h2 _=>Mh (bB h2)<|Mh (bB h2)<|My (bB h2)<|Ky 2<|rr0 false) fun h1 _=>Mh (bB h1)<|Mh (bB h1)<|My (bB h1)<|Ky 4<|rr0 false) fun h0 _=>Mh (bB h0)<|Mh (bB h0)<|My (bB h0)<|Ky 6<|rr0 false
theorem vQ(p:List PStep)(hl:p.length<2^40)(hs:∀s,s∈p→s.label.length≤2^39):kP 136 [.ls (p.map ak)] (.bool (km p)):=by
  have rr0 b' (h:(km p)=b':=by first|(rw[km,hj0,U0];rfl)|(rw[km,Er zd0 hr0 hj0];simp only[nQ,tv,‹al (Int.ofNat zi0) 0=_›,cond_true,cond_false];simp only[DO,aS,aw,bS, *];first|done|rfl)):=h;exact bD Tryz.func136<|Kl 2 6 (ln ak p)<|Mg 0<|tJ ak p [0,5,6,7] (fun a _=>([aW<|p.map ak,aW<|p.map ak,nV p.length,nV a],[])) (fun a=>N3 p=HB p a) (by(exact N2)) (fun zi0 _ zd0 _ hr0 a hj0=>Kh 0 a<|Kl 1 34 (ln ak p)<|Kf 1<|cn<|rr0<|aw<|aF 9<|Int.ofNat p.length) fun zi0 _ zd0 _ a b c hr0 d _ e hj0=>Kt 0 d<|Kx 0 e<|Kj 6 (Int.ofNat zi0) 0 (fun d _=>Kt 0 d<|Mp (HC a)<|MV d<|Mb (al a.kind 0&&eZ a.label []) (fun _=>Kl 0 32 (dU zi0)<|K1 0 (.frz 0 [0,5,6,7]) ti<|Mf<|c<|by(rw[Er zd0 hr0 hj0];simp only[nQ,tv,‹al (Int.ofNat zi0) 0=_›,cond_true,cond_false];simp only[DO,aS,aw,bS, *];first|done|rfl)) fun _=>Kd 3 0 a.kind (fun a _=>Mt (bF a)<|Mt (bF a)<|MV (bF a)<|Ky 3<|rr0 false) fun d _=>Kh 0 (bB d)<|Kh 0 (bB d)<|Kw 0 (bB d)<|Ka 0 7 a.kind (fun a _=>Mt a<|Mt a<|Mt a<|MV a<|Ky 1<|rr0 false) fun d _=>Kh 0 d<|Kh 0 d<|Mp (uV a.label<|by exact hs _ (bQ zd0 hr0))<|Mh d<|Kw 0 d<|Mn (kJ a.label) (fun _=>Kf 0<|cn<|rr0 false) fun _=>Kl 0 32 (dU zi0)<|K1 0 (.frz 0 [0,5,6,7]) ti<|Mf<|c<|by(rw[Er zd0 hr0 hj0];simp only[nQ,tv,‹al (Int.ofNat zi0) 0=_›,cond_true,cond_false];simp only[DO,aS,aw,bS, *];first|done|rfl)) fun d _=>Mh d<|My d<|Kd 4 0 a.kind (fun a _=>Mt (bF a)<|Mt (bF a)<|MV (bF a)<|Ky 3<|rr0 false) fun d _=>Kh 0 (bB d)<|Kh 0 (bB d)<|Kw 0 (bB d)<|Ka 0 7 a.kind (fun a _=>Mt a<|Mt a<|Mt a<|MV a<|Ky 1<|rr0 false) fun d _=>Kh 0 d<|Kh 0 d<|Mp (uV a.label<|by exact hs _ (bQ zd0 hr0))<|Mh d<|Kw 0 d<|Mn (kJ a.label) (fun _=>Kf 0<|cn<|rr0 false) fun _=>Kl 0 32 (dU zi0)<|K1 0 (.frz 0 [0,5,6,7]) ti<|Mf<|c<|by(rw[Er zd0 hr0 hj0];simp only[nQ,tv,‹al (Int.ofNat zi0) 0=_›,cond_true,cond_false];simp only[DO,aS,aw,bS, *];first|done|rfl)
theorem TT(l:List Int)(v:Int)(hl:l.length<2^40):kP 281 [.ls (l.map av),iV v] (iV (dD (al v) l 0)):=by
  have rr0 b' (h:(dD (al v) l 0)=b':=by first|exact mV zd0 hr0 hj0 ‹_› |exact hj0):=h;exact bD Tryz.func281<|Kl 2 7 (ln av l)<|Mg 0<|tJ av l [0,1,7,8] (fun a _=>([aW<|l.map av,iV v,nV l.length,nV a],[])) (fun a=>dD (al v) l (0:Nat)=dD (al v) a (l.length-a.length)) sA (fun _ _ zd0 _ hr0 a hj0=>Kh 0 a<|Kf 0<|li<|rr0 (-1)) fun a _ zd0 _ b c d hr0 e _ f hj0=>Kt 0 e<|Kx 4 f<|Kj 1 v b (fun _ _=>Kf 1<|li<|rr0<|Int.ofNat a) fun _ _=>Kl 0 18 (dU a)<|Kf 0<|d<|by exact kV zd0 hr0 hj0 (by omega)
theorem rg(l:List Int)(v:Int)(hl:l.length<2^40):kP 254 [.ls (l.map av),iV v] (.bool (l.any (al v))):=by
  have h:=TT l v hl
  have rr0 b' (h:(l.any (al v))=b':=by(rw[lY];simp only[aS,aw,bS,rG])):=h;exact bD Tryz.func254<|Kp 2 h<|Kf 1<|cn<|rr0<|aw<|aF (dD (al v) l 0) 0
theorem Qi(v:Int):kP 281 [.nils,iV v] (iV (-1)):=by
  let q:=[ah,iV v,iV 0,iV 0];exact bD Tryz.func281<|Mg 3<|Zj [0,1,7,8] (q,[]) True 0 ti fun _ _=>Kf 2<|bZ<|iV (-1)
theorem Hx(v:Int):kP 254 [.nils,iV v] (.bool false):=by
  have h:=Qi v
  exact bD Tryz.func254<|Kp 2 h<|Kf 1<|bZ<|dJ false
theorem kn0:kP 301 [iV 0] (.str (dX 0)):=by
  exact wk Tryz.func301 (.go 11 .fin)<|bZ<|aV [98,111,111,107]
theorem kn1:kP 301 [iV 1] (.str (dX 1)):=by
  exact wk Tryz.func301 (.go 11 .fin)<|bZ<|aV [112,97,114,116]
theorem kn2:kP 301 [iV 2] (.str (dX 2)):=by
  exact wk Tryz.func301 (.go 11 .fin)<|bZ<|aV [115,101,99,116,105,111,110]
theorem kn3:kP 301 [iV 3] (.str (dX 3)):=by
  exact wk Tryz.func301 (.go 11 .fin)<|bZ<|aV [112,97,114,97,103,114,97,112,104]
theorem kn4:kP 301 [iV 4] (.str (dX 4)):=by
  exact wk Tryz.func301 (.go 11 .fin)<|bZ<|aV [116,97,98,108,101]
theorem kn5:kP 301 [iV 5] (.str (dX 5)):=by
  exact wk Tryz.func301 (.go 11 .fin)<|bZ<|aV [114,111,119]
theorem kn6:kP 301 [iV 6] (.str (dX 6)):=by
  exact wk Tryz.func301 (.go 11 .fin)<|bZ<|aV [99,101,108,108]
theorem kn7:kP 301 [iV 7] (.str (dX 7)):=by
  exact wk Tryz.func301 (.go 11 .fin)<|bZ<|aV [110,111,116,101]
theorem knX(k:Int)(h:k<0∨7<k):kP 301 [iV k] (.str (dX k)):=by
  rw[IE h]
  have c:aF k 0=true∨(aF k 0=false∧aF k 8=false):=by
    grind[nc,kf]
  rcases c with c|⟨c,d⟩
  · exact bD Tryz.func301<|Kt 3 c<|Mt c<|MV c<|Kf 1<|bZ<|aV []
  · exact bD Tryz.func301<|Kh 3 c<|Kh 0 c<|Kw 0 c<|Mt (bF d)<|Kf 0<|bZ<|aV []
theorem wM(k:Int):kP 301 [iV k] (.str (dX k)):=by
  by_cases h:k<0∨7<k
  · grind[knX]
  · grind[kn0,kn1,kn2,kn3,kn4,kn5,kn6,kn7]
theorem ccX(p k:Int)(h:p<0∨7<p):kP 214 [iV p,iV k] (.bool (jK p k)):=by
  unfold jK
  rw[H5 h]
  have c:aF p 0=true∨(aF p 0=false∧aF p 8=false):=by
    grind[nc,kf]
  rcases c with c|⟨c,d⟩
  · exact bD Tryz.func214<|Kh 3 (bB c)<|Mh (bB c)<|My (bB c)<|Kf 2<|bZ<|dJ false
  · exact bD Tryz.func214<|Kt 3 (bF c)<|Kt 0 (bF c)<|Ku 0 (bF c)<|Kh 0 d<|Mh d<|Mh d<|Mh d<|Mh d<|My d<|Kf 0<|bZ<|dJ false
theorem cc0(k:Int):kP 214 [iV 0,iV k] (.bool (jK 0 k)):=by
  have h:=rg [1,2] k (by grind)
  let q:=[iV 1,iV 2];exact bD Tryz.func214<|Kp 11 (ar.onArgs (.cons (eX q _<|by rfl)<|lc .nil) h:kP 254 [jJ q false,iV k] _)<|Kf 1<|bZ<|dJ<|[1,2].any<|al k
theorem cc1(k:Int):kP 214 [iV 1,iV k] (.bool (jK 1 k)):=by
  have h:=rg [2] k (by grind)
  let q:=[iV 2];exact bD Tryz.func214<|Kp 11 (ar.onArgs (.cons (eX q _<|by rfl)<|lc .nil) h:kP 254 [jJ q false,iV k] _)<|Kf 1<|bZ<|dJ<|[2].any<|al k
theorem cc2(k:Int):kP 214 [iV 2,iV k] (.bool (jK 2 k)):=by
  have h:=rg [3,4,7] k (by grind)
  let q:=[iV 3,iV 4,iV 7];exact bD Tryz.func214<|Kp 11 (ar.onArgs (.cons (eX q _<|by rfl)<|lc .nil) h:kP 254 [jJ q false,iV k] _)<|Kf 1<|bZ<|dJ<|[3,4,7].any<|al k
theorem cc3(k:Int):kP 214 [iV 3,iV k] (.bool (jK 3 k)):=by
  have h:=rg [3,4,7] k (by grind)
  let q:=[iV 3,iV 4,iV 7];exact bD Tryz.func214<|Kp 11 (ar.onArgs (.cons (eX q _<|by rfl)<|lc .nil) h:kP 254 [jJ q false,iV k] _)<|Kf 1<|bZ<|dJ<|[3,4,7].any<|al k
theorem cc4(k:Int):kP 214 [iV 4,iV k] (.bool (jK 4 k)):=by
  have h:=rg [5] k (by grind)
  let q:=[iV 5];exact bD Tryz.func214<|Kp 11 (ar.onArgs (.cons (eX q _<|by rfl)<|lc .nil) h:kP 254 [jJ q false,iV k] _)<|Kf 1<|bZ<|dJ<|[5].any<|al k
theorem cc5(k:Int):kP 214 [iV 5,iV k] (.bool (jK 5 k)):=by
  have h:=rg [6] k (by grind)
  let q:=[iV 6];exact bD Tryz.func214<|Kp 11 (ar.onArgs (.cons (eX q _<|by rfl)<|lc .nil) h:kP 254 [jJ q false,iV k] _)<|Kf 1<|bZ<|dJ<|[6].any<|al k
theorem cc6(k:Int):kP 214 [iV 6,iV k] (.bool (jK 6 k)):=by
  have h:=Hx k
  exact bD Tryz.func214<|Kp 11 h<|Kf 1<|bZ<|dJ false
theorem cc7(k:Int):kP 214 [iV 7,iV k] (.bool (jK 7 k)):=by
  have h:=Hx k
  exact bD Tryz.func214<|Kp 11 h<|Kf 1<|bZ<|dJ false
theorem zh(p k:Int):kP 214 [iV p,iV k] (.bool (jK p k)):=by
  by_cases h:p<0∨7<p
  · grind[ccX]
  · grind[cc0,cc1,cc2,cc3,cc4,cc5,cc6,cc7]
theorem aD{n b m:Nat}(h1:n≤m)(h2:m≤2^40)(h3:m*b≤2^40):small n b=true:=by
  unfold small
  have h4:n*b≤m*b:=eu b h1
  grind[Nat.ble_eq_true_of_le]
noncomputable abbrev wc(u:TUnit):AObj:=.row 8 false 0 [eU u]
def HT(p:PId)(u:TUnit)(x0:Nat×List TUnit×Unit):Prop:=(u.kids).drop x0.1=x0.2.1∧co p u.kids=co p x0.2.1
noncomputable def yp(p:PId)(u:TUnit)(x0:Nat×List TUnit×Unit):List AV×List AObj:=([AV.ptr 0 0 0 0,AV.ptr 1 0 0 0,AV.ls (u.kids.map aY),nV u.kids.length,nV x0.1],[AObj.row 8 false 0 [AV.agg [iV u.act,iV u.item,iV u.n,iV u.kind,AV.str u.label,AV.ls (u.head.map aQ),AV.ls (u.words.map aQ),AV.ls (u.kids.map aY)]],AObj.row 3 false 0 [AV.agg [iV p.a,iV p.i,iV p.n]]])
theorem E6(p:PId):∀(u:TUnit),nU u≤2^20→(cj p u=false→kP 76 [eU u,aU p] .nils)∧(cj p u=true→kP 76 [eU u,aU p] (.ps ((aI p u).map aY) false)):=by
  refine TUnit.ind fun u ih hn=>?_
  have ihn:∀k,k∈u.kids→By (cj p k) false→kP 76 [eU k,aU p] .nils:=fun k hk h=>(ih k hk (b0 (tK (iz hk)) hn)).1 h
  have ihy:∀k,k∈u.kids→By (cj p k) true→kP 76 [eU k,aU p] (.ps ((aI p k).map aY) false):=fun k hk h=>(ih k hk (b0 (tK (iz hk)) hn)).2 h
  have hkl:=bf u
  refine⟨fun hs=>?_,fun hs=>?_⟩
  · let q:=[aj [iV u.act,iV u.item,iV u.n,iV u.kind,aV u.label,aW (u.head.map aQ),aW (u.words.map aQ),aW (u.kids.map aY)]];let q3:=[iV p.a,iV p.i,iV p.n];exact bD Tryz.func76<|Kv 5 (lz ((Tryz.prog).underlying 34) u.act u.item u.n p.a p.i p.n<|ab [aX 8 false 0 q,aX 3 false 0 [aj q3]])<|Mb (al u.act p.a&&(al u.item p.i&&al u.n p.n)) (fun _=>Kf 2<|fy (by exact absurd (hs.symm.trans (D9 ‹_›)) (by grind):(AV.nils)=(AV.ps q true))) fun _=>Kl 2 16 (ln aY u.kids)<|Mg 0<|Sy (0:Nat) u.kids () [2,3,15,16,17] (fun a _ _=>([bz 0 0 0 0,bz 1 0 0 0,aW<|u.kids.map aY,nV u.kids.length,nV a],[aX 8 false 0 [aj [iV u.act,iV u.item,iV u.n,iV u.kind,aV u.label,aW<|u.head.map aQ,aW<|u.words.map aQ,aW<|u.kids.map aY]],aX 3 false 0 [aj [iV p.a,iV p.i,iV p.n]]])) (fun a b _=>(u.kids).drop a=b∧co p u.kids=co p b) (fun _ a _=>a.length) (et rfl<|by rfl) fun a b c d e=>Mc b (fun a=>have b:=eB d.1 a;have:=gx (J:=fun a _=>co p u.kids=co p a) (a:=c) a d.2;Kh 0 b<|Kf 0<|bZ ah) fun b f g=>let i:=List.map aY<|[u]++aI p b;have j:=eT d.1 g;have:=aA j;have l:=(eA (enc:=aY) d.1 g).trans<|congrArg some<|aO b;have c:=cV (J:=fun a _=>co p u.kids=co p a) (a:=c) g d.2;have:nU b<nU u:=iz<|bQ d.1 g;have:(aI p b).length≤nU b:=l9 b;Kt 0 j<|Mx l<|Ks 4 (cj p b) (fun a=>Mp (ihy b (by exact bQ d.1 g) a)<|Mg 6<|M2 .apl (et (by simp_all[lQ]:List.map aY (aI p b)≠[])<|fp (sz:=8) (f:=aY) (fun _=>by(rw[aO];rfl))<|aI p b) (et (by(refine aD (m:=2^21) ?_ ?_ ?_<;>(try simp only[lM,lC,lN])<;>(have:=l9 (p:=p) b;omega)):small (([AV.agg [iV u.act,iV u.item,iV u.n,iV u.kind,AV.str u.label,AV.ls (u.head.map aQ),AV.ls (u.words.map aQ),AV.ls (u.kids.map aY)]]).length+((aI p b).map aY).length) 120=true) rt)<|M1 (.obj 3<|aX 8 true 0 i) (congrArg (aX 8 true 0) (by(simp only[lP,eE,rH,aO,ej]<;>rfl):[AV.agg [iV u.act,iV u.item,iV u.n,iV u.kind,AV.str u.label,AV.ls (u.head.map aQ),AV.ls (u.words.map aQ),AV.ls (u.kids.map aY)]]++List.map aY (aI p b)=List.map aY ([u]++aI p b)))<|Mg 0<|M2 (.fsl 0 [] 4 i) ti (cZ (az 0) (tA aY ([u]++aI p b) (q++List.map aY (aI p b)).length (sA:([u]++aI p b).length=([AV.agg [iV u.act,iV u.item,iV u.n,iV u.kind,AV.str u.label,AV.ls (u.head.map aQ),AV.ls (u.words.map aQ),AV.ls (u.kids.map aY)]]++List.map aY (aI p b)).length))<|aZ iZ<|[u]++aI p b)<|Ml 4 (eX i false<|aZ iZ<|[u]++aI p b)<|Mf<|fy (by exact absurd (hs.symm.trans (T5 (by assumption) c (by omega))) (by grind):(AV.nils)=(AV.ls i))) fun c=>Mp (ihn b (by exact bQ d.1 g) c)<|Kl 4 30 (dU a)<|K1 0 (.frz 2 [2,3,15,16,17]) (cZ rt rt ti)<|Mf<|e (a+1) f () (et (bW d.1 g)<|by grind[iM])<|dh g
  · have rr0:∀b',(h:((aI p u).map aY)=b':=by first|rfl|exact absurd (hs.symm.trans (Ge (by assumption) hj0)) (by decide)|(rw[qP (by assumption),eE,aO];rfl)|(rw[JB (by assumption) hj0 (by assumption)];rfl))→((aI p u).map aY)=b':=(fun _ h=>h);let q:=[aj [iV u.act,iV u.item,iV u.n,iV u.kind,aV u.label,aW (u.head.map aQ),aW (u.words.map aQ),aW (u.kids.map aY)]];let q3:=[iV p.a,iV p.i,iV p.n];exact bD (hv:=(aZ iZ (aI p u))) Tryz.func76 (Kv 5 (Ep (d:=(Tryz.prog).underlying 34) (n:=3) (l:=(0,1)::(1,1)::(2,1)::[]) (xs:=[iV u.act,iV u.item,iV u.n]) (ys:=q3) (H:=ab [aX 8 false 0 q,aX 3 false 0 [aj q3]]) rfl (mO (e:=al u.act p.a) rfl rfl rfl (mO (e:=al u.item p.i) rfl rfl rfl (Ae (e:=al u.n p.n) rfl rfl rfl rfl)))) (Mb (al u.act p.a&&(al u.item p.i&&al u.n p.n)) (fun h0=>Kf 2 ((Sz (rr0 q)):Le _ (jJ q true))) (fun h0=>Kl 2 16 (Le.len (f:=aY) (l:=u.kids)) (Mg 0 (ML (Nat×List TUnit×Unit) [2,3,15,16,17] (yp p u) (HT p u) (fun x=>x.2.1.length) (0,u.kids,()) (az ((yp p u) (0,u.kids,()))) (et (rfl:List.drop 0 (u.kids)=u.kids) (by rfl:(co p u.kids=co p u.kids))) (fun x0 hx0 nx0=>Mc x0.2.1 (fun hr0=>have lt0:=eB hx0.1 hr0;have hj0:=gx (J:=fun r x=>co p u.kids=co p r) (a:=x0.2.2) hr0 hx0.2;(Kh 0 lt0 (Kf 0 (fy (by exact absurd (hs.symm.trans (Ge (by assumption) hj0)) (by grind):(AV.ps ((aI p u).map aY) false)=(AV.nils)))))) (fun w0 r0 hr0=>let q2:=List.map aY ([u]++aI p w0);have lt0:=eT hx0.1 hr0;have glt0:=aA lt0;have nt0:=(eA (enc:=aY) hx0.1 hr0).trans (congrArg some (aO w0));have hj0:=cV (J:=fun r x=>co p u.kids=co p r) (a:=x0.2.2) hr0 hx0.2;have q0:nU w0<nU u:=iz (bQ hx0.1 hr0);have q1:(aI p w0).length≤nU w0:=l9 w0;(Kt 0 lt0 (Mx nt0 (Ks 4 (cj p w0) (fun h2=>Mp (ihy w0 (by exact bQ hx0.1 hr0) h2) (Mg 6 (M2 .apl (et (by simp_all[lQ]:List.map aY (aI p w0)≠[]) (fp (sz:=8) (f:=aY) (fun _=>by(rw[aO];rfl)) (aI p w0))) (et (by(refine aD (m:=2^21) ?_ ?_ ?_<;>(try simp only[lM,lC,lN])<;>(have:=l9 (p:=p) w0;omega)):small (([AV.agg [iV u.act,iV u.item,iV u.n,iV u.kind,AV.str u.label,AV.ls (u.head.map aQ),AV.ls (u.words.map aQ),AV.ls (u.kids.map aY)]]).length+((aI p w0).map aY).length) 120=true) rt) (M1 (.obj 3 (aX 8 true 0 q2)) (congrArg (aX 8 true 0) (by(simp only[lP,eE,rH,aO,ej]<;>rfl):[AV.agg [iV u.act,iV u.item,iV u.n,iV u.kind,AV.str u.label,AV.ls (u.head.map aQ),AV.ls (u.words.map aQ),AV.ls (u.kids.map aY)]]++List.map aY (aI p w0)=List.map aY ([u]++aI p w0))) (Mg 0 (M2 (.fsl 0 [] 4 q2) ti (cZ (az (0)) (JM (f:=aY) (l:=[u]++aI p w0) (n:=(q++List.map aY (aI p w0)).length) (by simp_all:([u]++aI p w0).length=([AV.agg [iV u.act,iV u.item,iV u.n,iV u.kind,AV.str u.label,AV.ls (u.head.map aQ),AV.ls (u.words.map aQ),AV.ls (u.kids.map aY)]]++List.map aY (aI p w0)).length)) (aZ iZ ([u]++aI p w0))) (Mf ((Sz (rr0 q2)):Le _ (jJ q2 false))))))))) (fun h2=>Mp (ihn w0 (by exact bQ hx0.1 hr0) h2) (Kl 4 30 (Le.wr (x:=Int.ofNat x0.1+1) fZ) (K1 0 (.frz 2 [2,3,15,16,17]) (cZ rt rt ti) (Mf (nx0 (x0.1+1,r0,()) (et (bW hx0.1 hr0) (by grind[iM]:(co p u.kids=co p r0))) (dh hr0))))))))))))))))
theorem JC(p:PId)(u:TUnit)(h:By (cj p u) false)(hn:nU u≤2^20):kP 76 [eU u,aU p] .nils:=(E6 p u hn).1 h
theorem E5(p:PId)(u:TUnit)(h:By (cj p u) true)(hn:nU u≤2^20):kP 76 [eU u,aU p] (.ps ((aI p u).map aY) false):=(E6 p u hn).2 h
theorem Ro:kP 110 [.nils] .nils:=by
  exact wk Tryz.func110 (.go 4 .fin)<|bZ ah
theorem Rn:kP 110 [.ps [] false] (.ps [] true):=by
  exact wk Tryz.func110 (.go 7 .fin)<|bZ<|jJ [] true
theorem Rp(w:PWord)(r:List PWord)(hl:r.length<2^30):kP 110 [.ls ((w::r).map aQ)] (.ls ((w::r).map aQ)):=by
  let q:=List.map aQ (w::r);exact bD Tryz.func110<|Mg 1<|Mz 3 (fun(a:((w::r).map aQ:List AV)=[])=>Mw .abs<|nT _ _ a)<|Mg 3<|M2 .apl (et (sA:List.map aQ (w::r)≠[])<|fM 4 aQ (w::r) fun _=>rfl) (by(refine aD (m:=2^31) ?_ ?_ ?_<;>first|omega|grind):small ((w::r).map aQ).length 40=true)<|Mg 0<|M2 (.fsl 0 [] 2 q) ti (cZ (az 0) (tA aQ (w::r) q.length (sA:(w::r).length=((w::r).map aQ).length))<|aZ iD<|w::r)<|Ml 2 (eX q false<|aZ iD<|w::r)<|Mf<|bZ<|aW q
theorem ME(p:PId)(u:TUnit)(h:By (cj p u) false)(hn:nU u≤2^20):kP 233 [eU u,.pptr [aU p] 0 0] (.bool false):=by
  have h':cj p u=false:=h
  exact bD Tryz.func233<|Kp 3 (JC p u h hn)<|Kf 1<|bZ<|dJ false
theorem MD(p:PId)(u:TUnit)(h:By (cj p u) true)(hn:nU u≤2^20):kP 233 [eU u,.pptr [aU p] 0 0] (.bool true):=by
  have h':cj p u=true:=h
  exact bD Tryz.func233<|Kp 3 (E5 p u h hn)<|Kf 1<|bZ<|dJ true
theorem aaG(l:List TUnit)(g:Nat)(q:TUnit→Bool)(hp:∀k,k∈l→kP g [eU k] (.bool (q k)))(hl:l.length<2^40):kP 232 [.ls (l.map aY),.func (.func g) [] []] (iV (dD q l 0)):=by
  have rr0 b' (h:(dD q l 0)=b':=by first|exact mV zd0 hr0 hj0 ‹_› |exact hj0):=h;exact bD Tryz.func232<|Kl 2 7 (ln aY l)<|Mg 0<|tJ aY l [0,1,7,8] (fun a _=>([aW<|l.map aY,bw (bj g) [] [],nV l.length,nV a],[])) (fun a=>dD q l (0:Nat)=dD q a (l.length-a.length)) sA (fun _ _ zd0 _ hr0 a hj0=>Kh 0 a<|Kf 0<|li<|rr0 (-1)) fun a _ zd0 _ b c d hr0 e _ f hj0=>have f:=f.trans<|congrArg some<|aO b;Kt 0 e<|Kx 4 f<|Kp 0 (hp b<|by exact bQ zd0 hr0)<|Mb (q b) (fun _=>Kf 1<|li<|rr0<|Int.ofNat a) fun _=>Kl 0 18 (dU a)<|Kf 0<|d<|by exact kV zd0 hr0 hj0 (by omega)
theorem ZO(l:List TUnit)(g:Nat)(p:PId)(q:TUnit→Bool)(hp:∀k,k∈l→kP g [eU k,.pptr [aU p] 0 0] (.bool (q k)))(hl:l.length<2^40):kP 232 [.ls (l.map aY),.func (.func g) [] [.pptr [aU p] 0 0]] (iV (dD q l 0)):=by
  have rr0 b' (h:(dD q l 0)=b':=by first|exact mV zd0 hr0 hj0 ‹_› |exact hj0):=h;exact bD Tryz.func232<|Kl 2 7 (ln aY l)<|Mg 0<|tJ aY l [0,1,7,8] (fun a _=>([aW<|l.map aY,bw (bj g) [] [AV.pptr [aj [iV p.a,iV p.i,iV p.n]] 0 0],nV l.length,nV a],[])) (fun a=>dD q l (0:Nat)=dD q a (l.length-a.length)) sA (fun _ _ zd0 _ hr0 a hj0=>Kh 0 a<|Kf 0<|li<|rr0 (-1)) fun a _ zd0 _ b c d hr0 e _ f hj0=>have f:=f.trans<|congrArg some<|aO b;Kt 0 e<|Kx 4 f<|Kp 0 (hp b<|by exact bQ zd0 hr0)<|Mb (q b) (fun _=>Kf 1<|li<|rr0<|Int.ofNat a) fun _=>Kl 0 18 (dU a)<|Kf 0<|d<|by exact kV zd0 hr0 hj0 (by omega)
theorem Rk{D a:Nat}{w:TUnit}{r:List TUnit}{u:TUnit}(h:D=Nat.max a (kh (w::r))∧a≤2^20)(q0:nU w<nU u)(q1:m0 w<nU w)(hn:nU u≤2^20):D=Nat.max (Nat.max a (1+m0 w)) (kh r)∧Nat.max a (1+m0 w)≤2^20:=by
  grind[kh]
theorem Uf{D a:Nat}(h:D=Nat.max a (kh [])∧a≤2^20):D=a:=by
  simp_all[C1]
theorem HK:∀(u:TUnit),nU u≤2^20→kP 218 [eU u] (nV (m0 u)):=by
  refine TUnit.ind fun u ih hn=>?_
  have hkl:=bf u
  have ihk:∀k,k∈u.kids→kP 218 [eU k] (nV (m0 k)):=fun k hk=>ih k hk (b0 (tK (iz hk)) hn)
  have rr0 b' (h:(Int.ofNat (m0 u))=b':=by(rw[Lw,Uf hj0])):=h;exact bD Tryz.func218<|Kl 5 8 (ln aY u.kids)<|Mg 0<|OX aY u.kids (0:Nat) [3,7,8,9] (fun a _ b=>([nV b,aW<|u.kids.map aY,nV u.kids.length,nV a],[aX 8 false 0 [aj [iV u.act,iV u.item,iV u.n,iV u.kind,aV u.label,aW<|u.head.map aQ,aW<|u.words.map aQ,aW<|u.kids.map aY]]])) (fun a b=>kh u.kids=b.max (kh a)∧b≤2^20) sA (fun _ _ a _ _ _ b hj0=>Kh 0 b<|Kf 1<|li<|rr0<|Int.ofNat a) fun a _ b c d e f g i j _ l _=>have l:=(l).trans<|congrArg some<|aO e;have hj0:=cV (J:=fun a b=>kh u.kids=b.max (kh a)∧b≤2^20) (a:=b) i d;have d:=iz<|bQ c i;have m:=Ex e;Kt 0 j<|Mx l<|Kp 4 (ihk e<|by exact bQ c i)<|Kl 0 16 (b7 (x:=(1:Int)+Int.ofNat (m0 e)) (n:=(1:Nat)+m0 e) fZ)<|Kl 0 17 (nZ (k:=IntKind.i64)<|P3 b<|1+m0 e)<|Kl 1 18 (jq a)<|K1 0 (.frz 1 [3,7,8,9]) (et rt ti)<|Mf<|g (b.max<|1+m0 e)<|by exact Rk hj0 d m hn
theorem Lq(g:Nat)(q:TUnit→Bool):∀(u:TUnit),(∀x,x∈bp u→kP g [eU x] (.bool (q x)))→u.kids.length<2^40→(∀x,x∈bp u→x.kids.length<2^40)→kP 219 [eU u,.func (.func g) [] []] (.bool (wJ q u)):=by
  refine TUnit.ind fun u ih hp hl hk=>?_
  have ihk:∀k,k∈u.kids→kP 219 [eU k,.func (.func g) [] []] (.bool (wJ q k)):=fun k hm=>ih k hm (fun x hx=>hp x (bA hm hx)) (hk k (K4 hm)) (fun x hx=>hk x (bA hm hx))
  have hs:=hp u (dz u)
  have rr0 b' (h:(wJ q u)=b':=by first|(rw[yc];simp only[aS,aw,bS, *];done)|(rw[yc,hj0,N1])|(rw[yc,hj0,BX];simp only[aS,aw,bS, *];done)):=h;exact bD Tryz.func219<|Kp 3 hs<|Kn 0 (q u) (fun _=>Ky 0<|rr0 false) fun _=>Kl 2 13 (ln aY u.kids)<|K1 0 (.frz 0 [1,12,13,14]) ti<|tJ aY u.kids [1,12,13,14] (fun a _=>([bw (bj g) [] [],aW<|u.kids.map aY,nV u.kids.length,nV a],[])) (fun a=>(q u&&(dt u.kids).all q)=(dt a).all q) (by(simp only[aS,aw,bS, *];done)) (fun _ _ _ _ _ a hj0=>Kh 0 a<|Ky 0<|rr0 true) fun a _ b _ c d e f i _ j hj0=>have j:=j.trans<|congrArg some<|aO c;Kt 0 i<|Mx j<|Kp 4 (ihk c<|by exact bQ b f)<|Kn 0 (wJ q c) (fun _=>Kf 0<|cn<|rr0 false) fun _=>Kl 0 22 (dU a)<|K1 0 (.frz 0 [1,12,13,14]) ti<|Mf<|e<|by simp_all[BX]
theorem Nt(u:TUnit)(n:Nat)(hn:n<2^40):kD 220 [eU u,.ptr 0 0 0 0] (ab [.row 1 false 0 [nV n]]) (.bool true) (ab [.row 1 false 0 [nV (n+1)]]):=by
  exact eS Tryz.func220 fun a=>Kl 3 5 (jq n)<|K1 1 (.frz 1 [3]) (et rt ti)<|Mf a
theorem GO:∀(u:TUnit),∀(n:Nat),n+nU u<2^40→kD 219 [eU u,.func (.func 220) [] [.ptr 0 0 0 0]] (ab [.row 1 false 0 [nV n]]) (.bool true) (ab [.row 1 false 0 [nV (n+nU u)]]):=by
  refine TUnit.ind fun u ih n hn=>?_
  have hq:=jQ u
  have hl:=bf u
  exact Oi Tryz.func219<|K1 3 (.frz 1 [1,2,7,8]) (et rt ti)<|Me (Nt u n oA)<|Kl 4 13 (ln aY u.kids)<|Mg 0<|OX aY u.kids (n+1) [1,12,13,14] (fun a _ b=>([bw (bj 220) [] [bz 0 0 0 0],aW<|u.kids.map aY,nV u.kids.length,nV a],[aX 1 false 0 [nV b]])) (fun a b=>n+nU u=b+eJ a∧b+eJ a<2^40) oA (fun _ _ a _ _ _ b _=>Kh 0 b<|Kf 0<|et (az<|dJ true) (by simp_all[mX]:(ab [AObj.row 1 false 0 [nV a]])=(ab [AObj.row 1 false 0 [nV (n+nU u)]]))) fun a _ b c _ d e f g h _ i _=>have i:=i.trans<|congrArg some<|aO d;have c:=bQ c g;have g:b+nU d<2^40:=(by grind[bh]);Kt 0 h<|Mx i<|K1 4 (.frz 1 [1,12,13,14,18,19]) (et rt ti)<|Me (ih d c b g)<|Kl 2 22 (jq a)<|Kf 0<|f (b+nU d)<|by grind[bh]
theorem Ek(u:TUnit)(hn:nU u<2^39):kP 156 [eU u] (nV (nU u)):=by
  have rr0 b' (h:(Int.ofNat (nU u))=b':=by(rw[eO])):=h;exact bD Tryz.func156<|Mg 5<|M0 (.ren [1,0] [] [3,4,5])<|M1 (.frz 1 [3,4,5]) (et rt ti)<|Me (GO u 0 oA)<|Kf 1<|li<|rr0<|Int.ofNat<|0+nU u
noncomputable abbrev rF(ep n:Nat):AObj:=.row 1 false 0 [.slice 1 ep 0 n none]
noncomputable abbrev Mu(ep:Nat)(l:List PId):AObj:=.row 3 true ep (l.map aU)
theorem WA(u:TUnit):kD 221 [eU u,.ptr 0 0 0 0] (ab [.row 1 false 0 [.nils]]) (.bool true) (ab [rF 0 1,Mu 0 [bq u]]):=by
  exact wcq Tryz.func221 (.go 8<|.ren [0,2,1] [] [3]<|.frz 2 [3] .fin) fun a=>et (cZ rt rt ti) a
theorem WB(u:TUnit)(ep n:Nat)(l:List PId)(hn:n=l.length)(hl:l.length<2^30):kD 221 [eU u,.ptr 0 0 0 0] (ab [rF ep n,Mu ep l]) (.bool true) (ab [rF (ep+1) (n+1),Mu (ep+1) (l++[bq u])]):=by
  exact eS Tryz.func221 fun a=>K1 5 .app (cZ (az ep) (sA:n=(l.map aU).length) (by(refine aD (m:=2^31) ?_ ?_ ?_<;>omega):small (n+1) 24=true))<|M1 (.obj 1<|aX 3 true (ep+1)<|(l++[PId.mk u.act u.item u.n]).map aU) (congrArg (aX 3 true<|ep+1)<|cS (f:=aU) (l:=l) (ws:=[PId.mk u.act u.item u.n]))<|K1 1 (.frz 2 [3]) (cZ (tR 3 true (ep+1) 2<|aZ Jq<|l++[PId.mk u.act u.item u.n]) rt ti)<|Mf a
theorem Nh:∀(u:TUnit),∀(ep n:Nat)(l:List PId),n=l.length→l.length+nU u<2^30→kC 219 [eU u,.func (.func 221) [] [.ptr 0 0 0 0]] (ab [rF ep n,Mu ep l])
    (fun v h=>∃y:Nat×Nat×List PId,(y.2.1=y.2.2.length∧y.2.2=l++dj u)∧v=.bool true∧h=ab [rF y.1 y.2.1,Mu y.1 y.2.2]):=by
  refine TUnit.ind fun u ih ep n l hn hl=>?_
  have hq:=jQ u
  have hkl:=bf u
  exact qW Tryz.func219 fun a=>K1 3 (.frz 2 [1,2,7,8]) (cZ (tR 3 true ep 2<|aZ Jq l) rt ti)<|Me (WB u ep n l hn oA)<|Kl 4 13 (ln aY u.kids)<|Mg 0<|U6 aY u.kids (ep+1) (n+1) (l++[bq u]) [1,12,13,14] (fun a _ b c d=>([bw (bj 221) [] [bz 0 0 0 0],aW<|u.kids.map aY,nV u.kids.length,nV a],[aX 1 false 0 [aM 1 b 0 c none],aX 3 true b<|d.map aU])) (fun a _ b c=>b=c.length∧c++ia a=l++[bq u]++ia u.kids∧c.length+eJ a<2^30) gR (fun _ _ b c d _ _ _ e _=>Kh 0 e<|Kf 0<|a (b,c,d)<|by grind[rj,nh]) fun a _ b c d e f g i j k m _ o _=>have o:=(o).trans<|congrArg some<|aO g;have:=cV (J:=fun a b=>b.2.1=b.2.2.length∧b.2.2++ia a=l++[bq u]++ia u.kids∧b.2.2.length+eJ a<2^30) (a:=(b,c,d)) k f;have e:=bQ e k;have f:d.length+nU g<2^30:=(by grind[bh]);Kt 0 m<|Mx o<|K1 4 (.frz 2 [1,12,13,14,18,19]) (cZ (tR 3 true b 2<|aZ Jq d) rt ti)<|Mq (ih g e b c d oA f) fun b _=>Kl 2 22 (dU a)<|Kf 0<|j b.1 b.2.1 b.2.2<|by grind[bh,gk,uy]
theorem VV(l:List PWord)(hl:l.length≤300)(hs:∀w,w∈l→w.text.length≤2^39):kP 305 [.ls (l.map aQ)] (.bool (oB l)):=by
  have hv:=KX (l.map PWord.text) (by grind) (fun s hm=>by grind)
  have rr0 b' (h:(oB l)=b':=by(simp only[oB,aS,aw,bS, *])):=h;exact bD Tryz.func305<|Kl 3 7 (ln aQ l)<|Mg 0<|kn Nat Nat (List aP) aQ l [0,3,6,7,8] (fun a _=>([aW<|l.map aQ,ah,aW<|l.map aQ,nV l.length,nV a],[])) (fun a _ b c d=>([aW<|l.map aQ,aM 0 b 0 c none,aW<|l.map aQ,nV l.length,nV a],[aX 1 true b<|d.map mT])) (fun a=>a=l) (fun a _ b c=>b=c.length∧(0:Nat)<c.length∧c++List.map PWord.text a=List.map PWord.text l∧c.length+a.length=l.length) (by rfl) (fun _ _ _ _ _ a _=>Kh 0 a<|Kl 1 19 (ln aQ l)<|Kd 1 256 (Int.ofNat l.length) (fun a _=>Kt 0 (bF a)<|Mp (ar.onArgs (.cons (Le.lsn (sA:((l.map PWord.text).map mT)=[])) .nil) hv:kP 236 [ah] _)<|MV (bF a)<|Kf 0<|cn<|rr0<|qj<|l.map PWord.text) fun a _=>Mh (bB a)<|My (bB a)<|Kf 0<|cn<|rr0 false) (fun a _ _ _ b c _ d _ e _ f g=>Kt 0 e<|Mx f<|Kl 9 17 (jq a)<|Mg 0<|M0 (.ren [1,0] [] [0,3,6,7,8])<|M1 (.frz 1 [0,3,6,7,8]) (et rt ti)<|Mf<|d 0 1 [b.text]<|by(refine⟨rfl,by simp,?_,?_⟩<;>(rw[←g])<;>(first|rfl|grind))) (fun _ _ a b c _ _ _ d _=>Kh 0 d<|Kl 1 19 (ln aQ l)<|Kd 1 256 (Int.ofNat l.length) (fun d _=>Mg 0<|M2 (.fsl 0 [21] 22<|c.map mT) ti (cZ (az a) (tA mT c b (oA:(c).length=b))<|aZ JU c)<|Ml 22 (eX (c.map mT) false<|aZ JU c)<|Mt (bF d)<|Mp (ar.onArgs (.cons (bR (sA:((l.map PWord.text).map mT)=(c.map mT))) .nil) hv:kP 236 [aW (c.map mT)] _)<|MV (bF d)<|Kf 0<|cn<|rr0<|qj<|l.map PWord.text) fun a _=>Mh (bB a)<|My (bB a)<|Kf 0<|cn<|rr0 false) fun a _ b c d _ _ e f _ g _ i _ j k=>Kt 0 i<|Mx j<|K1 6 .app (cZ (az b) (sA:c=(d.map mT).length) (by(refine aD (m:=2^20) ?_ ?_ ?_<;>omega):small (c+1) 16=true))<|M1 (.obj 0<|aX 1 true (b+1)<|(d++[e.text]).map mT) (congrArg (aX 1 true<|b+1)<|cS (f:=mT) (l:=d) (ws:=[e.text]))<|Kl 1 17 (jq a)<|K1 0 (.frz 1 [0,3,6,7,8]) (et (tR 1 true (b+1) 1<|aZ JU<|d++[e.text]) ti)<|Mf<|g (b+1) (c+1) (d++[e.text])<|by(refine⟨by simp_all,by simp,?_,?_⟩<;>first|(rw[←k.2.2.1];simp;done)|grind)
theorem o3(a b:Nat):Int.ofNat (a+b)=Int.ofNat a+Int.ofNat b:=rfl
theorem R9(u:TUnit)(h1:u.head.length≤300)(h2:u.words.length≤300)(h3:u.kids.length<2^30)(h4:u.label.length≤2^39)(h5:∀w,w∈u.head→w.text.length≤2^39)(h6:∀w,w∈u.words→w.text.length≤2^39):kP 289 [eU u] (.bool (lI u)):=by
  have hlk:∀(m:List ((Int×aP)×Bool))(a:Int)(s:aP),eP (some (.bool false)) false (bd true 2 [(0,1),(1,2)] (.agg [iV a,.str s]) (cX po dw m 0) 0)=some (.bool (OV mP (a,s) m)):=fun m a s=>F4 K5 m (a,s)
  have hup:∀(m:List ((Int×aP)×Bool))(a:Int)(s:aP),rD (cX po dw m 0) m.length (.agg [iV a,.str s]) (.bool true) (bd true 2 [(0,1),(1,2)] (.agg [iV a,.str s]) (cX po dw m 0) 0)=some (cX po dw (fE mP (a,s) true m) 0,(fE mP (a,s) true m).length):=fun m a s=>JE K5 m (a,s)
  have r1:=VV u.head h1 h5
  have r2:=VV u.words h2 h6
  have r3:=uV u.label h4
  have rr0 b' (h:(lI u)=b':=by first|(rw[lI,hj0,mH];simp only[DO,bV,o3,cond_true,cond_false,aS,aw,bS,yh,Bool.false_and,Bool.not_true,BH,Bool.true_and, *];first|done|rfl)|(simp only[lI,DO,bV,o3,cond_true,cond_false,aS,aw,bS, *];done)|(simp only[lI,mH,DO,bV,o3,cond_true,cond_false,aS,aw,bS, *];done)|(simp only[lI,mH,DO,bV,o3,cond_true,cond_false,aS,aw,bS,yh,Bool.false_and,Bool.not_true,BH,Bool.true_and, *];first|done|rfl)):=h;exact bD Tryz.func289<|Kj 4 u.kind 0 (fun _ b=>Kn 3 (eZ u.label (ByteArray.mk #[]).data.toList) (fun b=>Mt (bF b)<|Mt (bF b)<|Mt (bF b)<|Mt (bF b)<|Mt (bF b)<|Mt (bF b)<|Mt (bF b)<|MV (bF b)<|Ky 1<|rr0 false) fun c=>Kh 0 (bB c)<|Kh 0 (bB c)<|Kl 0 16 (ln aQ u.head)<|Mh (bB c)<|Kh 0 (bB c)<|Kh 0 (bB c)<|Kl 0 19 (ln aQ u.words)<|Mh (bB c)<|Kl 0 20 (Le.wr (x:=Int.ofNat u.head.length+Int.ofNat u.words.length) fZ)<|Mh (bB c)<|Kw 0 (bB c)<|Mb (aF 0<|Int.ofNat u.head.length+Int.ofNat u.words.length) (fun b=>have:=aA b;Ky 0<|rr0 false) fun c=>have:=aG c;Kl 4 48 (ln aY u.kids)<|Mg 0<|OX aY u.kids ([]:List ((Int×aP)×Bool)) [1,3,47,48,49] (fun b _ c=>([bz 0 0 0 0,AV.map 1,aW<|u.kids.map aY,nV u.kids.length,nV b],[aX 8 false 0 [aj [iV u.act,iV u.item,iV u.n,iV u.kind,aV u.label,aW<|u.head.map aQ,aW<|u.words.map aQ,aW<|u.kids.map aY]],AObj.map (cX po dw c 0) c.length])) (fun b c=>mH u.kind u.kids []=mH u.kind b c) (by rfl) (fun _ _ _ _ _ _ b hj0=>Kh 0 b<|Kl 2 74 (ln aY u.kids)<|Kf 1<|cn<|rr0<|aw<|aF 64<|Int.ofNat u.kids.length) fun c _ d _ _ e f g _ i _ j hj0=>have j:=j.trans<|congrArg some<|aO e;Kt 0 i<|Mx j<|Kl 11 59 (nZ (k:=IntKind.i64) b)<|Kp 1 (zh 0 e.kind)<|Kn 1 (jK 0 e.kind) (fun b=>Mt (bF b)<|Mt (bF b)<|MV (bF b)<|Ky 1<|rr0 false) fun b=>Kh 0 (bB b)<|Kh 0 (bB b)<|M1 (.look<|dJ<|OV mP (e.kind,e.label) d) (hlk d e.kind e.label)<|My (bB b)<|Mb (OV mP (e.kind,e.label) d) (fun _=>Kf 0<|cn<|rr0 false) fun _=>K1 1 (.upd (cX po dw (fE mP (e.kind,e.label) true d) 0) (fE mP (e.kind,e.label) true d).length) (hup d e.kind e.label)<|Kl 0 71 (dU c)<|K1 0 (.frz 2 [1,3,47,48,49]) (cZ (tM (fE mP (e.kind,e.label) true d).length 2 (by exact cY K5 Am _ _:fx (cX po dw (fE mP (e.kind,e.label) true d) 0)=0)) rt ti)<|Mf<|g (fE mP (e.kind,e.label) true d)<|by(rw[hj0,mH];simp only[aS,aw,bS, *];done)) fun _ _=>Kp 1 (wM u.kind)<|Kb 1 (eZ (dX u.kind) (ByteArray.mk #[]).data.toList) (fun b=>Mt b<|Mt b<|Mt b<|MV b<|Ky 5<|rr0 false) fun b=>Kh 0 b<|Kh 0 b<|Mp r3<|Mh b<|Kw 0 b<|Kn 0 (kJ u.label) (fun b=>Mt (bF b)<|Mt (bF b)<|Mt (bF b)<|MV (bF b)<|Ky 3<|rr0 false) fun b=>Kh 0 (bB b)<|Kh 0 (bB b)<|Mp r1<|Mh (bB b)<|Kw 0 (bB b)<|Kn 0 (oB u.head) (fun b=>Mt (bF b)<|Mt (bF b)<|Mt (bF b)<|MV (bF b)<|Ky 1<|rr0 false) fun b=>Kh 0 (bB b)<|Kh 0 (bB b)<|Mp r2<|Mh (bB b)<|Kw 0 (bB b)<|Mn (oB u.words) (fun _=>Ky 0<|rr0 false) fun _=>Kl 4 48 (ln aY u.kids)<|Mg 0<|OX aY u.kids ([]:List ((Int×aP)×Bool)) [1,3,47,48,49] (fun b _ c=>([bz 0 0 0 0,AV.map 1,aW<|u.kids.map aY,nV u.kids.length,nV b],[aX 8 false 0 [aj [iV u.act,iV u.item,iV u.n,iV u.kind,aV u.label,aW<|u.head.map aQ,aW<|u.words.map aQ,aW<|u.kids.map aY]],AObj.map (cX po dw c 0) c.length])) (fun b c=>mH u.kind u.kids []=mH u.kind b c) (by rfl) (fun _ _ _ _ _ _ b hj0=>Kh 0 b<|Kl 2 74 (ln aY u.kids)<|Kf 1<|cn<|rr0<|aw<|aF 64<|Int.ofNat u.kids.length) fun b _ c _ _ d e f _ g _ i hj0=>have i:=i.trans<|congrArg some<|aO d;Kt 0 g<|Mx i<|Kp 13 (zh u.kind d.kind)<|Kn 1 (jK u.kind d.kind) (fun b=>Mt (bF b)<|Mt (bF b)<|MV (bF b)<|Ky 1<|rr0 false) fun g=>Kh 0 (bB g)<|Kh 0 (bB g)<|M1 (.look<|dJ<|OV mP (d.kind,d.label) c) (hlk c d.kind d.label)<|My (bB g)<|Mb (OV mP (d.kind,d.label) c) (fun _=>Kf 0<|cn<|rr0 false) fun _=>K1 1 (.upd (cX po dw (fE mP (d.kind,d.label) true c) 0) (fE mP (d.kind,d.label) true c).length) (hup c d.kind d.label)<|Kl 0 71 (dU b)<|K1 0 (.frz 2 [1,3,47,48,49]) (cZ (tM (fE mP (d.kind,d.label) true c).length 2 (by exact cY K5 Am _ _:fx (cX po dw (fE mP (d.kind,d.label) true c) 0)=0)) rt ti)<|Mf<|f (fE mP (d.kind,d.label) true c)<|by(rw[hj0,mH];simp only[aS,aw,bS, *];done)
theorem JQ(u:TUnit)(hl:nU u<2^29):kC 219 [eU u,.func (.func 221) [] [.ptr 0 0 0 0]] (ab [.row 1 false 0 [.nils]])
    (fun v h=>∃y:Nat×Nat×List PId,(y.2.1=y.2.2.length∧y.2.2=dj u)∧v=.bool true∧h=ab [rF y.1 y.2.1,Mu y.1 y.2.2]):=by
  have hq:=jQ u
  have hkl:=bf u
  exact qW Tryz.func219 fun a=>K1 3 (.frz 1 [1,2,7,8]) (et rt ti)<|Me (WA u)<|Kl 4 13 (ln aY u.kids)<|Mg 0<|U6 aY u.kids (0:Nat) (1:Nat) ([bq u]:List PId) [1,12,13,14] (fun a _ b c d=>([bw (bj 221) [] [bz 0 0 0 0],aW<|u.kids.map aY,nV u.kids.length,nV a],[aX 1 false 0 [aM 1 b 0 c none],aX 3 true b<|d.map aU])) (fun a _ b c=>b=c.length∧c++ia a=[bq u]++ia u.kids∧c.length+eJ a<2^30) gR (fun _ _ b c d _ _ _ e f=>Kh 0 e<|Kf 0<|a (b,c,d)<|by(refine⟨f.1,?_⟩;have:=f.2.1;rw[rj,dC]at this;rw[this,nh];rfl)) fun a _ b c d e f g i j k l _ m _=>have m:=(m).trans<|congrArg some<|aO g;have:=cV (J:=fun a b=>b.2.1=b.2.2.length∧b.2.2++ia a=[bq u]++ia u.kids∧b.2.2.length+eJ a<2^30) (a:=(b,c,d)) k f;have:=bQ e k;have e:d.length+nU g<2^30:=(by grind[bh]);Kt 0 l<|Mx m<|K1 4 (.frz 2 [1,12,13,14,18,19]) (cZ (tR 3 true b 2<|aZ Jq d) rt ti)<|Mq (Nh g b c d oA e) fun b _=>Kl 2 22 (dU a)<|Kf 0<|j b.1 b.2.1 b.2.2<|by grind[bh,gk,uy]
theorem Qn(u:TUnit)(hl:nU u<2^29):kP 157 [eU u] (.ls ((dj u).map aU)):=by
  have rr0 b' (h:((dj u).map aU)=b':=by(rw[hy0.2])):=h;exact bD Tryz.func157<|Mg 4<|M0 (.ren [1,0] [] [3,4,5])<|M1 (.frz 1 [3,4,5]) (et rt ti)<|Mq (JQ u hl) fun a hy0=>Mg 1<|M2 (.fsl 0 [] 2<|a.2.2.map aU) ti (cZ (az a.1) (tA aU a.2.2 a.2.1 (oA:(a.2.2).length=a.2.1))<|aZ Jq a.2.2)<|Ml 2 (eX (a.2.2.map aU) false<|aZ Jq a.2.2)<|Mf<|bR<|rr0<|a.2.2.map aU
theorem Wu(u:TUnit)(hl:nU u<2^20):kP 290 [eU u] (.bool (Qo u)):=by
  have hb:(dj u).length<2^20:=by grind[uy]
  have hi:=Qn u (by omega)
  have hlk:∀(m:List (PId×Bool))(a b c:Int),eP (some (.bool false)) false (bd true 3 [(0,1),(1,1),(2,1)] (.agg [iV a,iV b,iV c]) (cX aU dw m 0) 0)=some (.bool (OV bg ⟨a,b,c⟩ m)):=fun m a b c=>F4 II m ⟨a,b,c⟩
  have hup:∀(m:List (PId×Bool))(a b c:Int),rD (cX aU dw m 0) m.length (.agg [iV a,iV b,iV c]) (.bool true) (bd true 3 [(0,1),(1,1),(2,1)] (.agg [iV a,iV b,iV c]) (cX aU dw m 0) 0)=some (cX aU dw (fE bg ⟨a,b,c⟩ true m) 0,(fE bg ⟨a,b,c⟩ true m).length):=fun m a b c=>JE II m ⟨a,b,c⟩
  have rr0 b' (h:(Qo u)=b':=by((try clear gh1);(try clear gh2);(try clear gh3);(try clear gh4);(try clear gh5);(try clear gh6);(try clear gh7);have e:=CS (kenc:=aU) (f:=dw) za0 0;simp only[e,lM]at *;simp only[Qo,fL,bg,bq,b6,hj0,L7,aS,aw,bS, *];first|done|rfl)):=h;exact bD Tryz.func290<|Kp 2 hi<|Kl 4 12 (ln aU<|dj u)<|Mg 0<|OX aU (dj u) ([]:List (PId×Bool)) [1,3,4,11,12,13] (fun d _ g=>([bz 0 0 0 0,aW<|(dj u).map aU,AV.map 1,aW<|(dj u).map aU,nV (dj u).length,nV d],[aX 8 false 0 [aj [iV u.act,iV u.item,iV u.n,iV u.kind,aV u.label,aW<|u.head.map aQ,aW<|u.words.map aQ,aW<|u.kids.map aY]],AObj.map (cX aU dw g 0) g.length])) (fun d g=>CV (dj u) []=CV d g) (by rfl) (fun _ _ za0 _ _ _ d hj0=>Kh 0 d<|K1 1 (.look<|dJ<|OV bg (PId.mk 0 0 0) za0) (hlk za0 0 0 0)<|Kb 2 (OV bg (PId.mk 0 0 0) za0) (fun d=>Kt 0 d<|Kt 0 d<|Ku 0 d<|Kj 0 (Int.ofNat (cX aU dw za0 0).length) 1 (fun d gh2=>Mt d<|Mt d<|Mt d<|Mt d<|Mt d<|Mt d<|MV d<|Ky 0<|rr0 true) fun d gh2=>Kh 0 d<|Kh 0 d<|Kh 0 d<|Kh 0 d<|Kh 0 d<|Kj 0 (Int.ofNat (cX aU dw za0 0).length) (Int.ofNat ((dj u).map aU).length) (fun g gh3=>Kt 0 g<|Kt 0 g<|Kt 0 g<|Kt 0 g<|Kt 0 g<|Kt 0 g<|Mv (lz ((Tryz.prog).underlying 34) u.act u.item u.n 0 0 0 h0)<|Mt g<|Kh 0 d<|MV g<|My d<|Kf 0<|cn<|rr0<|al u.kind 0==(al u.act 0&&(al u.item 0&&al u.n 0))) fun g gh3=>Mh g<|Mh g<|Mh g<|Mh g<|Mh g<|Mh g<|Mh g<|Mh d<|My g<|My d<|Ky 0<|rr0 false) fun d=>Mh d<|Mh d<|My d<|Kj 6 (Int.ofNat (cX aU dw za0 0).length) (Int.ofNat ((dj u).map aU).length) (fun d gh4=>Kt 0 d<|Kt 0 d<|Kt 0 d<|Kt 0 d<|Kt 0 d<|Kt 0 d<|Mv (lz ((Tryz.prog).underlying 34) u.act u.item u.n 0 0 0 h0)<|Mt d<|Ku 0 d<|Kf 1<|cn<|rr0<|al u.kind 0==(al u.act 0&&(al u.item 0&&al u.n 0))) fun d gh4=>Mh d<|Mh d<|Mh d<|Mh d<|Mh d<|Mh d<|Mh d<|My d<|Ky 1<|rr0 false) fun d _ za0 _ _ g i j _ k _ l hj0=>Kt 0 k<|Mx l<|K1 4 (.upd (cX aU dw (fE bg (PId.mk g.a g.i g.n) true za0) 0) (fE bg (PId.mk g.a g.i g.n) true za0).length) (hup za0 g.a g.i g.n)<|Kl 0 19 (jq d)<|K1 0 (.frz 2 [1,3,4,11,12,13]) (cZ (tM (fE bg (PId.mk g.a g.i g.n) true za0).length 2 (by exact cY II Am _ _:fx (cX aU dw (fE bg (PId.mk g.a g.i g.n) true za0) 0)=0)) rt ti)<|Mf<|j (fE bg (PId.mk g.a g.i g.n) true za0)<|by(rw[hj0];rfl)
/-- What a tree's parts must be, so that the walks can count. -/
def rT(x:TUnit):Prop:=x.head.length≤300∧x.words.length≤300∧x.label.length≤2^39∧(∀w,w∈x.head→w.text.length≤2^39)∧∀w,w∈x.words→w.text.length≤2^39
def mh(u:TUnit):Prop:=nU u≤2^19∧∀x,x∈bp u→rT x
theorem GP(u:TUnit)(h:mh u):kP 219 [eU u,.func (.func 289) [] []] (.bool (wJ lI u)):=
  Lq 289 lI u
    (fun x hx=>by
      obtain⟨a,b,c,d,e⟩:=h.2 x hx
      have h1:=bf x
      have h2:=dO hx
      have h3:=h.1
      grind[R9])
    (by have h1:=bf u;have h3:=h.1;omega)
    (fun x hx=>by
      have h1:=bf x
      have h2:=dO hx
      have h3:=h.1
      omega)
theorem xH(u:TUnit)(h:mh u):kP 260 [eU u] (.bool (ku u)):=by
  have h1:=h.1
  have e1:=GP u h
  have e2:=HK u (by omega)
  have e3:=Ek u (by omega)
  have e4:=Wu u (by omega)
  have hd:=Ex u
  have rr0 b' (h:(ku u)=b':=by(simp only[ku,aS,aw,bS, *];done)):=h;exact bD Tryz.func260<|Kp 2 e1<|Kb 0 (wJ lI u) (fun a=>Kt 0 a<|Mp e2<|Mt a<|Ku 0 a<|Kn 0 (aF 8<|Int.ofNat<|m0 u) (fun a=>Kt 0 (bF a)<|Mp e3<|Mt (bF a)<|Ku 0 (bF a)<|Kn 0 (aF 1024<|Int.ofNat<|nU u) (fun a=>Kt 0 (bF a)<|Mp e4<|MV (bF a)<|Kf 0<|cn<|rr0<|Qo u) fun a=>Mh (bB a)<|My (bB a)<|Ky 0<|rr0 false) fun a=>Mh (bB a)<|Mh (bB a)<|My (bB a)<|Ky 2<|rr0 false) fun a=>Mh a<|Mh a<|My a<|Ky 4<|rr0 false
theorem rh(l:List PWord)(hl:l.length<2^30):kP 110 [.ls (l.map aQ)] (.ls (l.map aQ)):=by
  cases l with
  |nil=>exact ar.ls0 (Ro.less Le.nils) (Rn.lessB (u:=.ls []) (by kernel_rfl))
  |cons w r=>grind[Rp]
noncomputable abbrev ww:AObj:=.row 8 false 0 [.agg [iV 0,iV 0,iV 0,iV 0,.str [],.nils,.nils,.nils]]
theorem Hq:∀(u:TUnit),nU u≤2^20→(∀x,x∈bp u→x.head.length<2^30∧x.words.length<2^30)→kP 77 [eU u] (eU u):=by
  refine TUnit.ind fun u ih hn ht=>?_
  have hkl:=bf u
  have c1:=rh u.head (ht u (dz u)).1
  have c2:=rh u.words (ht u (dz u)).2
  have ihk:∀k,k∈u.kids→kP 77 [eU k] (eU k):=fun k hk=>ih k hk (b0 (tK (iz hk)) hn) (fun x hx=>ht x (bA hk hx))
  have rr0 b' (h:(u.kids.map aY)=b':=by first|rfl|(rw[←hj0];rfl)|(rw[←hj0.2.2.1,dC])):=h;let q1:=List.map aQ u.words;let q2:=List.map aQ u.head;exact bD Tryz.func77<|Kp 3 c1<|Kp 1 c2<|Kl 7 16 (ln aY u.kids)<|Mg 0<|kn Nat Nat (List TUnit) aY u.kids [1,2,3,15,16,17] (fun a _=>([bz 0 0 0 0,bz 1 0 0 0,ah,aW<|u.kids.map aY,nV u.kids.length,nV a],[aX 8 false 0 [aj [iV u.act,iV u.item,iV u.n,iV u.kind,aV u.label,aW<|u.head.map aQ,aW<|u.words.map aQ,aW<|u.kids.map aY]],aX 8 false 0 [aj [iV 0,iV 0,iV 0,iV 0,aV [],ah,ah,ah]]])) (fun a _ b c d=>([bz 0 0 0 0,bz 1 0 0 0,aM 2 b 0 c none,aW<|u.kids.map aY,nV u.kids.length,nV a],[aX 8 false 0 [aj [iV u.act,iV u.item,iV u.n,iV u.kind,aV u.label,aW<|u.head.map aQ,aW<|u.words.map aQ,aW<|u.kids.map aY]],aX 8 false 0 [aj [iV 0,iV 0,iV 0,iV 0,aV [],ah,ah,ah]],aX 8 true b<|d.map aY])) (fun a=>a=u.kids) (fun a _ b c=>b=c.length∧(0:Nat)<c.length∧c++a=u.kids∧c.length+a.length=u.kids.length) (by rfl) (fun _ _ _ _ _ a hj0=>Kh 0 a<|Kl 0 27 bN<|Kf 3 (aT (lc<|lc<|lc<|lc<|lc<|lc<|lc<|.cons (bR<|rr0 []) .nil)<|by kernel_rfl:Le _ (AV.agg [iV u.act,iV u.item,iV u.n,iV u.kind,AV.str u.label,AV.ls q2,AV.ls q1,AV.ls []]))) (fun a _ _ b c d _ e f g _ i _=>have i:=(i).trans<|congrArg some<|aO c;have hj0:=cV (J:=fun a _=>a=u.kids) (a:=()) f b;Kt 0 g<|Mx i<|Kp 4 (ihk c gR)<|K1 1 (.obj 3<|aX 8 true 0<|List.map aY [c]) (congrArg (aX 8 true 0)<|To (f:=aY) (g:=Go.Ev.eU) (ws:=[c]) aO)<|Kl 1 26 (dU a)<|K1 0 (.ren [0,1,3,2] [3] [1,2,3,15,16,17]) (tS 8 true 0<|aZ iZ [c])<|M1 (.frz 3 [1,2,3,15,16,17]) (jX (tR 8 true 0 3<|aZ iZ [c]) rt rt ti)<|Mf<|e 0 1 [c]<|by(refine⟨rfl,by simp,?_,?_⟩<;>(rw[←hj0])<;>(first|rfl|grind))) (fun _ _ a b c _ _ _ d hj0=>let e:=List.map aY c;Kh 0 d<|Mg 0<|M2 (.fsl 2 [1,2] 27 e) (cZ rt rt ti) (cZ (az a) (tA aY c b (oA:(c).length=b))<|aZ iZ c)<|Ml 27 (eX e false<|aZ iZ c)<|Kf 3 (aT (lc<|lc<|lc<|lc<|lc<|lc<|lc<|.cons (bR<|rr0 e) .nil)<|by kernel_rfl:Le _ (AV.agg [iV u.act,iV u.item,iV u.n,iV u.kind,AV.str u.label,AV.ls q2,AV.ls q1,AV.ls e]))) fun a _ b c d _ e f g _ i j l _ n _=>have n:=(n).trans<|congrArg some<|aO f;have hj0:=cV (J:=fun a b=>b.2.1=b.2.2.length∧(0:Nat)<b.2.2.length∧b.2.2++a=u.kids∧b.2.2.length+a.length=u.kids.length) (a:=(b,c,d)) j e;Kt 0 l<|Mx n<|Kp 4 (ihk f gR)<|K1 0 .app (cZ (az b) (sA:c=(d.map aY).length) (by(refine aD (m:=2^21) ?_ ?_ ?_<;>omega):small (c+1) 120=true))<|M1 (.obj 2<|aX 8 true (b+1)<|(d++[f]).map aY) (congrArg (aX 8 true<|b+1)<|yV (f:=aY) (g:=Go.Ev.eU) (l:=d) (ws:=[f]) aO)<|Kl 1 26 (dU a)<|K1 0 (.frz 3 [1,2,3,15,16,17]) (jX (tR 8 true (b+1) 3<|aZ iZ<|d++[f]) rt rt ti)<|Mf<|i (b+1) (c+1) (d++[f])<|by(refine⟨by simp_all,by simp,?_,?_⟩<;>first|(rw[←hj0.2.2.1];simp;done)|grind)
theorem WO(p:PId)(u:TUnit)(h:By (cj p u) true)(hn:nU u≤2^20)(ht:∀x,x∈bp u→x.head.length<2^30∧x.words.length<2^30):kP 62 [eU u,aU p] (.tuple [eU (ee p u),.bool true]):=by
  have hw:=E5 p u h hn
  have hlen:=l9 (p:=p) u
  have hpos:0<(aI p u).length:=pS.2 (lQ h)
  have hm:ee p u∈bp u:=JD u _ (Q0 h)
  have hf:ee p u=gD (aI p u) ((aI p u).length -1):=by unfold ee;simp_all
  have hc:=Hq (ee p u) (b0 (dO hm) hn) (fun x hx=>ht x (by
    grind[iP]))
  rw[hf]at hc ⊢
  have hz:=RJ hpos
  exact bD Tryz.func62<|Kp 5 hw<|Kl 2 11 (ln aY<|aI p u)<|Kh 0 hz<|Kl 2 16 (ln aY<|aI p u)<|Kl 0 17 (Bx (aI p u).length)<|Mx ((bK aY (oA:(aI p u).length -1<(aI p u).length)).trans<|congrArg some<|aO _)<|Kp 0 hc<|Kf 1<|bZ<|eb [aj [iV (gD (aI p u)<|(aI p u).length -1).act,iV (gD (aI p u)<|(aI p u).length -1).item,iV (gD (aI p u)<|(aI p u).length -1).n,iV (gD (aI p u)<|(aI p u).length -1).kind,aV (gD (aI p u)<|(aI p u).length -1).label,aW<|List.map aQ (gD (aI p u)<|(aI p u).length -1).head,aW<|List.map aQ (gD (aI p u)<|(aI p u).length -1).words,aW<|List.map aY (gD (aI p u)<|(aI p u).length -1).kids],dJ true]
theorem WS(p:PId)(u:TUnit)(h:By (cj p u) false)(hn:nU u≤2^20):kP 62 [eU u,aU p] (.tuple [eU be,.bool false]):=by
  have hw:=JC p u h hn
  exact bD Tryz.func62<|Kp 5 hw<|Kf 7 (eN<|.cons (aT (lc<|lc<|lc<|lc<|lc<|.cons bN<|.cons bN<|.cons bN .nil)<|by kernel_rfl)<|lc .nil:Le _ (eb [aj [iV 0,iV 0,iV 0,iV 0,aV [],ah,ah,ah],dJ false]))
theorem QT(p:PId)(u:TUnit)(hn:nU u≤2^20)(ht:∀x,x∈bp u→x.head.length<2^30∧x.words.length<2^30):kP 62 [eU u,aU p] (.tuple [eU (ee p u),.bool (cj p u)]):=by
  cases h:cj p u with
  |true=>grind[WO]
  | false=>
    have:=WS p u h hn
    rwa[show be=ee p u by unfold ee;simp_all]at this
theorem Lj(l m:List PStep)(hl:l.length<2^60)(hm:m.length<2^60):kP 201 [.ls (l.map ak),.ls (m.map ak)] (.bool (cJ kU l m)):=by
  have rr0 b' (h:(cJ kU l m)=b':=by first|exact mS fZ hj0|exact lx fZ|(rw[ib zd0 hr0 fZ hj0];simp only[kU,aS,aw,bS, *];first|done|rfl)):=h;exact bD Tryz.func201<|Kl 2 7 (ln ak l)<|Kl 1 9 (ln ak m)<|Kc 0 (Int.ofNat l.length) (Int.ofNat m.length) (fun _ _=>Ky 0<|rr0 false) fun _ _=>Kl 1 12 (ln ak l)<|Mg 0<|tJ ak l [0,1,12,13] (fun a _=>([aW<|l.map ak,aW<|m.map ak,nV l.length,nV a],[])) (fun a=>cJ kU l m=cJ kU a (m.drop<|l.length-a.length)) sA (fun _ _ zd0 _ hr0 a hj0=>Kh 0 a<|Ky 0<|rr0 true) fun a _ zd0 _ b c d hr0 e _ f hj0=>Kt 0 e<|Kx 3 f<|Kx 2 (bK ak (sA:a<(m).length))<|Kv 0 (u9 (d:=(Tryz.prog).underlying 126) (n:=2) (l:=(0,1)::(1,2)::[]) (xs:=[iV b.kind,aV b.label]) (ys:=[iV (gD m a).kind,aV (gD m a).label]) (H:=AHeap.mk 1000000 Tr.nil) rfl<|mO (e:=al b.kind (gD m a).kind) rfl rfl rfl<|Ae (e:=eZ b.label (gD m a).label) rfl rfl rfl rfl)<|Mn (al b.kind (gD m a).kind &&eZ b.label (gD m a).label) (fun _=>Kf 0<|cn<|rr0 false) fun _=>Kl 0 25 (dU a)<|Kf 0<|d<|by(rw[ib zd0 hr0 (by grind) hj0];simp only[kU,aS,aw,bS, *];first|done|rfl)
theorem yj(l m:List aP)(hl:l.length<2^60)(hm:m.length<2^60):kP 202 [.ls (l.map mT),.ls (m.map mT)] (.bool (cJ eZ l m)):=by
  have rr0 b' (h:(cJ eZ l m)=b':=by first|exact mS fZ hj0|exact lx fZ|(rw[ib zd0 hr0 fZ hj0];simp only[aS,aw,bS, *];first|done|rfl)):=h;exact bD Tryz.func202<|Kl 2 7 (ln mT l)<|Kl 1 9 (ln mT m)<|Kc 0 (Int.ofNat l.length) (Int.ofNat m.length) (fun _ _=>Ky 0<|rr0 false) fun _ _=>Kl 1 12 (ln mT l)<|Mg 0<|tJ mT l [0,1,12,13] (fun a _=>([aW<|l.map mT,aW<|m.map mT,nV l.length,nV a],[])) (fun a=>cJ eZ l m=cJ eZ a (m.drop<|l.length-a.length)) sA (fun _ _ zd0 _ hr0 a hj0=>Kh 0 a<|Ky 0<|rr0 true) fun a _ zd0 _ b c d hr0 e _ f hj0=>Kt 0 e<|Kx 3 f<|Kx 2 (bK mT (sA:a<(m).length))<|Kn 1 (eZ b<|gD m a) (fun _=>Kf 0<|cn<|rr0 false) fun _=>Kl 0 25 (dU a)<|Kf 0<|d<|by(rw[ib zd0 hr0 (by grind) hj0];simp only[aS,aw,bS, *];first|done|rfl)
theorem Lx(l m:List PWord)(hl:l.length<2^60)(hm:m.length<2^60):kP 57 [.ls (l.map aQ),.ls (m.map aQ)] (.bool (cJ Bz l m)):=by
  have rr0 b' (h:(cJ Bz l m)=b':=by first|exact mS fZ hj0|exact lx fZ|(rw[ib zd0 hr0 fZ hj0];simp only[Bz,aS,aw,bS, *];first|done|rfl)):=h;exact bD Tryz.func57<|Kl 2 7 (ln aQ l)<|Kl 1 9 (ln aQ m)<|Kc 0 (Int.ofNat l.length) (Int.ofNat m.length) (fun _ _=>Ky 0<|rr0 false) fun _ _=>Kl 1 12 (ln aQ l)<|Mg 0<|tJ aQ l [0,1,12,13] (fun a _=>([aW<|l.map aQ,aW<|m.map aQ,nV l.length,nV a],[])) (fun a=>cJ Bz l m=cJ Bz a (m.drop<|l.length-a.length)) sA (fun _ _ zd0 _ hr0 a hj0=>Kh 0 a<|Ky 0<|rr0 true) fun a _ zd0 _ b c d hr0 e _ f hj0=>Kt 0 e<|Kx 3 f<|Kx 2 (bK aQ (sA:a<(m).length))<|Kv 0 (u9 (d:=(Tryz.prog).underlying 102) (n:=4) (l:=(0,2)::(1,1)::(2,1)::(3,1)::[]) (xs:=[aV b.text,iV b.act,iV b.item,iV b.at_]) (ys:=[aV (gD m a).text,iV (gD m a).act,iV (gD m a).item,iV (gD m a).at_]) (H:=AHeap.mk 1000000 Tr.nil) rfl<|mO (e:=eZ b.text (gD m a).text) rfl rfl rfl<|mO (e:=al b.act (gD m a).act) rfl rfl rfl<|mO (e:=al b.item (gD m a).item) rfl rfl rfl<|Ae (e:=al b.at_ (gD m a).at_) rfl rfl rfl rfl)<|Mn (eZ b.text (gD m a).text &&(al b.act (gD m a).act &&(al b.item (gD m a).item &&al b.at_ (gD m a).at_))) (fun _=>Kf 0<|cn<|rr0 false) fun _=>Kl 0 25 (dU a)<|Kf 0<|d<|by(rw[ib zd0 hr0 (by grind) hj0];simp only[Bz,aS,aw,bS, *];first|done|rfl)
theorem XQ(l m:List TUnit)(g:Nat)(q:TUnit→TUnit→Bool)(hp:∀a,a∈l→∀b,b∈m→kP g [eU a,eU b] (.bool (q a b)))(hl:l.length<2^60)(hm:m.length<2^60):kP 58 [.ls (l.map aY),.ls (m.map aY),.func (.func g) [] []] (.bool (cJ q l m)):=by
  have rr0 b' (h:(cJ q l m)=b':=by first|exact mS fZ hj0|exact lx fZ|(rw[ib zd0 hr0 fZ hj0];simp only[aS,aw,bS, *];first|done|rfl)):=h;exact bD Tryz.func58<|Kl 2 11 (ln aY l)<|Kl 1 13 (ln aY m)<|Kc 0 (Int.ofNat l.length) (Int.ofNat m.length) (fun _ _=>Ky 0<|rr0 false) fun _ _=>Kl 1 16 (ln aY l)<|Mg 0<|tJ aY l [1,2,15,16,17] (fun c _=>([aW<|m.map aY,bw (bj g) [] [],aW<|l.map aY,nV l.length,nV c],[])) (fun c=>cJ q l m=cJ q c (m.drop<|l.length-c.length)) sA (fun _ _ zd0 _ hr0 c hj0=>Kh 0 c<|Ky 0<|rr0 true) fun c _ zd0 _ d e f hr0 i _ j hj0=>have j:=j.trans<|congrArg some<|aO d;Kt 0 i<|Kx 0 j<|Kx 5 ((bK aY (sA:c<(m).length)).trans<|congrArg some<|aO _)<|Kp 5 (hp d (by exact bQ zd0 hr0) (gD m c)<|by grind[iC])<|Kn 0 (q d<|gD m c) (fun _=>Kf 0<|cn<|rr0 false) fun _=>Kl 0 31 (dU c)<|K1 0 (.frz 0 [1,2,15,16,17]) ti<|Mf<|f<|by(rw[ib zd0 hr0 (by grind) hj0];simp only[aS,aw,bS, *];first|done|rfl)
theorem XZ(l m:List PItem)(g:Nat)(q:PItem→PItem→Bool)(hp:∀a,a∈l→∀b,b∈m→kP g [eI a,eI b] (.bool (q a b)))(hl:l.length<2^60)(hm:m.length<2^60):kP 203 [.ls (l.map Np),.ls (m.map Np),.func (.func g) [] []] (.bool (cJ q l m)):=by
  have rr0 b' (h:(cJ q l m)=b':=by first|exact mS fZ hj0|exact lx fZ|(rw[ib zd0 hr0 fZ hj0];simp only[aS,aw,bS, *];first|done|rfl)):=h;exact bD Tryz.func203<|Kl 2 11 (ln Np l)<|Kl 1 13 (ln Np m)<|Kc 0 (Int.ofNat l.length) (Int.ofNat m.length) (fun _ _=>Ky 0<|rr0 false) fun _ _=>Kl 1 16 (ln Np l)<|Mg 0<|tJ Np l [1,2,15,16,17] (fun c _=>([aW<|m.map Np,bw (bj g) [] [],aW<|l.map Np,nV l.length,nV c],[])) (fun c=>cJ q l m=cJ q c (m.drop<|l.length-c.length)) sA (fun _ _ zd0 _ hr0 c hj0=>Kh 0 c<|Ky 0<|rr0 true) fun c _ zd0 _ d e f hr0 i _ j hj0=>have j:=j.trans<|congrArg some<|ej d;Kt 0 i<|Kx 0 j<|Kx 5 ((bK Np (sA:c<(m).length)).trans<|congrArg some<|ej _)<|Kp 5 (hp d (by exact bQ zd0 hr0) (gD m c)<|by grind[iC])<|Kn 0 (q d<|gD m c) (fun _=>Kf 0<|cn<|rr0 false) fun _=>Kl 0 31 (dU c)<|K1 0 (.frz 0 [1,2,15,16,17]) ti<|Mf<|f<|by(rw[ib zd0 hr0 (by grind) hj0];simp only[aS,aw,bS, *];first|done|rfl)
theorem Oo:∀(u:TUnit),pY u→∀v,pY v→kP 33 [eU u,eU v] (.bool (yx u v)):=by
  refine TUnit.ind fun u ih hu v hv=>?_
  obtain⟨u1,u2,u3,u4⟩:=lq.1 hu
  obtain⟨v1,v2,v3,v4⟩:=lq.1 hv
  have hk:=XQ u.kids v.kids 33 yx (fun a ha b hb=>ih a ha (u4 a ha) b (v4 b hb)) u3 v3
  have hh:=Lx u.head v.head u1 v1
  have hw:=Lx u.words v.words u2 v2
  have rr0 b' (h:(yx u v)=b':=by(rw[JJ];simp only[bg,bq,bV,aS,aw,bS, *];first|done|rfl)):=h;exact bD Tryz.func33<|Kv 6 (lz ((Tryz.prog).underlying 34) u.act u.item u.n v.act v.item v.n<|ab [aX 8 false 0 [aj [iV u.act,iV u.item,iV u.n,iV u.kind,aV u.label,aW<|u.head.map aQ,aW<|u.words.map aQ,aW<|u.kids.map aY]],aX 8 false 0 [aj [iV v.act,iV v.item,iV v.n,iV v.kind,aV v.label,aW<|v.head.map aQ,aW<|v.words.map aQ,aW<|v.kids.map aY]]])<|Kb 0 (al u.act v.act&&(al u.item v.item&&al u.n v.n)) (fun c=>Kt 0 c<|Kt 0 c<|Kt 0 c<|Kt 0 c<|Ku 0 c<|Kb 0 (al u.kind v.kind) (fun c=>Kt 0 c<|Kt 0 c<|Kt 0 c<|Kt 0 c<|Ku 0 c<|Kb 0 (eZ u.label v.label) (fun c=>Kt 0 c<|Kt 0 c<|Kt 0 c<|Kt 0 c<|Mp hh<|MV c<|Kb 0 (cJ Bz u.head v.head) (fun c=>Kt 0 c<|Kt 0 c<|Kt 0 c<|Kt 0 c<|Mp hw<|MV c<|Kb 0 (cJ Bz u.words v.words) (fun c=>Kt 0 c<|Kt 0 c<|Kt 0 c<|Kt 0 c<|Mp hk<|MV c<|Kf 0<|cn<|rr0<|cJ yx u.kids v.kids) fun c=>Mh c<|Mh c<|Mh c<|Mh c<|My c<|Ky 0<|rr0 false) fun c=>Mh c<|Mh c<|Mh c<|Mh c<|My c<|Ky 2<|rr0 false) fun c=>Mh c<|Mh c<|Mh c<|Mh c<|My c<|Ky 4<|rr0 false) fun c=>Mh c<|Mh c<|Mh c<|Mh c<|My c<|Ky 6<|rr0 false) fun c=>Mh c<|Mh c<|Mh c<|Mh c<|My c<|Ky 8<|rr0 false
def TR(u:PItem)(v:PItem)(N:Bool)(z5:Bool):Prop:=z5=N
noncomputable def TP(u:PItem)(v:PItem)(N:Bool)(z5:Bool):List AV×List AObj:=([AV.ptr 0 0 0 0,AV.ptr 1 0 0 0,AV.bool z5],[AObj.row 25 false 0 [AV.agg [iV u.kind,AV.ls (u.at_.map ak),AV.ls (u.to.map ak),iV u.where_,iV u.nth_,iV u.unit.act,iV u.unit.item,iV u.unit.n,iV u.unit.kind,AV.str u.unit.label,AV.ls (u.unit.head.map aQ),AV.ls (u.unit.words.map aQ),AV.ls (u.unit.kids.map aY),AV.ls (u.old.map mT),AV.ls (u.new.map mT),AV.str u.label,AV.str u.for_,iV u.start.kind,iV u.start.day,AV.str u.start.event,iV u.act,iV u.item,iV u.day,AV.str u.event,AV.ls (u.by_.map Np)]],AObj.row 25 false 0 [AV.agg [iV v.kind,AV.ls (v.at_.map ak),AV.ls (v.to.map ak),iV v.where_,iV v.nth_,iV v.unit.act,iV v.unit.item,iV v.unit.n,iV v.unit.kind,AV.str v.unit.label,AV.ls (v.unit.head.map aQ),AV.ls (v.unit.words.map aQ),AV.ls (v.unit.kids.map aY),AV.ls (v.old.map mT),AV.ls (v.new.map mT),AV.str v.label,AV.str v.for_,iV v.start.kind,iV v.start.day,AV.str v.start.event,iV v.act,iV v.item,iV v.day,AV.str v.event,AV.ls (v.by_.map Np)]]])
def TO(u:PItem)(v:PItem)(T:Bool)(z5:Bool)(z6:Bool):Prop:=z6=T
noncomputable def TN(u:PItem)(v:PItem)(T:Bool)(z5:Bool)(z6:Bool):List AV×List AObj:=([AV.ptr 0 0 0 0,AV.ptr 1 0 0 0,AV.bool z5,AV.bool z6],[AObj.row 25 false 0 [AV.agg [iV u.kind,AV.ls (u.at_.map ak),AV.ls (u.to.map ak),iV u.where_,iV u.nth_,iV u.unit.act,iV u.unit.item,iV u.unit.n,iV u.unit.kind,AV.str u.unit.label,AV.ls (u.unit.head.map aQ),AV.ls (u.unit.words.map aQ),AV.ls (u.unit.kids.map aY),AV.ls (u.old.map mT),AV.ls (u.new.map mT),AV.str u.label,AV.str u.for_,iV u.start.kind,iV u.start.day,AV.str u.start.event,iV u.act,iV u.item,iV u.day,AV.str u.event,AV.ls (u.by_.map Np)]],AObj.row 25 false 0 [AV.agg [iV v.kind,AV.ls (v.at_.map ak),AV.ls (v.to.map ak),iV v.where_,iV v.nth_,iV v.unit.act,iV v.unit.item,iV v.unit.n,iV v.unit.kind,AV.str v.unit.label,AV.ls (v.unit.head.map aQ),AV.ls (v.unit.words.map aQ),AV.ls (v.unit.kids.map aY),AV.ls (v.old.map mT),AV.ls (v.new.map mT),AV.str v.label,AV.str v.for_,iV v.start.kind,iV v.start.day,AV.str v.start.event,iV v.act,iV v.item,iV v.day,AV.str v.event,AV.ls (v.by_.map Np)]]])
def Qh(u:PItem)(v:PItem)(R:Bool)(z5:Bool)(z6:Bool)(z7:Bool):Prop:=z7=R
noncomputable def Qg(u:PItem)(v:PItem)(R:Bool)(z5:Bool)(z6:Bool)(z7:Bool):List AV×List AObj:=([AV.ptr 0 0 0 0,AV.ptr 1 0 0 0,AV.bool z5,AV.bool z6,AV.bool z7],[AObj.row 25 false 0 [AV.agg [iV u.kind,AV.ls (u.at_.map ak),AV.ls (u.to.map ak),iV u.where_,iV u.nth_,iV u.unit.act,iV u.unit.item,iV u.unit.n,iV u.unit.kind,AV.str u.unit.label,AV.ls (u.unit.head.map aQ),AV.ls (u.unit.words.map aQ),AV.ls (u.unit.kids.map aY),AV.ls (u.old.map mT),AV.ls (u.new.map mT),AV.str u.label,AV.str u.for_,iV u.start.kind,iV u.start.day,AV.str u.start.event,iV u.act,iV u.item,iV u.day,AV.str u.event,AV.ls (u.by_.map Np)]],AObj.row 25 false 0 [AV.agg [iV v.kind,AV.ls (v.at_.map ak),AV.ls (v.to.map ak),iV v.where_,iV v.nth_,iV v.unit.act,iV v.unit.item,iV v.unit.n,iV v.unit.kind,AV.str v.unit.label,AV.ls (v.unit.head.map aQ),AV.ls (v.unit.words.map aQ),AV.ls (v.unit.kids.map aY),AV.ls (v.old.map mT),AV.ls (v.new.map mT),AV.str v.label,AV.str v.for_,iV v.start.kind,iV v.start.day,AV.str v.start.event,iV v.act,iV v.item,iV v.day,AV.str v.event,AV.ls (v.by_.map Np)]]])
theorem sS:∀(u:PItem),nW u→∀v,nW v→kP 139 [eI u,eI v] (.bool (EV u v)):=by
  refine PItem.ind fun u ih hu v hv=>?_
  obtain⟨u1,u2,u3,u4,u5,u6,u7⟩:=qr.1 hu
  obtain⟨v1,v2,v3,v4,v5,v6,v7⟩:=qr.1 hv
  have hk:=XZ u.by_ v.by_ 139 EV (fun a ha b hb=>ih a ha (u7 a ha) b (v7 b hb)) u5 v5
  have h1:=Lj u.at_ v.at_ u1 v1
  have h2:=Lj u.to v.to u2 v2
  have h3:=yj u.old v.old u3 v3
  have h4:=yj u.new v.new u4 v4
  have h5:=Oo u.unit u6 v.unit v6
  rw[Uv]
  generalize hN:(al u.kind v.kind&&(al u.where_ v.where_&&(al u.nth_ v.nth_&&(al u.act v.act&&(al u.item v.item&&al u.day v.day)))))=N
  generalize hT:(eZ u.label v.label&&(eZ u.for_ v.for_&&(eZ u.event v.event&&(al u.start.kind v.start.kind&&(al u.start.day v.start.day&&eZ u.start.event v.start.event)))))=T
  generalize hR:(cJ kU u.at_ v.at_&&(cJ kU u.to v.to&&(cJ eZ u.old v.old&&cJ eZ u.new v.new)))=R
  have rr0 b' (h:(N&&(T&&(R&&(yx u.unit v.unit&&cJ EV u.by_ v.by_))))=b':=by(subst hz5;subst hz6;subst hz7;clear hN hT hR;simp only[aS,aw,bS, *];first|done|rfl)):=h;exact bD Tryz.func139<|Mg 2<|Mj Bool [2,3,5] (TP u v N) (TR u v N) (fun c=>Kb 5 (al u.kind v.kind) (fun d=>Kt 0 d<|Kt 0 d<|Kt 0 d<|Kt 0 d<|Ku 0 d<|Kb 0 (al u.where_ v.where_) (fun d=>Kt 0 d<|Kt 0 d<|Kt 0 d<|Kt 0 d<|Ku 0 d<|Kb 0 (al u.nth_ v.nth_) (fun d=>Kt 0 d<|Kt 0 d<|Kt 0 d<|Kt 0 d<|Ku 0 d<|Kb 0 (al u.act v.act) (fun d=>Kt 0 d<|Kt 0 d<|Kt 0 d<|Kt 0 d<|Ku 0 d<|Kb 0 (al u.item v.item) (fun d=>Kt 0 d<|Kt 0 d<|Kt 0 d<|Kt 0 d<|Ku 0 d<|Kf 0<|c (al u.day v.day) (by(rw[←hN];simp only[bV,aS,aw,bS, *];first|done|rfl):al u.day v.day=N)) fun d=>Mh d<|Mh d<|Mh d<|Mh d<|My d<|Kf 0<|c false (by(rw[←hN];simp only[bV,aS,aw,bS, *];first|done|rfl):false=N)) fun d=>Mh d<|Mh d<|Mh d<|Mh d<|My d<|Kf 2<|c false (by(rw[←hN];simp only[bV,aS,aw,bS, *];first|done|rfl):false=N)) fun d=>Mh d<|Mh d<|Mh d<|Mh d<|My d<|Kf 4<|c false (by(rw[←hN];simp only[bV,aS,aw,bS, *];first|done|rfl):false=N)) fun d=>Mh d<|Mh d<|Mh d<|Mh d<|My d<|Kf 6<|c false (by(rw[←hN];simp only[bV,aS,aw,bS, *];first|done|rfl):false=N)) fun d=>Mh d<|Mh d<|Mh d<|Mh d<|My d<|Kf 8<|c false (by(rw[←hN];simp only[bV,aS,aw,bS, *];first|done|rfl):false=N)) fun c hz5=>have hz5:=hz5;Mj Bool [2,3,5,6] (TN u v T c) (TO u v T c) (fun c=>Kb 5 (eZ u.label v.label) (fun d=>Kt 0 d<|Kt 0 d<|Kt 0 d<|Kt 0 d<|Ku 0 d<|Kb 0 (eZ u.for_ v.for_) (fun d=>Kt 0 d<|Kt 0 d<|Kt 0 d<|Kt 0 d<|Ku 0 d<|Kb 0 (eZ u.event v.event) (fun d=>Kt 0 d<|Kt 0 d<|Kt 0 d<|Kt 0 d<|Mv (Ep (d:=(Tryz.prog).underlying 59) (n:=3) (l:=(0,1)::(1,1)::(2,2)::[]) (xs:=[iV u.start.kind,iV u.start.day,aV u.start.event]) (ys:=[iV v.start.kind,iV v.start.day,aV v.start.event]) (H:=ab [aX 25 false 0 [aj [iV u.kind,aW<|u.at_.map ak,aW<|u.to.map ak,iV u.where_,iV u.nth_,iV u.unit.act,iV u.unit.item,iV u.unit.n,iV u.unit.kind,aV u.unit.label,aW<|u.unit.head.map aQ,aW<|u.unit.words.map aQ,aW<|u.unit.kids.map aY,aW<|u.old.map mT,aW<|u.new.map mT,aV u.label,aV u.for_,iV u.start.kind,iV u.start.day,aV u.start.event,iV u.act,iV u.item,iV u.day,aV u.event,aW<|u.by_.map Np]],aX 25 false 0 [aj [iV v.kind,aW<|v.at_.map ak,aW<|v.to.map ak,iV v.where_,iV v.nth_,iV v.unit.act,iV v.unit.item,iV v.unit.n,iV v.unit.kind,aV v.unit.label,aW<|v.unit.head.map aQ,aW<|v.unit.words.map aQ,aW<|v.unit.kids.map aY,aW<|v.old.map mT,aW<|v.new.map mT,aV v.label,aV v.for_,iV v.start.kind,iV v.start.day,aV v.start.event,iV v.act,iV v.item,iV v.day,aV v.event,aW<|v.by_.map Np]]]) rfl<|mO (e:=al u.start.kind v.start.kind) rfl rfl rfl<|mO (e:=al u.start.day v.start.day) rfl rfl rfl<|Ae (e:=eZ u.start.event v.start.event) rfl rfl rfl rfl)<|MV d<|Kf 0<|c (al u.start.kind v.start.kind&&(al u.start.day v.start.day&&eZ u.start.event v.start.event)) (by(rw[←hT];simp only[bV,aS,aw,bS, *];first|done|rfl):(al u.start.kind v.start.kind&&(al u.start.day v.start.day&&eZ u.start.event v.start.event))=T)) fun d=>Mh d<|Mh d<|Mh d<|Mh d<|My d<|Kf 0<|c false (by(rw[←hT];simp only[bV,aS,aw,bS, *];first|done|rfl):false=T)) fun d=>Mh d<|Mh d<|Mh d<|Mh d<|My d<|Kf 2<|c false (by(rw[←hT];simp only[bV,aS,aw,bS, *];first|done|rfl):false=T)) fun d=>Mh d<|Mh d<|Mh d<|Mh d<|My d<|Kf 4<|c false (by(rw[←hT];simp only[bV,aS,aw,bS, *];first|done|rfl):false=T)) fun d hz6=>have hz6:=hz6;Mj Bool [2,3,5,6,7] (Qg u v R c d) (Qh u v R c d) (fun c=>Kp 3 h1<|Kb 0 (cJ kU u.at_ v.at_) (fun d=>Kt 0 d<|Kt 0 d<|Kt 0 d<|Kt 0 d<|Mp h2<|MV d<|Kb 0 (cJ kU u.to v.to) (fun d=>Kt 0 d<|Kt 0 d<|Kt 0 d<|Kt 0 d<|Mp h3<|MV d<|Kb 0 (cJ eZ u.old v.old) (fun d=>Kt 0 d<|Kt 0 d<|Kt 0 d<|Kt 0 d<|Mp h4<|MV d<|Kf 0<|c (cJ eZ u.new v.new) (by(rw[←hR];simp only[bV,aS,aw,bS, *];first|done|rfl):cJ eZ u.new v.new=R)) fun d=>Mh d<|Mh d<|Mh d<|Mh d<|My d<|Kf 0<|c false (by(rw[←hR];simp only[bV,aS,aw,bS, *];first|done|rfl):false=R)) fun d=>Mh d<|Mh d<|Mh d<|Mh d<|My d<|Kf 2<|c false (by(rw[←hR];simp only[bV,aS,aw,bS, *];first|done|rfl):false=R)) fun d=>Mh d<|Mh d<|Mh d<|Mh d<|My d<|Kf 4<|c false (by(rw[←hR];simp only[bV,aS,aw,bS, *];first|done|rfl):false=R)) fun e hz7=>have hz7:=hz7;Kb 1 c (fun c=>Ku 0 c<|Kb 0 d (fun c=>Ku 0 c<|Kb 0 e (fun c=>Kt 0 c<|Kt 0 c<|Kt 0 c<|Kt 0 c<|Mp h5<|MV c<|Kb 0 (yx u.unit v.unit) (fun c=>Kt 0 c<|Kt 0 c<|Kt 0 c<|Kt 0 c<|Mp hk<|MV c<|Kf 0<|cn<|rr0<|cJ EV u.by_ v.by_) fun c=>Mh c<|Mh c<|Mh c<|Mh c<|My c<|Ky 0<|rr0 false) fun c=>Mh c<|Mh c<|Mh c<|Mh c<|My c<|Ky 2<|rr0 false) fun c=>My c<|Ky 4<|rr0 false) fun c=>My c<|Ky 6<|rr0 false
theorem NR(a b:Int)(s:aP)(n:Bool)(hn:kP 137 [.str s] (.bool n)):kP 138 [.agg [iV a,iV b,.str s]] (.bool (rm n ⟨a,b,s⟩)):=by
  have rr0 b' (h:(rm n (PStart.mk a b s))=b':=by(simp only[rm,aS,aw,bS, *];first|done|rfl)):=h;exact bD Tryz.func138<|Kb 5 (al a 0) (fun c=>Mt c<|Kb 3 (al b 0) (fun c=>Kt 0 c<|Kt 0 c<|Ku 0 c<|Kf 0<|cn<|rr0<|eZ s (ByteArray.mk #[]).data.toList) fun c=>Mh c<|Mh c<|My c<|Ky 0<|rr0 false) fun _=>Kb 1 (al a 2) (fun _=>Kb 3 (al b 0) (fun c=>Kt 0 c<|Kt 0 c<|Ku 0 c<|Kf 0<|cn<|rr0<|eZ s (ByteArray.mk #[]).data.toList) fun c=>Mh c<|Mh c<|My c<|Ky 0<|rr0 false) fun _=>Kb 1 (al a 1) (fun _=>Kp 1 (vK b 0 1048576)<|Kb 0 (aw (aF b 0)&&aw (aF 1048576 b)) (fun c=>Kt 0 c<|Kt 0 c<|Ku 0 c<|Kf 0<|cn<|rr0<|eZ s (ByteArray.mk #[]).data.toList) fun c=>Mh c<|Mh c<|My c<|Ky 0<|rr0 false) fun _=>Kb 1 (al a 3) (fun _=>Kb 3 (al b 0) (fun c=>Kt 0 c<|Kt 0 c<|Mp hn<|MV c<|Ky 0<|rr0 n) fun c=>Mh c<|Mh c<|My c<|Ky 0<|rr0 false) fun _=>Ky 0<|rr0 false
theorem Oh(n:Int):kP 176 [iV n] (.bool (aw (aF n 0)&&aw (aF 3 n))):=by
  exact bD Tryz.func176<|Kp 1 (vK n 0 3)<|Kf 0<|bZ<|dJ<|aw (aF n 0)&&aw (aF 3 n)
theorem SB(l:List aP)(n:Int)(hl:l.length<2^40)(hs:∀s,s∈l→s.length≤2^39):kP 182 [.ls (l.map mT),iV n] (.bool (qj l&&aw (aF (.ofNat l.length) n))):=by
  have h:=KX l hl hs
  have rr0 b' (h:(qj l&&aw (aF (Int.ofNat l.length) n))=b':=by(simp only[aS,aw,bS, *];first|done|rfl)):=h;exact bD Tryz.func182<|Kp 1 h<|Kb 0 (qj l) (fun a=>Kt 0 a<|Kl 0 9 (ln mT l)<|Mt a<|Kt 0 a<|Ku 0 a<|Kf 0<|cn<|rr0<|aw<|aF (Int.ofNat l.length) n) fun a=>Mh a<|Mh a<|Mh a<|My a<|Ky 0<|rr0 false
theorem WV(x:PItem):kP 183 [eI x] (.bool (aw (aF x.nth_ 0)&&aw (aF 256 x.nth_))):=by
  exact bD Tryz.func183<|Kp 3 (vK x.nth_ 0 256)<|Kf 0<|bZ<|dJ<|aw (aF x.nth_ 0)&&aw (aF 256 x.nth_)
theorem Sn(s:aP)(hs:s.length≤2^39):kP 200 [.str s,.str [97,98,99,100,101,102,103,104,105,106,107,108,109,110,111,112,113,114,115,116,117,118,119,120,121,122,48,49,50,51,52,53,54,55,56,57,45]] (.str (Lib.trimS s [97,98,99,100,101,102,103,104,105,106,107,108,109,110,111,112,113,114,115,116,117,118,119,120,121,122,48,49,50,51,52,53,54,55,56,57,45])):=LN (Go.Proofs.enters_of Tryz.func200 (by kernel_rfl) rfl) (fun a b c d e f=>Go.Proofs.Any.strings_Trim_laid Go.Proofs.Tryz.ltrim (by kernel_rfl) a b c d e f) s _ oA (by decide)<|by decide
theorem Cu(s:aP)(hs:s.length≤2^39):kP 137 [.str s] (.bool (DD s)):=by
  have h:=Sn s hs
  have rr0 b' (h:(DD s)=b':=by(simp only[DD,aS,aw,bS, *];first|done|rfl)):=h;exact bD Tryz.func137<|Ka 4 (Int.ofNat<|List.length s) 1 (fun a _=>Mt a<|Mt a<|MV a<|Ky 5<|rr0 false) fun a _=>Kh 0 a<|Kh 0 a<|Kw 0 a<|Ka 0 16 (Int.ofNat<|List.length s) (fun a _=>Mt a<|Mt a<|MV a<|Ky 3<|rr0 false) fun a _=>Kh 0 a<|M1 (.chr<|gD s 0) (zc (gR:0<(s).length))<|Mh a<|Kw 0 a<|Ka 0 (Int.ofNat (gD s 0).toNat) 97 (fun a _=>Mt a<|Mt a<|MV a<|Ky 1<|rr0 false) fun a _=>Kh 0 a<|M1 (.chr<|gD s 0) (zc (gR:0<(s).length))<|Mh a<|Kw 0 a<|Mb (aF 122<|Int.ofNat (gD s 0).toNat) (fun a=>have:=aA a;Ky 0<|rr0 false) fun a=>have:=aG a;Kp 0 h<|Kf 1<|cn<|rr0<|eZ (Lib.trimS s<|have a:=have a:=have a:=[54,55,56,57,45];49::50::51::52::53::a;have a:=119::120::121::122::48::a;115::116::117::118::a;have a:=have a:=110::111::112::113::114::a;106::107::108::109::a;have a:=101::102::103::104::105::a;97::98::99::100::a) (ByteArray.mk #[]).data.toList
noncomputable def qY(x:PWord):Bool:=aw (aF 100 (.ofNat x.text.length))
noncomputable def mp(ws:List PWord):Bool:=ws.all qY&&aw (aF 300 (.ofNat ws.length))
theorem GK(x:Int):kP 80 [iV x] (.bool false):=by
  have rr0 b' (h:(false)=b':=by simp[bV]):=h;exact wk Tryz.func80 (.go 4 .fin)<|cn<|rr0<|aw<|al x x
theorem pa(x y:Int):kP 66 [iV x,iV y] (iV (jP x y)):=by
  have rr0 b' (h:(jP x y)=b':=by simp[jP, *]):=h;exact bD Tryz.func66<|Kp 1 (GK x)<|Kp 1 (GK y)<|Kb 7 (aF x y) (fun _=>Kf 0<|li<|rr0 (-1)) fun _=>Kb 2 (aF y x) (fun _=>Kf 0<|li<|rr0 1) fun _=>Kf 0<|li<|rr0 0
theorem Fk(ws:List PWord)(hl:ws.length<2^60):kP 141 [.ls (ws.map aQ)] (.bool (mp ws)):=by
  have rr0 b' (h:(mp ws)=b':=by simp only[mp,qY,aS,aw,bS, *]):=h;exact bD Tryz.func141<|Mg 1<|tJ aQ ws [0,3] (fun a _=>([aW<|ws.map aQ,nV a],[])) (fun a=>ws.all qY=a.all qY) (by rfl) (fun _ _ _ _ _ a _=>Kl 2 6 (ln aQ ws)<|Kh 0 a<|Kl 1 18 (ln aQ ws)<|Kf 1<|cn<|rr0<|aw<|aF 300<|Int.ofNat ws.length) fun a _ _ _ b c d _ e _ f _=>Kl 2 6 (ln aQ ws)<|Kt 0 e<|Kx 1 f<|Ka 3 100 (Int.ofNat<|List.length b.text) (fun _ _=>Ky 0<|rr0 false) fun _ _=>Kl 1 9 (dU a)<|Kf 0<|d<|by simp_all[qY]
mutual
noncomputable def ko:TUnit→Bool
  |⟨_,_,_,_,label,h,w,kids⟩=>aw (aF 30 (.ofNat label.length))&&mp h&&mp w&&ym kids
noncomputable def ym:List TUnit→Bool
  |[]=>true
  |u::r=>ko u&&ym r
end
theorem BS:∀(l:List TUnit),ym l=l.all ko
  |[]=>by rw[ym];rfl
  |u::r=>by rw[ym,BS r];rfl
theorem BT(u:TUnit):ko u=(aw (aF 30 (.ofNat u.label.length))&&mp u.head&&mp u.words&&u.kids.all ko):=by
  obtain⟨a,b,c,d,e,f,g,h⟩:=u
  rw[ko,BS];rfl
theorem Ow:∀(u:TUnit),pY u→kP 109 [eU u] (.bool (ko u)):=by
  refine TUnit.ind fun u ih hf=>?_
  obtain⟨f1,f2,f3,f4⟩:=lq.1 hf
  have rr0 b' (h:(ko u)=b':=by rw[BT];simp only[aS,aw,bS, *]):=h;exact bD Tryz.func109<|Ka 6 30 (Int.ofNat<|List.length u.label) (fun a _=>Mt a<|Mt a<|Mt a<|MV a<|Ky 3<|rr0 false) fun a _=>Kh 0 a<|Kh 0 a<|Mp (Fk u.head f1)<|Mh a<|Kw 0 a<|Kn 0 (mp u.head) (fun a=>Mt (bF a)<|Mt (bF a)<|Mt (bF a)<|MV (bF a)<|Ky 1<|rr0 false) fun a=>Kh 0 (bB a)<|Kh 0 (bB a)<|Mp (Fk u.words f2)<|Mh (bB a)<|Kw 0 (bB a)<|Mn (mp u.words) (fun _=>Ky 0<|rr0 false) fun _=>K1 0 (.frz 0 [1,3]) ti<|tJ aY u.kids [1,3] (fun a _=>([AV.pptr [aj [iV u.act,iV u.item,iV u.n,iV u.kind,aV u.label,aW<|u.head.map aQ,aW<|u.words.map aQ,aW<|u.kids.map aY]] 0 0,nV a],[])) (fun a=>u.kids.all ko=a.all ko) (by rfl) (fun _ _ _ _ _ a _=>Kl 3 23 (ln aY u.kids)<|Kh 0 a<|Ky 0<|rr0 true) fun a _ b _ c d e f g _ i _=>have i:=i.trans<|congrArg some<|aO c;Kl 3 23 (ln aY u.kids)<|Kt 0 g<|Kx 2 i<|Kp 0 (ih c (by exact bQ b f)<|by exact f4 _ (bQ b f))<|Kn 0 (ko c) (fun _=>Kf 0<|cn<|rr0 false) fun _=>Kl 1 26 (dU a)<|Kf 0<|e sA
mutual
noncomputable def mn:TUnit→Int→Int→Int
  |⟨_,_,_,_,_,_,_,kids⟩,deep,most=>match aF 20 deep with|true=>most+1|false=>mo kids deep most 1
noncomputable def mo:List TUnit→Int→Int→Int→Int
  |[],_,_,n=>n
  |k::r,deep,most,n=>match aF most n with|true=>n|false=>mo r deep most (n+mn k (deep+1) (most-n))
end
theorem O7(u:TUnit)(deep most:Int):mn u deep most=match aF 20 deep with|true=>most+1|false=>mo u.kids deep most 1:=by
  obtain⟨a,b,c,d,e,f,g,h⟩:=u;rw[mn];rfl
mutual
theorem Fx:∀(u:TUnit)(deep most:Int),0≤most→1≤mn u deep most∧mn u deep most≤most+1
  | ⟨_,_,_,_,_,_,_,kids⟩,deep,most,h=>by
    rw[mn]
    split
    · omega
    · exact Fj kids deep most 1 (by omega) (by omega)
theorem Fj:∀(l:List TUnit)(deep most n:Int),1≤n→n≤most+1→1≤mo l deep most n∧mo l deep most n≤most+1
  |[],_,_,n,h1,h2=>by grind[mo]
  | k::r,deep,most,n,h1,h2=>by
    rw[mo]
    split
    · omega
    · rename_i h
      have:=aG h
      have:=Fx k (deep+1) (most-n) (by omega)
      exact Fj r deep most _ (by omega) (by omega)
end
theorem SE:∀(u:TUnit),pY u→∀(deep most:Int),0≤deep→deep≤21→0≤most→most≤2^20→kP 108 [eU u,iV deep,iV most] (iV (mn u deep most)):=by
  refine TUnit.ind fun u ih hf deep most d1 d2 m1 m2=>?_
  obtain⟨f1,f2,f3,f4⟩:=lq.1 hf
  have rr0 b' (h:(mn u deep most)=b':=by rw[O7];simp only[mo,aS,aw,bS, *]):=h;exact bD Tryz.func108<|Ka 3 20 deep (fun _ _=>Kl 1 12 (Le.wr (x:=most+1) fZ)<|Kf 0<|li<|rr0<|most+1) fun _ _=>K1 1 (.frz 0 [1,2,3,7,8]) ti<|OX aY u.kids (1:Int) [1,2,3,7,8] (fun a _ b=>([iV deep,iV most,AV.pptr [aj [iV u.act,iV u.item,iV u.n,iV u.kind,aV u.label,aW<|u.head.map aQ,aW<|u.words.map aQ,aW<|u.kids.map aY]] 0 0,iV b,nV a],[])) (fun a b=>(1:Int)≤b∧b≤most+(1:Int)∧mo u.kids deep most (1:Int)=mo a deep most b) oA (fun _ _ a _ _ _ b _=>Kl 3 16 (ln aY u.kids)<|Kh 1 b<|Mh b<|Mh b<|My b<|Kf 2<|li<|rr0 a) fun a _ b c _ d e f g i _ j _=>have j:=j.trans<|congrArg some<|aO d;Kl 3 16 (ln aY u.kids)<|Kt 1 i<|Kt 0 i<|Kt 0 i<|Ku 0 i<|Mn (aF most b) (fun i=>have:=aG i;Kx 3 j<|Kl 2 32 (Le.wr (x:=deep+1) fZ)<|Kl 2 35 (Le.wr (x:=most-b) fZ)<|Mp (ih d (by exact bQ c g) (by exact f4 _ (bQ c g)) (deep+1) (most-b) oA oA oA oA)<|have:=Fx d (deep+1) (most-b) oA;Kl 0 37 (Le.wr (x:=b+mn d (deep+1) (most-b)) fZ)<|Kl 2 24 (dU a)<|Kf 0<|f (b+mn d (deep+1) (most-b))<|by(refine⟨by omega,by omega,?_⟩;first|rfl|grind[mo])) fun a=>have:=aA a;Kf 1<|li<|rr0 b
noncomputable def GL(u:TUnit)(most:Int):Bool:=aw (aF most (mn u 0 most))&&ko u
theorem UU(u:TUnit)(most:Int)(hf:pY u)(m1:0≤most)(m2:most≤2^20):kP 75 [eU u,iV most] (.bool (GL u most)):=by
  have rr0 b' (h:(GL u most)=b':=by simp only[GL,aS,aw,bS, *]):=h;exact bD Tryz.func75<|Kp 3 (SE u hf 0 most oA oA m1 m2)<|Kn 2 (aF most<|mn u 0 most) (fun a=>Kt 0 (bF a)<|Mp (Ow u hf)<|MV (bF a)<|Kf 0<|cn<|rr0<|ko u) fun a=>Mh (bB a)<|My (bB a)<|Ky 0<|rr0 false
noncomputable def xm(s:aP):Bool:=aw (aF 100 (.ofNat s.length))
noncomputable def xl(s:PStep):Bool:=aw (aF 100 (.ofNat s.label.length))
noncomputable def yq(x:PItem):Bool:=
  aw (aF 12 (.ofNat x.at_.length))&&aw (aF 12 (.ofNat x.to.length))&&aw (aF 300 (.ofNat x.old.length))&&aw (aF 300 (.ofNat x.new.length))&&aw (aF 100 (.ofNat x.label.length))&&aw (aF 100 (.ofNat x.for_.length))
  &&aw (aF 100 (.ofNat x.start.event.length))&&aw (aF 100 (.ofNat x.event.length))&&aw (aF 2 (.ofNat x.by_.length))&&GL x.unit 30
noncomputable def HV(y:PItem):Bool:=aF 0 (.ofNat y.by_.length)&&aF 0 (.ofNat (gD y.by_ 0).by_.length)
mutual
noncomputable def mN:PItem→Bool
  |⟨k,a,t,w,nn,u,o,n,lb,fo,st,ac,it,dy,ev,by_⟩=>yq ⟨k,a,t,w,nn,u,o,n,lb,fo,st,ac,it,dy,ev,by_⟩&&(o.all xm&&(n.all xm&&(a.all xl&&(t.all xl&&GN by_))))
noncomputable def GN:List PItem→Bool
  |[]=>true
  |u::r=>(aw (HV u)&&mN u)&&GN r
end
noncomputable def Hg(y:PItem):Bool:=aw (HV y)&&mN y
theorem GM:∀(l:List PItem),GN l=l.all Hg
  |[]=>by rw[GN];rfl
  |u::r=>by rw[GN,GM r];rfl
theorem EJ(x:PItem):mN x=(yq x&&(x.old.all xm&&(x.new.all xm&&(x.at_.all xl&&(x.to.all xl&&x.by_.all Hg))))):=by
  obtain⟨k,a,t,w,nn,u,o,n,lb,fo,st,ac,it,dy,ev,by_⟩:=x
  rw[mN,GM];rfl
theorem Uq:∀(x:PItem),nW x→kP 61 [eI x] (.bool (mN x)):=by
  refine PItem.ind fun x ih hf=>?_
  obtain⟨f1,f2,f3,f4,f5,f6,f7⟩:=qr.1 hf
  have hu:kP 75 [eU x.unit,iV 30] (.bool (GL x.unit 30)):=UU x.unit 30 f6 (by omega) (by omega)
  have rr0 b' (h:(mN x)=b':=by rw[EJ,yq];simp only[Hg,HV,xm,xl,aS,aw,bS, *]):=h;exact bD Tryz.func61<|Kl 4 10 (ln ak x.at_)<|Ka 1 12 (Int.ofNat x.at_.length) (fun a _=>Mt a<|Mt a<|Mt a<|MV a<|Ky 17<|rr0 false) fun a _=>Kh 0 a<|Kh 0 a<|Kl 0 15 (ln ak x.to)<|Mh a<|Kw 0 a<|Ka 0 12 (Int.ofNat x.to.length) (fun a _=>Mt a<|Mt a<|Mt a<|MV a<|Ky 15<|rr0 false) fun a _=>Kh 0 a<|Kh 0 a<|Kl 0 21 (ln mT x.old)<|Mh a<|Kw 0 a<|Ka 0 300 (Int.ofNat x.old.length) (fun a _=>Mt a<|Mt a<|Mt a<|MV a<|Ky 13<|rr0 false) fun a _=>Kh 0 a<|Kh 0 a<|Kl 0 27 (ln mT x.new)<|Mh a<|Kw 0 a<|Ka 0 300 (Int.ofNat x.new.length) (fun a _=>Mt a<|Mt a<|Mt a<|MV a<|Ky 11<|rr0 false) fun a _=>Kh 0 a<|Kh 0 a<|Kh 0 a<|Kw 0 a<|Ka 0 100 (Int.ofNat<|List.length x.label) (fun a _=>Mt a<|Mt a<|Mt a<|MV a<|Ky 9<|rr0 false) fun a _=>Kh 0 a<|Kh 0 a<|Kh 0 a<|Kw 0 a<|Ka 0 100 (Int.ofNat<|List.length x.for_) (fun a _=>Mt a<|Mt a<|Mt a<|Mt a<|MV a<|Ky 7<|rr0 false) fun a _=>Kh 0 a<|Kh 0 a<|Kh 0 a<|Kh 0 a<|Kw 0 a<|Ka 0 100 (Int.ofNat<|List.length x.start.event) (fun a _=>Mt a<|Mt a<|Mt a<|MV a<|Ky 5<|rr0 false) fun a _=>Kh 0 a<|Kh 0 a<|Kh 0 a<|Kw 0 a<|Ka 0 100 (Int.ofNat<|List.length x.event) (fun a _=>Mt a<|Mt a<|Mt a<|MV a<|Ky 3<|rr0 false) fun a _=>Kh 0 a<|Kh 0 a<|Kl 0 58 (ln Np x.by_)<|Mh a<|Kw 0 a<|Ka 0 2 (Int.ofNat x.by_.length) (fun a _=>Mt a<|Mt a<|Mt a<|MV a<|Ky 1<|rr0 false) fun a _=>Kh 0 a<|Kh 0 a<|Mp hu<|Mh a<|Kw 0 a<|Mn (GL x.unit 30) (fun _=>Ky 0<|rr0 false) fun _=>K1 0 (.frz 0 [1,3]) ti<|tJ mT x.old [1,3] (fun a _=>([AV.pptr [aj [iV x.kind,aW<|x.at_.map ak,aW<|x.to.map ak,iV x.where_,iV x.nth_,iV x.unit.act,iV x.unit.item,iV x.unit.n,iV x.unit.kind,aV x.unit.label,aW<|x.unit.head.map aQ,aW<|x.unit.words.map aQ,aW<|x.unit.kids.map aY,aW<|x.old.map mT,aW<|x.new.map mT,aV x.label,aV x.for_,iV x.start.kind,iV x.start.day,aV x.start.event,iV x.act,iV x.item,iV x.day,aV x.event,aW<|x.by_.map Np]] 0 0,nV a],[])) (fun a=>x.old.all xm=a.all xm) (by rfl) (fun _ _ _ _ _ a _=>Kl 3 70 (ln mT x.old)<|Kh 0 a<|Mg 0<|tJ mT x.new [1,4] (fun a _=>([AV.pptr [aj [iV x.kind,aW<|x.at_.map ak,aW<|x.to.map ak,iV x.where_,iV x.nth_,iV x.unit.act,iV x.unit.item,iV x.unit.n,iV x.unit.kind,aV x.unit.label,aW<|x.unit.head.map aQ,aW<|x.unit.words.map aQ,aW<|x.unit.kids.map aY,aW<|x.old.map mT,aW<|x.new.map mT,aV x.label,aV x.for_,iV x.start.kind,iV x.start.day,aV x.start.event,iV x.act,iV x.item,iV x.day,aV x.event,aW<|x.by_.map Np]] 0 0,nV a],[])) (fun a=>x.new.all xm=a.all xm) (by rfl) (fun _ _ _ _ _ a _=>Kl 3 84 (ln mT x.new)<|Kh 0 a<|Mg 0<|tJ ak x.at_ [1,5] (fun a _=>([AV.pptr [aj [iV x.kind,aW<|x.at_.map ak,aW<|x.to.map ak,iV x.where_,iV x.nth_,iV x.unit.act,iV x.unit.item,iV x.unit.n,iV x.unit.kind,aV x.unit.label,aW<|x.unit.head.map aQ,aW<|x.unit.words.map aQ,aW<|x.unit.kids.map aY,aW<|x.old.map mT,aW<|x.new.map mT,aV x.label,aV x.for_,iV x.start.kind,iV x.start.day,aV x.start.event,iV x.act,iV x.item,iV x.day,aV x.event,aW<|x.by_.map Np]] 0 0,nV a],[])) (fun a=>x.at_.all xl=a.all xl) (by rfl) (fun _ _ _ _ _ a _=>Kl 3 98 (ln ak x.at_)<|Kh 0 a<|Mg 0<|tJ ak x.to [1,6] (fun a _=>([AV.pptr [aj [iV x.kind,aW<|x.at_.map ak,aW<|x.to.map ak,iV x.where_,iV x.nth_,iV x.unit.act,iV x.unit.item,iV x.unit.n,iV x.unit.kind,aV x.unit.label,aW<|x.unit.head.map aQ,aW<|x.unit.words.map aQ,aW<|x.unit.kids.map aY,aW<|x.old.map mT,aW<|x.new.map mT,aV x.label,aV x.for_,iV x.start.kind,iV x.start.day,aV x.start.event,iV x.act,iV x.item,iV x.day,aV x.event,aW<|x.by_.map Np]] 0 0,nV a],[])) (fun a=>x.to.all xl=a.all xl) (by rfl) (fun _ _ _ _ _ a _=>Kl 3 113 (ln ak x.to)<|Kh 0 a<|Mg 0<|tJ Np x.by_ [1,7] (fun a _=>([AV.pptr [aj [iV x.kind,aW<|x.at_.map ak,aW<|x.to.map ak,iV x.where_,iV x.nth_,iV x.unit.act,iV x.unit.item,iV x.unit.n,iV x.unit.kind,aV x.unit.label,aW<|x.unit.head.map aQ,aW<|x.unit.words.map aQ,aW<|x.unit.kids.map aY,aW<|x.old.map mT,aW<|x.new.map mT,aV x.label,aV x.for_,iV x.start.kind,iV x.start.day,aV x.start.event,iV x.act,iV x.item,iV x.day,aV x.event,aW<|x.by_.map Np]] 0 0,nV a],[])) (fun a=>x.by_.all Hg=a.all Hg) (by rfl) (fun _ _ _ _ _ a _=>Kl 3 128 (ln Np x.by_)<|Kh 0 a<|Ky 0<|rr0 true) fun a _ b _ c d e f g _ i _=>have i:=i.trans<|congrArg some<|ej c;Kl 3 128 (ln Np x.by_)<|Kt 0 g<|Kx 2 i<|Kl 2 138 (ln Np c.by_)<|Ka 1 0 (Int.ofNat c.by_.length) (fun g _=>Kt 0 g<|Kt 0 g<|Kt 0 g<|Mx i<|Mt g<|Kt 0 g<|Kt 0 g<|Mx ((bK Np (sA:0<(c.by_).length)).trans<|congrArg some<|ej _)<|Mt g<|Kt 0 g<|Kt 0 g<|Kl 0 150 (ln Np (gD c.by_ 0).by_)<|Mt g<|Ku 0 g<|Ka 0 0 (Int.ofNat (gD c.by_ 0).by_.length) (fun a _=>Mt a<|Mt a<|Mt a<|Mt a<|Mt a<|Mt a<|MV a<|Ky 1<|rr0 false) fun g _=>Kh 0 g<|Kh 0 g<|Kh 0 g<|Mx i<|Mh g<|Kh 0 g<|Mp (ih c (by exact bQ b f)<|by exact f7 _ (bQ b f))<|Mh g<|Kw 0 g<|Mn (mN c) (fun _=>Kf 0<|cn<|rr0 false) fun _=>Kl 1 131 (dU a)<|Kf 0<|e<|by simp_all[Hg,HV]) fun g _=>Mh g<|Mh g<|Mh g<|Mh g<|Mh g<|Mh g<|Mh g<|Mh g<|Mh g<|Mh g<|My g<|Kx 3 i<|Kp 0 (ih c (by exact bQ b f)<|by exact f7 _ (bQ b f))<|Kn 1 (mN c) (fun _=>Kf 0<|cn<|rr0 false) fun _=>Kl 1 131 (dU a)<|Kf 0<|e<|by simp_all[Hg,HV]) fun a _ _ _ b c d _ e _ f _=>Kl 3 113 (ln ak x.to)<|Kt 0 e<|Kx 2 f<|Ka 3 100 (Int.ofNat<|List.length b.label) (fun _ _=>Ky 0<|rr0 false) fun _ _=>Kl 1 116 (dU a)<|Kf 0<|d<|by simp_all[xl]) fun a _ _ _ b c d _ e _ f _=>Kl 3 98 (ln ak x.at_)<|Kt 0 e<|Kx 2 f<|Ka 3 100 (Int.ofNat<|List.length b.label) (fun _ _=>Ky 0<|rr0 false) fun _ _=>Kl 1 101 (dU a)<|Kf 0<|d<|by simp_all[xl]) fun a _ _ _ b c d _ e _ f _=>Kl 3 84 (ln mT x.new)<|Kt 0 e<|Kx 2 f<|Ka 2 100 (Int.ofNat<|List.length b) (fun _ _=>Ky 0<|rr0 false) fun _ _=>Kl 1 87 (dU a)<|Kf 0<|d<|by simp_all[xm]) fun a _ _ _ b c d _ e _ f _=>Kl 3 70 (ln mT x.old)<|Kt 0 e<|Kx 2 f<|Ka 2 100 (Int.ofNat<|List.length b) (fun _ _=>Ky 0<|rr0 false) fun _ _=>Kl 1 73 (dU a)<|Kf 0<|d<|by simp_all[xm]
end Go.Proofs.YtaepacpodblomaaGreatDoor
