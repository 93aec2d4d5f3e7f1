/- Functions walked: what each of them answers, for A day is among the changed days of a gazette exactly if the book differs before and after it, and revisions and retroactive days are consistent: part 1. Conditions: those that each theorem names. -/
import Derived.Test.YtaepacpodblomaaGreatDoorCmb
import Derived.Test.YtaepacpodblomaaGreatDoorLay
import Derived.Test.YtaepacpodblomaaGreatDoorLay2
namespace Go.Proofs.YtaepacpodblomaaGreatDoor
open Go Go.Ev
noncomputable abbrev aW:=@AV.ls
noncomputable abbrev bq:=@AV.func
noncomputable abbrev bU:=@Fn.func
noncomputable abbrev ch:=@Le.bool
noncomputable abbrev eS:=@Le.ps
noncomputable abbrev jW:=@AV.ps
noncomputable abbrev bd:=@Le.refl
noncomputable abbrev dF:=@AV.bool
noncomputable abbrev eD:=@Le.tuple
noncomputable abbrev eV:=@AV.tuple
noncomputable abbrev aK:=@AV.str
noncomputable abbrev af:=@AV.nils
noncomputable abbrev az:=@AV.agg
noncomputable abbrev aZ:=@AObj.row
noncomputable abbrev fx:=@SB
noncomputable abbrev bY:=@AV.ptr
noncomputable abbrev aI:=@AV.slice
noncomputable abbrev bI:=@Le.nils
noncomputable abbrev aaD:=@ARes.val
theorem ifB(l:aO)(g:Nat)(p:UInt8→Bool)(hp:∀s,s∈l→kP g [.int .u8 (.ofNat s.toNat)] (.bool (p s)))(hl:l.length<2^40):kP 306 [.ls (l.map ng),.func (.func g) [] []] (iV (dt p l 0)):=by
  have rr0 b' (h:(dt p l 0)=b':=by first|exact mV zd0 hr0 hj0 ‹_› |exact hj0):=h;exact bC Tryz.func306<|Kl 2 7 (ln ng l)<|Mg 0<|tK ng l [0,1,7,8] (fun a _=>([aW<|l.map ng,bq (bU g) [] [],nV<|List.length l,nV a],[])) (fun a=>dt p l (0:Nat)=dt p a (List.length l-a.length)) sA (fun _ _ zd0 _ hr0 a hj0=>Kh 0 a<|Kf 0<|li<|rr0 (-1)) fun a _ zd0 _ b c d hr0 e _ f hj0=>Kt 0 e<|Kx 4 f<|Kp 0 (hp b<|by exact bQ zd0 hr0)<|Mb (p b) (fun _=>Kf 1<|li<|rr0<|Int.ofNat a) fun _=>Kl 0 18 (dW a)<|Kf 0<|d<|by exact kW zd0 hr0 hj0 (by omega)
theorem cfB(l:aO)(g:Nat)(p:UInt8→Bool)(hp:∀s,s∈l→kP g [.int .u8 (.ofNat s.toNat)] (.bool (p s)))(hl:l.length<2^40):kP 294 [.ls (l.map ng),.func (.func g) [] []] (.bool (l.any p)):=by
  have h:=ifB l g p hp hl
  have rr0 b' (h:(List.any l p)=b':=by(rw[lV];simp only[aS,aw,bS,rO])):=h;exact bC Tryz.func294<|Kp 2 h<|Kf 1<|ch<|rr0<|aw<|au (dt p l 0) 0
theorem OM(c:UInt8):kP 293 [.int .u8 (.ofNat c.toNat)] (.bool (aw (QH 33 126 c))):=by
  have rr0 b' (h:(aw (QH 33 126 c))=b':=by(simp only[QH,aS,aw,bS,rO, *])):=h;exact bC Tryz.func293<|Kb 3 (au (Int.ofNat c.toNat) 33) (fun a=>Mt a<|MV a<|Ky 0<|rr0 true) fun a=>Kh 0 a<|Kw 0 a<|Kf 0<|ch<|rr0<|au 126<|Int.ofNat c.toNat
theorem SL(s:aO)(hs:s.length≤2^39):kP 266 [.str s] (.bool (rS s)):=by
  have h:=cfB s 293 _ (fun c _=>OM c) (by omega)
  have rr0 b' (h:(rS s)=b':=by first|(simp only[rS,aS,aw,bS, *];done)|(rw[rS,Rn,List.all_eq_not_any_not];simp only[EU,aS,aw,bS, *]at *)):=h;let q:=List.map ng s;exact bC Tryz.func266<|Kn 4 (dS s (ByteArray.mk #[]).data.toList) (fun a=>Kt 0 (bO a)<|Kt 0 (bO a)<|Ku 0 (bO a)<|Kn 0 (au 24<|Int.ofNat<|List.length s) (fun a=>Kt 0 (bO a)<|Mv (U3 (s:=s) (H:=ab []) (oA:(s).length≤2^40))<|Mt (bO a)<|Kt 0 (bO a)<|Mp (aA.onArgs (.cons (eS q _<|aX VP s)<|lc .nil) h:kP 294 [jW q false,bq (bU 293) [] []] _)<|Mt (bO a)<|Ku 0 (bO a)<|Kf 0<|ch<|rr0<|aw<|List.any s fun a=>aw<|QH 33 126 a) fun a=>Mh (bN a)<|Mh (bN a)<|Mh (bN a)<|Mh (bN a)<|My (bN a)<|Ky 0<|rr0 false) fun a=>Mh (bN a)<|Mh (bN a)<|My (bN a)<|Ky 2<|rr0 false
theorem ifS(l:List aO)(g:Nat)(p:aO→Bool)(hp:∀s,s∈l→kP g [.str s] (.bool (p s)))(hl:l.length<2^40):kP 292 [.ls (l.map mS),.func (.func g) [] []] (iV (dt p l 0)):=by
  have rr0 b' (h:(dt p l 0)=b':=by first|exact mV zd0 hr0 hj0 ‹_› |exact hj0):=h;exact bC Tryz.func292<|Kl 2 7 (ln mS l)<|Mg 0<|tK mS l [0,1,7,8] (fun a _=>([aW<|l.map mS,bq (bU g) [] [],nV l.length,nV a],[])) (fun a=>dt p l (0:Nat)=dt p a (l.length-a.length)) sA (fun _ _ zd0 _ hr0 a hj0=>Kh 0 a<|Kf 0<|li<|rr0 (-1)) fun a _ zd0 _ b c d hr0 e _ f hj0=>Kt 0 e<|Kx 4 f<|Kp 0 (hp b<|by exact bQ zd0 hr0)<|Mb (p b) (fun _=>Kf 1<|li<|rr0<|Int.ofNat a) fun _=>Kl 0 18 (dW a)<|Kf 0<|d<|by exact kW zd0 hr0 hj0 (by omega)
theorem cfS(l:List aO)(g:Nat)(p:aO→Bool)(hp:∀s,s∈l→kP g [.str s] (.bool (p s)))(hl:l.length<2^40):kP 264 [.ls (l.map mS),.func (.func g) [] []] (.bool (l.any p)):=by
  have h:=ifS l g p hp hl
  have rr0 b' (h:(l.any p)=b':=by(rw[lV];simp only[aS,aw,bS,rO])):=h;exact bC Tryz.func264<|Kp 2 h<|Kf 1<|ch<|rr0<|aw<|au (dt p l 0) 0
theorem MB(s:aO)(hs:s.length≤2^39):kP 265 [.str s] (.bool (aw (rS s))):=by
  exact bC Tryz.func265<|Kp 1 (SL s hs)<|Kf 1<|bd<|dF<|aw<|rS s
theorem KP(l:List aO)(hl:l.length<2^40)(hs:∀s,s∈l→s.length≤2^39):kP 236 [.ls (l.map mS)] (.bool (qk l)):=by
  have h:=cfS l 265 _ (fun s m=>MB s (hs s m)) hl
  have rr0 b' (h:(qk l)=b':=by first|(simp only[qk,aS,aw,bS, *];done)|(rw[qk,List.all_eq_not_any_not];simp only[aS,aw,bS, *])):=h;exact bC Tryz.func236<|Kl 2 4 (ln mS l)<|Kn 1 (au 256<|Int.ofNat l.length) (fun a=>Kt 0 (bO a)<|Mp h<|Mt (bO a)<|Ku 0 (bO a)<|Kf 0<|ch<|rr0<|aw<|l.any fun a=>aw<|rS a) fun a=>Mh (bN a)<|Mh (bN a)<|My (bN a)<|Ky 0<|rr0 false
theorem PI(r:Int):kP 268 [.int .i32 r] (.bool (au r 48||au 57 r)):=by
  have rr0 b' (h:(au r 48||au 57 r)=b':=by(simp only[aS,aw,bS, *])):=h;exact bC Tryz.func268<|Kb 3 (au r 48) (fun a=>Mt a<|MV a<|Ky 0<|rr0 true) fun a=>Kh 0 a<|Kw 0 a<|Kf 0<|ch<|rr0<|au 57 r
theorem TA(r:Int):kP 238 [.int .i32 r] (.bool (au r 65||au 90 r)):=by
  have rr0 b' (h:(au r 65||au 90 r)=b':=by(simp only[aS,aw,bS, *])):=h;exact bC Tryz.func238<|Kb 3 (au r 65) (fun a=>Mt a<|MV a<|Ky 0<|rr0 true) fun a=>Kh 0 a<|Kw 0 a<|Kf 0<|ch<|rr0<|au 90 r
theorem H5(s:PStep):kP 199 [aj s] (.bool (al s.kind 0&&dS s.label [])):=by
  have rr0 b' (h:(al s.kind 0&&dS s.label [])=b':=by(simp only[aS,aw,bS, *];first|done|rfl)):=h;exact bC Tryz.func199<|Kb 5 (al s.kind 0) (fun a=>Kt 0 a<|Kt 0 a<|Ku 0 a<|Kf 0<|ch<|rr0<|dS s.label (ByteArray.mk #[]).data.toList) fun a=>Mh a<|Mh a<|My a<|Ky 0<|rr0 false
theorem vz(n a b:Int):kP 195 [iV n,iV a,iV b] (.bool (aw (au n a)&&aw (au b n))):=by
  have rr0 b' (h:(aw (au n a)&&aw (au b n))=b':=by(simp only[aS,aw,bS, *])):=h;exact bC Tryz.func195<|Kn 4 (au n a) (fun c=>Kt 0 (bO c)<|Kt 0 (bO c)<|Ku 0 (bO c)<|Kf 0<|ch<|rr0<|aw<|au b n) fun c=>Mh (bN c)<|Mh (bN c)<|My (bN c)<|Ky 0<|rr0 false
theorem QN(s:aO):kP 267 [.str s,.func (.func 268) [] []] (iV (bif Nat.beq (eY kq s) s.length then -1 else Int.ofNat (eY kq s))):=
  Aj fV (Go.Proofs.enters_of Go.Proofs.Tryz.lidxf.f15 (by kernel_rfl) rfl) (Go.Proofs.enters_of Tryz.func268 (by kernel_rfl) rfl)
    (fun s w hp=>Go.Proofs.Any.strings_IndexFunc_grows Go.Proofs.Tryz.lidxf 268 #[] (Go.Proofs.enters_of Tryz.func268 (by kernel_rfl) rfl) _ s w hp) PI (fun _=>rfl) (HA (lo:=48) (hi:=57) (by omega)) s
theorem QO(s:aO)(h:By (Nat.beq (eY kq s) s.length) true):kP 267 [.str s,.func (.func 268) [] []] (iV (-1)):=by
  have:=QN s
  simp_all
theorem Uy(s:aO)(h:By (Nat.beq (eY kq s) s.length) false):kP 267 [.str s,.func (.func 268) [] []] (nV (eY kq s)):=by
  have:=QN s
  grind
theorem aal(s:aO):kP 239 [.str s,.func (.func 238) [] []] (.bool (aw (s.all Xo))):=
  uH fV (Go.Proofs.enters_of Go.Proofs.Tryz.lconf.f17 (by kernel_rfl) rfl) (Go.Proofs.enters_of Tryz.func238 (by kernel_rfl) rfl)
    (fun s w hp=>Go.Proofs.Any.strings_ContainsFunc_grows Go.Proofs.Tryz.lconf 238 #[] (Go.Proofs.enters_of Tryz.func238 (by kernel_rfl) rfl) _ s w hp) TA (fun _=>rfl) (HA (lo:=65) (hi:=90) (by omega)) s
theorem Nz(s:aO)(hs:s.length≤2^39):kP 237 [.str s] (.tuple [.str (s.take (eY kq s)),.str (s.drop (eY kq s))]):=by
  have hl:=KE (p:=kq) (s:=s)
  have rr0 b' (h:(s.take (eY kq s))=b':=by(rw[pc h0];simp)):=h;have rr1 b' (h:(s.drop (eY kq s))=b':=by(rw[pc h0];simp)):=h;let q:=AHeap.mk 1000000 Tr.nil;exact bC Tryz.func237<|Ks 2 ((eY kq s).beq<|List.length s) (fun h0=>Mp (QO s h0)<|Kf 6<|eD<|.cons (Le.str<|rr0 s)<|.cons (Le.str<|rr1 []) .nil) fun h0=>Mp (Uy s h0)<|Kv 5 (WV (s:=s) (n:=eY kq s) (k:=IntKind.i64) (H:=q) oA)<|Kv 1 (WK (s:=s) (l:=eY kq s) (k:=IntKind.i64) (H:=q) oA)<|Kf 1<|bd<|eV [aK<|s.take<|eY kq s,aK<|s.drop<|eY kq s]
theorem uq(s:aO)(hs:s.length≤2^39):kP 190 [.str s] (.bool (kZ s)):=by
  have hd:(s.drop (eY kq s)).length≤2^39:=by grind
  have rr0 b' (h:(kZ s)=b':=by first|(simp only[kZ,aS,aw,bS,rO, *];done)|(simp only[kZ,aS,aw,bS,rO, *];rfl)|(unfold kZ;simp only[h0,h1,h2];rfl)):=h;exact bC Tryz.func190<|Kp 1 (Nz s hs)<|Kd 9 (Int.ofNat (s.take<|eY kq s).length) 1 (fun h0 _=>Kt 0 (bO h0)<|Kt 0 (bO h0)<|Ku 0 (bO h0)<|Kd 0 4 (Int.ofNat (s.take<|eY kq s).length) (fun h1 _=>Kt 0 (bO h1)<|M1 (.chr<|gD (s.take<|eY kq s) 0) (zn (gR:0<(s.take (eY kq s)).length))<|Mt (bO h1)<|Ku 0 (bO h1)<|Kc 0 (Int.ofNat (gD (s.take<|eY kq s) 0).toNat) 48 (fun h2 _=>Kt 0 (bO h2)<|Kt 0 (bO h2)<|Ku 0 (bO h2)<|Kd 0 3 (Int.ofNat (s.drop<|eY kq s).length) (fun a _=>Kt 0 (bO a)<|Kt 0 (bO a)<|Mp (aal<|s.drop<|eY kq s)<|Mt (bO a)<|Ku 0 (bO a)<|Kf 0<|ch<|rr0<|aw<|aw<|(s.drop<|eY kq s).all Xo) fun a _=>Mh (bN a)<|Mh (bN a)<|Mh (bN a)<|My (bN a)<|Ky 0<|rr0 false) fun h2 _=>Mh (bN h2)<|Mh (bN h2)<|My (bN h2)<|Ky 2<|rr0 false) fun h1 _=>Mh (bN h1)<|Mh (bN h1)<|My (bN h1)<|Ky 4<|rr0 false) fun h0 _=>Mh (bN h0)<|Mh (bN h0)<|My (bN h0)<|Ky 6<|rr0 false
theorem vW(p:List PStep)(hl:p.length<2^40)(hs:∀s,s∈p→s.label.length≤2^39):kP 136 [.ls (p.map aj)] (.bool (ki p)):=by
  have rr0 b' (h:(ki p)=b':=by first|(rw[ki,hj0,Vw];rfl)|(rw[ki,ER zd0 hr0 hj0];simp only[m8,tc,‹al (Int.ofNat zi0) 0=_›,cond_true,cond_false];simp only[EU,aS,aw,bS, *];first|done|rfl)):=h;exact bC Tryz.func136<|Kl 2 6 (ln aj p)<|Mg 0<|tK aj p [0,5,6,7] (fun a _=>([aW<|p.map aj,aW<|p.map aj,nV p.length,nV a],[])) (fun a=>Of p=H4 p a) (by(exact Oe)) (fun zi0 _ zd0 _ hr0 a hj0=>Kh 0 a<|Kl 1 34 (ln aj p)<|Kf 1<|ch<|rr0<|aw<|au 9<|Int.ofNat p.length) fun zi0 _ zd0 _ a b c hr0 d _ e hj0=>Kt 0 d<|Kx 0 e<|Kj 6 (Int.ofNat zi0) 0 (fun d _=>Kt 0 d<|Mp (H5 a)<|MV d<|Mb (al a.kind 0&&dS a.label []) (fun _=>Kl 0 32 (dW zi0)<|K1 0 (.frz 0 [0,5,6,7]) ti<|Mf<|c<|by(rw[ER zd0 hr0 hj0];simp only[m8,tc,‹al (Int.ofNat zi0) 0=_›,cond_true,cond_false];simp only[EU,aS,aw,bS, *];first|done|rfl)) fun _=>Kd 3 0 a.kind (fun a _=>Mt (bO a)<|Mt (bO a)<|MV (bO a)<|Ky 3<|rr0 false) fun d _=>Kh 0 (bN d)<|Kh 0 (bN d)<|Kw 0 (bN d)<|Ka 0 7 a.kind (fun a _=>Mt a<|Mt a<|Mt a<|MV a<|Ky 1<|rr0 false) fun d _=>Kh 0 d<|Kh 0 d<|Mp (uq a.label<|by exact hs _ (bQ zd0 hr0))<|Mh d<|Kw 0 d<|Mn (kZ a.label) (fun _=>Kf 0<|ch<|rr0 false) fun _=>Kl 0 32 (dW zi0)<|K1 0 (.frz 0 [0,5,6,7]) ti<|Mf<|c<|by(rw[ER zd0 hr0 hj0];simp only[m8,tc,‹al (Int.ofNat zi0) 0=_›,cond_true,cond_false];simp only[EU,aS,aw,bS, *];first|done|rfl)) fun d _=>Mh d<|My d<|Kd 4 0 a.kind (fun a _=>Mt (bO a)<|Mt (bO a)<|MV (bO a)<|Ky 3<|rr0 false) fun d _=>Kh 0 (bN d)<|Kh 0 (bN d)<|Kw 0 (bN d)<|Ka 0 7 a.kind (fun a _=>Mt a<|Mt a<|Mt a<|MV a<|Ky 1<|rr0 false) fun d _=>Kh 0 d<|Kh 0 d<|Mp (uq a.label<|by exact hs _ (bQ zd0 hr0))<|Mh d<|Kw 0 d<|Mn (kZ a.label) (fun _=>Kf 0<|ch<|rr0 false) fun _=>Kl 0 32 (dW zi0)<|K1 0 (.frz 0 [0,5,6,7]) ti<|Mf<|c<|by(rw[ER zd0 hr0 hj0];simp only[m8,tc,‹al (Int.ofNat zi0) 0=_›,cond_true,cond_false];simp only[EU,aS,aw,bS, *];first|done|rfl)
theorem Uv(l:List Int)(v:Int)(hl:l.length<2^40):kP 281 [.ls (l.map ak),iV v] (iV (dt (al v) l 0)):=by
  have rr0 b' (h:(dt (al v) l 0)=b':=by first|exact mV zd0 hr0 hj0 ‹_› |exact hj0):=h;exact bC Tryz.func281<|Kl 2 7 (ln ak l)<|Mg 0<|tK ak l [0,1,7,8] (fun a _=>([aW<|l.map ak,iV v,nV l.length,nV a],[])) (fun a=>dt (al v) l (0:Nat)=dt (al v) a (l.length-a.length)) sA (fun _ _ zd0 _ hr0 a hj0=>Kh 0 a<|Kf 0<|li<|rr0 (-1)) fun a _ zd0 _ b c d hr0 e _ f hj0=>Kt 0 e<|Kx 4 f<|Kj 1 v b (fun _ _=>Kf 1<|li<|rr0<|Int.ofNat a) fun _ _=>Kl 0 18 (dW a)<|Kf 0<|d<|by exact kW zd0 hr0 hj0 (by omega)
theorem ri(l:List Int)(v:Int)(hl:l.length<2^40):kP 254 [.ls (l.map ak),iV v] (.bool (l.any (al v))):=by
  have h:=Uv l v hl
  have rr0 b' (h:(l.any (al v))=b':=by(rw[lV];simp only[aS,aw,bS,rO])):=h;exact bC Tryz.func254<|Kp 2 h<|Kf 1<|ch<|rr0<|aw<|au (dt (al v) l 0) 0
theorem QM(v:Int):kP 281 [.nils,iV v] (iV (-1)):=by
  let q:=[af,iV v,iV 0,iV 0];exact bC Tryz.func281<|Mg 3<|Zm [0,1,7,8] (q,[]) True 0 ti fun _ _=>Kf 2<|bd<|iV (-1)
theorem Hp(v:Int):kP 254 [.nils,iV v] (.bool false):=by
  have h:=QM v
  exact bC Tryz.func254<|Kp 2 h<|Kf 1<|bd<|dF false
theorem kn0:kP 301 [iV 0] (.str (c8 0)):=by
  exact wk Tryz.func301 (.go 11 .fin)<|bd<|aK [98,111,111,107]
theorem kn1:kP 301 [iV 1] (.str (c8 1)):=by
  exact wk Tryz.func301 (.go 11 .fin)<|bd<|aK [112,97,114,116]
theorem kn2:kP 301 [iV 2] (.str (c8 2)):=by
  exact wk Tryz.func301 (.go 11 .fin)<|bd<|aK [115,101,99,116,105,111,110]
theorem kn3:kP 301 [iV 3] (.str (c8 3)):=by
  exact wk Tryz.func301 (.go 11 .fin)<|bd<|aK [112,97,114,97,103,114,97,112,104]
theorem kn4:kP 301 [iV 4] (.str (c8 4)):=by
  exact wk Tryz.func301 (.go 11 .fin)<|bd<|aK [116,97,98,108,101]
theorem kn5:kP 301 [iV 5] (.str (c8 5)):=by
  exact wk Tryz.func301 (.go 11 .fin)<|bd<|aK [114,111,119]
theorem kn6:kP 301 [iV 6] (.str (c8 6)):=by
  exact wk Tryz.func301 (.go 11 .fin)<|bd<|aK [99,101,108,108]
theorem kn7:kP 301 [iV 7] (.str (c8 7)):=by
  exact wk Tryz.func301 (.go 11 .fin)<|bd<|aK [110,111,116,101]
theorem knX(k:Int)(h:k<0∨7<k):kP 301 [iV k] (.str (c8 k)):=by
  rw[I9 h]
  have c:au k 0=true∨(au k 0=false∧au k 8=false):=by
    grind[lX,jx]
  rcases c with c|⟨c,d⟩
  · exact bC Tryz.func301<|Kt 3 c<|Mt c<|MV c<|Kf 1<|bd<|aK []
  · exact bC Tryz.func301<|Kh 3 c<|Kh 0 c<|Kw 0 c<|Mt (bO d)<|Kf 0<|bd<|aK []
theorem wT(k:Int):kP 301 [iV k] (.str (c8 k)):=by
  by_cases h:k<0∨7<k
  · grind[knX]
  · grind[kn0,kn1,kn2,kn3,kn4,kn5,kn6,kn7]
theorem ccX(p k:Int)(h:p<0∨7<p):kP 214 [iV p,iV k] (.bool (jJ p k)):=by
  unfold jJ
  rw[Iw h]
  have c:au p 0=true∨(au p 0=false∧au p 8=false):=by
    grind[lX,jx]
  rcases c with c|⟨c,d⟩
  · exact bC Tryz.func214<|Kh 3 (bN c)<|Mh (bN c)<|My (bN c)<|Kf 2<|bd<|dF false
  · exact bC Tryz.func214<|Kt 3 (bO c)<|Kt 0 (bO c)<|Ku 0 (bO c)<|Kh 0 d<|Mh d<|Mh d<|Mh d<|Mh d<|My d<|Kf 0<|bd<|dF false
theorem cc0(k:Int):kP 214 [iV 0,iV k] (.bool (jJ 0 k)):=by
  have h:=ri [1,2] k (by grind)
  let q:=[iV 1,iV 2];exact bC Tryz.func214<|Kp 11 (aA.onArgs (.cons (eS q _<|by rfl)<|lc .nil) h:kP 254 [jW q false,iV k] _)<|Kf 1<|bd<|dF<|[1,2].any<|al k
theorem cc1(k:Int):kP 214 [iV 1,iV k] (.bool (jJ 1 k)):=by
  have h:=ri [2] k (by grind)
  let q:=[iV 2];exact bC Tryz.func214<|Kp 11 (aA.onArgs (.cons (eS q _<|by rfl)<|lc .nil) h:kP 254 [jW q false,iV k] _)<|Kf 1<|bd<|dF<|[2].any<|al k
theorem cc2(k:Int):kP 214 [iV 2,iV k] (.bool (jJ 2 k)):=by
  have h:=ri [3,4,7] k (by grind)
  let q:=[iV 3,iV 4,iV 7];exact bC Tryz.func214<|Kp 11 (aA.onArgs (.cons (eS q _<|by rfl)<|lc .nil) h:kP 254 [jW q false,iV k] _)<|Kf 1<|bd<|dF<|[3,4,7].any<|al k
theorem cc3(k:Int):kP 214 [iV 3,iV k] (.bool (jJ 3 k)):=by
  have h:=ri [3,4,7] k (by grind)
  let q:=[iV 3,iV 4,iV 7];exact bC Tryz.func214<|Kp 11 (aA.onArgs (.cons (eS q _<|by rfl)<|lc .nil) h:kP 254 [jW q false,iV k] _)<|Kf 1<|bd<|dF<|[3,4,7].any<|al k
theorem cc4(k:Int):kP 214 [iV 4,iV k] (.bool (jJ 4 k)):=by
  have h:=ri [5] k (by grind)
  let q:=[iV 5];exact bC Tryz.func214<|Kp 11 (aA.onArgs (.cons (eS q _<|by rfl)<|lc .nil) h:kP 254 [jW q false,iV k] _)<|Kf 1<|bd<|dF<|[5].any<|al k
theorem cc5(k:Int):kP 214 [iV 5,iV k] (.bool (jJ 5 k)):=by
  have h:=ri [6] k (by grind)
  let q:=[iV 6];exact bC Tryz.func214<|Kp 11 (aA.onArgs (.cons (eS q _<|by rfl)<|lc .nil) h:kP 254 [jW q false,iV k] _)<|Kf 1<|bd<|dF<|[6].any<|al k
theorem cc6(k:Int):kP 214 [iV 6,iV k] (.bool (jJ 6 k)):=by
  have h:=Hp k
  exact bC Tryz.func214<|Kp 11 h<|Kf 1<|bd<|dF false
theorem cc7(k:Int):kP 214 [iV 7,iV k] (.bool (jJ 7 k)):=by
  have h:=Hp k
  exact bC Tryz.func214<|Kp 11 h<|Kf 1<|bd<|dF false
theorem zA(p k:Int):kP 214 [iV p,iV k] (.bool (jJ p k)):=by
  by_cases h:p<0∨7<p
  · grind[ccX]
  · grind[cc0,cc1,cc2,cc3,cc4,cc5,cc6,cc7]
theorem aN{n b m:Nat}(h1:n≤m)(h2:m≤2^40)(h3:m*b≤2^40):small n b=true:=by
  unfold small
  have h4:n*b≤m*b:=ee b h1
  grind[Nat.ble_eq_true_of_le]
noncomputable abbrev wm(u:TUnit):AObj:=.row 8 false 0 [eU u]
def Iq(p:PId)(u:TUnit)(x0:Nat×List TUnit×Unit):Prop:=(u.kids).drop x0.1=x0.2.1∧cn p u.kids=cn p x0.2.1
noncomputable def yD(p:PId)(u:TUnit)(x0:Nat×List TUnit×Unit):List AV×List AObj:=([AV.ptr 0 0 0 0,AV.ptr 1 0 0 0,AV.ls (u.kids.map aV),nV u.kids.length,nV x0.1],[AObj.row 8 false 0 [AV.agg [iV u.act,iV u.item,iV u.n,iV u.kind,AV.str u.label,AV.ls (u.head.map aQ),AV.ls (u.words.map aQ),AV.ls (u.kids.map aV)]],AObj.row 3 false 0 [AV.agg [iV p.a,iV p.i,iV p.n]]])
theorem Fk(p:PId):∀(u:TUnit),nU u≤2^20→(cV p u=false→kP 76 [eU u,aY p] .nils)∧(cV p u=true→kP 76 [eU u,aY p] (.ps ((aH p u).map aV) false)):=by
  refine TUnit.ind fun u ih hn=>?_
  have ihn:∀k,k∈u.kids→By (cV p k) false→kP 76 [eU k,aY p] .nils:=fun k hk h=>(ih k hk (bR (tV (iz hk)) hn)).1 h
  have ihy:∀k,k∈u.kids→By (cV p k) true→kP 76 [eU k,aY p] (.ps ((aH p k).map aV) false):=fun k hk h=>(ih k hk (bR (tV (iz hk)) hn)).2 h
  have hkl:=bf u
  refine⟨fun hs=>?_,fun hs=>?_⟩
  · let q:=[az [iV u.act,iV u.item,iV u.n,iV u.kind,aK u.label,aW (u.head.map aQ),aW (u.words.map aQ),aW (u.kids.map aV)]];let q3:=[iV p.a,iV p.i,iV p.n];exact bC Tryz.func76<|Kv 5 (lq ((Tryz.prog).underlying 34) u.act u.item u.n p.a p.i p.n<|ab [aZ 8 false 0 q,aZ 3 false 0 [az q3]])<|Mb (al u.act p.a&&(al u.item p.i&&al u.n p.n)) (fun _=>Kf 2<|fx (by exact absurd (hs.symm.trans (Ed ‹_›)) (by grind):(AV.nils)=(AV.ps q true))) fun _=>Kl 2 16 (ln aV u.kids)<|Mg 0<|Ve (0:Nat) u.kids () [2,3,15,16,17] (fun a _ _=>([bY 0 0 0 0,bY 1 0 0 0,aW<|u.kids.map aV,nV u.kids.length,nV a],[aZ 8 false 0 [az [iV u.act,iV u.item,iV u.n,iV u.kind,aK u.label,aW<|u.head.map aQ,aW<|u.words.map aQ,aW<|u.kids.map aV]],aZ 3 false 0 [az [iV p.a,iV p.i,iV p.n]]])) (fun a b _=>(u.kids).drop a=b∧cn p u.kids=cn p b) (fun _ a _=>a.length) (et rfl<|by rfl) fun a b c d e=>Mc b (fun a=>have b:=eG d.1 a;have:=gd (J:=fun a _=>cn p u.kids=cn p a) (a:=c) a d.2;Kh 0 b<|Kf 0<|bd af) fun b f g=>let i:=List.map aV<|[u]++aH p b;have j:=fJ d.1 g;have:=an j;have l:=(eF (enc:=aV) d.1 g).trans<|congrArg some<|aR b;have c:=cw (J:=fun a _=>cn p u.kids=cn p a) (a:=c) g d.2;have:nU b<nU u:=iz<|bQ d.1 g;have:(aH p b).length≤nU b:=l9 b;Kt 0 j<|Mx l<|Ks 4 (cV p b) (fun a=>Mp (ihy b (by exact bQ d.1 g) a)<|Mg 6<|M2 .apl (et (by simp_all[kS]:List.map aV (aH p b)≠[])<|fh (sz:=8) (f:=aV) (fun _=>by(rw[aR];rfl))<|aH p b) (et (by(refine aN (m:=2^21) ?_ ?_ ?_<;>(try simp only[lM,lC,lN])<;>(have:=l9 (p:=p) b;omega)):small (([AV.agg [iV u.act,iV u.item,iV u.n,iV u.kind,AV.str u.label,AV.ls (u.head.map aQ),AV.ls (u.words.map aQ),AV.ls (u.kids.map aV)]]).length+((aH p b).map aV).length) 120=true) rt)<|M1 (.obj 3<|aZ 8 true 0 i) (congrArg (aZ 8 true 0) (by(simp only[pL,eh,yo,aR,eJ]<;>rfl):[AV.agg [iV u.act,iV u.item,iV u.n,iV u.kind,AV.str u.label,AV.ls (u.head.map aQ),AV.ls (u.words.map aQ),AV.ls (u.kids.map aV)]]++List.map aV (aH p b)=List.map aV ([u]++aH p b)))<|Mg 0<|M2 (.fsl 0 [] 4 i) ti (cj (aq 0) (tA aV ([u]++aH p b) (q++List.map aV (aH p b)).length (sA:([u]++aH p b).length=([AV.agg [iV u.act,iV u.item,iV u.n,iV u.kind,AV.str u.label,AV.ls (u.head.map aQ),AV.ls (u.words.map aQ),AV.ls (u.kids.map aV)]]++List.map aV (aH p b)).length))<|aX iZ<|[u]++aH p b)<|Ml 4 (eS i false<|aX iZ<|[u]++aH p b)<|Mf<|fx (by exact absurd (hs.symm.trans (Ue (by assumption) c (by omega))) (by grind):(AV.nils)=(AV.ls i))) fun c=>Mp (ihn b (by exact bQ d.1 g) c)<|Kl 4 30 (dW a)<|K1 0 (.frz 2 [2,3,15,16,17]) (cj rt rt ti)<|Mf<|e (a+1) f () (et (bJ d.1 g)<|by grind[iG])<|dl g
  · have rr0:∀b',(h:((aH p u).map aV)=b':=by first|rfl|exact absurd (hs.symm.trans (GI (by assumption) hj0)) (by decide)|(rw[qT (by assumption),eh,aR];rfl)|(rw[J3 (by assumption) hj0 (by assumption)];rfl))→((aH p u).map aV)=b':=(fun _ h=>h);let q:=[az [iV u.act,iV u.item,iV u.n,iV u.kind,aK u.label,aW (u.head.map aQ),aW (u.words.map aQ),aW (u.kids.map aV)]];let q3:=[iV p.a,iV p.i,iV p.n];exact bC (hv:=(aX iZ (aH p u))) Tryz.func76 (Kv 5 (EP (d:=(Tryz.prog).underlying 34) (n:=3) (l:=(0,1)::(1,1)::(2,1)::[]) (xs:=[iV u.act,iV u.item,iV u.n]) (ys:=q3) (H:=ab [aZ 8 false 0 q,aZ 3 false 0 [az q3]]) rfl (mN (e:=al u.act p.a) rfl rfl rfl (mN (e:=al u.item p.i) rfl rfl rfl (As (e:=al u.n p.n) rfl rfl rfl rfl)))) (Mb (al u.act p.a&&(al u.item p.i&&al u.n p.n)) (fun h0=>Kf 2 ((SA (rr0 q)):Le _ (jW q true))) (fun h0=>Kl 2 16 (Le.len (f:=aV) (l:=u.kids)) (Mg 0 (ML (Nat×List TUnit×Unit) [2,3,15,16,17] (yD p u) (Iq p u) (fun x=>x.2.1.length) (0,u.kids,()) (aq ((yD p u) (0,u.kids,()))) (et (rfl:List.drop 0 (u.kids)=u.kids) (by rfl:(cn p u.kids=cn p u.kids))) (fun x0 hx0 nx0=>Mc x0.2.1 (fun hr0=>have lt0:=eG hx0.1 hr0;have hj0:=gd (J:=fun r x=>cn p u.kids=cn p r) (a:=x0.2.2) hr0 hx0.2;(Kh 0 lt0 (Kf 0 (fx (by exact absurd (hs.symm.trans (GI (by assumption) hj0)) (by grind):(AV.ps ((aH p u).map aV) false)=(AV.nils)))))) (fun w0 r0 hr0=>let q2:=List.map aV ([u]++aH p w0);have lt0:=fJ hx0.1 hr0;have glt0:=an lt0;have nt0:=(eF (enc:=aV) hx0.1 hr0).trans (congrArg some (aR w0));have hj0:=cw (J:=fun r x=>cn p u.kids=cn p r) (a:=x0.2.2) hr0 hx0.2;have q0:nU w0<nU u:=iz (bQ hx0.1 hr0);have q1:(aH p w0).length≤nU w0:=l9 w0;(Kt 0 lt0 (Mx nt0 (Ks 4 (cV p w0) (fun h2=>Mp (ihy w0 (by exact bQ hx0.1 hr0) h2) (Mg 6 (M2 .apl (et (by simp_all[kS]:List.map aV (aH p w0)≠[]) (fh (sz:=8) (f:=aV) (fun _=>by(rw[aR];rfl)) (aH p w0))) (et (by(refine aN (m:=2^21) ?_ ?_ ?_<;>(try simp only[lM,lC,lN])<;>(have:=l9 (p:=p) w0;omega)):small (([AV.agg [iV u.act,iV u.item,iV u.n,iV u.kind,AV.str u.label,AV.ls (u.head.map aQ),AV.ls (u.words.map aQ),AV.ls (u.kids.map aV)]]).length+((aH p w0).map aV).length) 120=true) rt) (M1 (.obj 3 (aZ 8 true 0 q2)) (congrArg (aZ 8 true 0) (by(simp only[pL,eh,yo,aR,eJ]<;>rfl):[AV.agg [iV u.act,iV u.item,iV u.n,iV u.kind,AV.str u.label,AV.ls (u.head.map aQ),AV.ls (u.words.map aQ),AV.ls (u.kids.map aV)]]++List.map aV (aH p w0)=List.map aV ([u]++aH p w0))) (Mg 0 (M2 (.fsl 0 [] 4 q2) ti (cj (aq (0)) (KX (f:=aV) (l:=[u]++aH p w0) (n:=(q++List.map aV (aH p w0)).length) (by simp_all:([u]++aH p w0).length=([AV.agg [iV u.act,iV u.item,iV u.n,iV u.kind,AV.str u.label,AV.ls (u.head.map aQ),AV.ls (u.words.map aQ),AV.ls (u.kids.map aV)]]++List.map aV (aH p w0)).length)) (aX iZ ([u]++aH p w0))) (Mf ((SA (rr0 q2)):Le _ (jW q2 false))))))))) (fun h2=>Mp (ihn w0 (by exact bQ hx0.1 hr0) h2) (Kl 4 30 (Le.wr (x:=Int.ofNat x0.1+1) eP) (K1 0 (.frz 2 [2,3,15,16,17]) (cj rt rt ti) (Mf (nx0 (x0.1+1,r0,()) (et (bJ hx0.1 hr0) (by grind[iG]:(cn p u.kids=cn p r0))) (dl hr0))))))))))))))))
theorem J4(p:PId)(u:TUnit)(h:By (cV p u) false)(hn:nU u≤2^20):kP 76 [eU u,aY p] .nils:=(Fk p u hn).1 h
theorem Fj(p:PId)(u:TUnit)(h:By (cV p u) true)(hn:nU u≤2^20):kP 76 [eU u,aY p] (.ps ((aH p u).map aV) false):=(Fk p u hn).2 h
theorem R0:kP 110 [.nils] .nils:=by
  exact wk Tryz.func110 (.go 4 .fin)<|bd af
theorem RT:kP 110 [.ps [] false] (.ps [] true):=by
  exact wk Tryz.func110 (.go 7 .fin)<|bd<|jW [] true
theorem R3(w:PWord)(r:List PWord)(hl:r.length<2^30):kP 110 [.ls ((w::r).map aQ)] (.ls ((w::r).map aQ)):=by
  let q:=List.map aQ (w::r);exact bC Tryz.func110<|Mg 1<|Mz 3 (fun(a:((w::r).map aQ:List AV)=[])=>Mw .abs<|km _ _ a)<|Mg 3<|M2 .apl (et (sA:List.map aQ (w::r)≠[])<|fM 4 aQ (w::r) fun _=>rfl) (by(refine aN (m:=2^31) ?_ ?_ ?_<;>first|omega|grind):small ((w::r).map aQ).length 40=true)<|Mg 0<|M2 (.fsl 0 [] 2 q) ti (cj (aq 0) (tA aQ (w::r) q.length (sA:(w::r).length=((w::r).map aQ).length))<|aX ip<|w::r)<|Ml 2 (eS q false<|aX ip<|w::r)<|Mf<|bd<|aW q
theorem Nv(p:PId)(u:TUnit)(h:By (cV p u) false)(hn:nU u≤2^20):kP 233 [eU u,.pptr [aY p] 0 0] (.bool false):=by
  have h':cV p u=false:=h
  exact bC Tryz.func233<|Kp 3 (J4 p u h hn)<|Kf 1<|bd<|dF false
theorem Nw(p:PId)(u:TUnit)(h:By (cV p u) true)(hn:nU u≤2^20):kP 233 [eU u,.pptr [aY p] 0 0] (.bool true):=by
  have h':cV p u=true:=h
  exact bC Tryz.func233<|Kp 3 (Fj p u h hn)<|Kf 1<|bd<|dF true
theorem aa1(l:List TUnit)(g:Nat)(q:TUnit→Bool)(hp:∀k,k∈l→kP g [eU k] (.bool (q k)))(hl:l.length<2^40):kP 232 [.ls (l.map aV),.func (.func g) [] []] (iV (dt q l 0)):=by
  have rr0 b' (h:(dt q l 0)=b':=by first|exact mV zd0 hr0 hj0 ‹_› |exact hj0):=h;exact bC Tryz.func232<|Kl 2 7 (ln aV l)<|Mg 0<|tK aV l [0,1,7,8] (fun a _=>([aW<|l.map aV,bq (bU g) [] [],nV l.length,nV a],[])) (fun a=>dt q l (0:Nat)=dt q a (l.length-a.length)) sA (fun _ _ zd0 _ hr0 a hj0=>Kh 0 a<|Kf 0<|li<|rr0 (-1)) fun a _ zd0 _ b c d hr0 e _ f hj0=>have f:=f.trans<|congrArg some<|aR b;Kt 0 e<|Kx 4 f<|Kp 0 (hp b<|by exact bQ zd0 hr0)<|Mb (q b) (fun _=>Kf 1<|li<|rr0<|Int.ofNat a) fun _=>Kl 0 18 (dW a)<|Kf 0<|d<|by exact kW zd0 hr0 hj0 (by omega)
theorem aag(l:List TUnit)(g:Nat)(p:PId)(q:TUnit→Bool)(hp:∀k,k∈l→kP g [eU k,.pptr [aY p] 0 0] (.bool (q k)))(hl:l.length<2^40):kP 232 [.ls (l.map aV),.func (.func g) [] [.pptr [aY p] 0 0]] (iV (dt q l 0)):=by
  have rr0 b' (h:(dt q l 0)=b':=by first|exact mV zd0 hr0 hj0 ‹_› |exact hj0):=h;exact bC Tryz.func232<|Kl 2 7 (ln aV l)<|Mg 0<|tK aV l [0,1,7,8] (fun a _=>([aW<|l.map aV,bq (bU g) [] [AV.pptr [az [iV p.a,iV p.i,iV p.n]] 0 0],nV l.length,nV a],[])) (fun a=>dt q l (0:Nat)=dt q a (l.length-a.length)) sA (fun _ _ zd0 _ hr0 a hj0=>Kh 0 a<|Kf 0<|li<|rr0 (-1)) fun a _ zd0 _ b c d hr0 e _ f hj0=>have f:=f.trans<|congrArg some<|aR b;Kt 0 e<|Kx 4 f<|Kp 0 (hp b<|by exact bQ zd0 hr0)<|Mb (q b) (fun _=>Kf 1<|li<|rr0<|Int.ofNat a) fun _=>Kl 0 18 (dW a)<|Kf 0<|d<|by exact kW zd0 hr0 hj0 (by omega)
theorem RB{D a:Nat}{w:TUnit}{r:List TUnit}{u:TUnit}(h:D=Nat.max a (kg (w::r))∧a≤2^20)(q0:nU w<nU u)(q1:mT w<nU w)(hn:nU u≤2^20):D=Nat.max (Nat.max a (1+mT w)) (kg r)∧Nat.max a (1+mT w)≤2^20:=by
  grind[kg]
theorem UM{D a:Nat}(h:D=Nat.max a (kg [])∧a≤2^20):D=a:=by
  simp_all[Dz]
theorem Hh:∀(u:TUnit),nU u≤2^20→kP 218 [eU u] (nV (mT u)):=by
  refine TUnit.ind fun u ih hn=>?_
  have hkl:=bf u
  have ihk:∀k,k∈u.kids→kP 218 [eU k] (nV (mT k)):=fun k hk=>ih k hk (bR (tV (iz hk)) hn)
  have rr0 b' (h:(Int.ofNat (mT u))=b':=by(rw[LI,UM hj0])):=h;exact bC Tryz.func218<|Kl 5 8 (ln aV u.kids)<|Mg 0<|JI aV u.kids (0:Nat) [3,7,8,9] (fun a _ b=>([nV b,aW<|u.kids.map aV,nV u.kids.length,nV a],[aZ 8 false 0 [az [iV u.act,iV u.item,iV u.n,iV u.kind,aK u.label,aW<|u.head.map aQ,aW<|u.words.map aQ,aW<|u.kids.map aV]]])) (fun a b=>kg u.kids=b.max (kg a)∧b≤2^20) sA (fun _ _ a _ _ _ b hj0=>Kh 0 b<|Kf 1<|li<|rr0<|Int.ofNat a) fun a _ b c d e f g i j _ l _=>have l:=(l).trans<|congrArg some<|aR e;have hj0:=cw (J:=fun a b=>kg u.kids=b.max (kg a)∧b≤2^20) (a:=b) i d;have d:=iz<|bQ c i;have m:=Er e;Kt 0 j<|Mx l<|Kp 4 (ihk e<|by exact bQ c i)<|Kl 0 16 (b0 (x:=(1:Int)+Int.ofNat (mT e)) (n:=(1:Nat)+mT e) eP)<|Kl 0 17 (m9 (k:=IntKind.i64)<|Qj b<|1+mT e)<|Kl 1 18 (g0 a)<|K1 0 (.frz 1 [3,7,8,9]) (et rt ti)<|Mf<|g (b.max<|1+mT e)<|by exact RB hj0 d m hn
theorem LC(g:Nat)(q:TUnit→Bool):∀(u:TUnit),(∀x,x∈bp u→kP g [eU x] (.bool (q x)))→u.kids.length<2^40→(∀x,x∈bp u→x.kids.length<2^40)→kP 219 [eU u,.func (.func g) [] []] (.bool (wY q u)):=by
  refine TUnit.ind fun u ih hp hl hk=>?_
  have ihk:∀k,k∈u.kids→kP 219 [eU k,.func (.func g) [] []] (.bool (wY q k)):=fun k hm=>ih k hm (fun x hx=>hp x (bA hm hx)) (hk k (Ld hm)) (fun x hx=>hk x (bA hm hx))
  have hs:=hp u (dK u)
  have rr0 b' (h:(wY q u)=b':=by first|(rw[yl];simp only[aS,aw,bS, *];done)|(rw[yl,hj0,Od])|(rw[yl,hj0,Bd];simp only[aS,aw,bS, *];done)):=h;exact bC Tryz.func219<|Kp 3 hs<|Kn 0 (q u) (fun _=>Ky 0<|rr0 false) fun _=>Kl 2 13 (ln aV u.kids)<|K1 0 (.frz 0 [1,12,13,14]) ti<|tK aV u.kids [1,12,13,14] (fun a _=>([bq (bU g) [] [],aW<|u.kids.map aV,nV u.kids.length,nV a],[])) (fun a=>(q u&&(dm u.kids).all q)=(dm a).all q) (by(simp only[aS,aw,bS, *];done)) (fun _ _ _ _ _ a hj0=>Kh 0 a<|Ky 0<|rr0 true) fun a _ b _ c d e f i _ j hj0=>have j:=j.trans<|congrArg some<|aR c;Kt 0 i<|Mx j<|Kp 4 (ihk c<|by exact bQ b f)<|Kn 0 (wY q c) (fun _=>Kf 0<|ch<|rr0 false) fun _=>Kl 0 22 (dW a)<|K1 0 (.frz 0 [1,12,13,14]) ti<|Mf<|e<|by simp_all[Bd]
theorem OQ(u:TUnit)(n:Nat)(hn:n<2^40):kD 220 [eU u,.ptr 0 0 0 0] (ab [.row 1 false 0 [nV n]]) (.bool true) (ab [.row 1 false 0 [nV (n+1)]]):=by
  exact eM Tryz.func220 fun a=>Kl 3 5 (g0 n)<|K1 1 (.frz 1 [3]) (et rt ti)<|Mf a
theorem HY:∀(u:TUnit),∀(n:Nat),n+nU u<2^40→kD 219 [eU u,.func (.func 220) [] [.ptr 0 0 0 0]] (ab [.row 1 false 0 [nV n]]) (.bool true) (ab [.row 1 false 0 [nV (n+nU u)]]):=by
  refine TUnit.ind fun u ih n hn=>?_
  have hq:=i7 u
  have hl:=bf u
  exact O3 Tryz.func219<|K1 3 (.frz 1 [1,2,7,8]) (et rt ti)<|Me (OQ u n oA)<|Kl 4 13 (ln aV u.kids)<|Mg 0<|JI aV u.kids (n+1) [1,12,13,14] (fun a _ b=>([bq (bU 220) [] [bY 0 0 0 0],aW<|u.kids.map aV,nV u.kids.length,nV a],[aZ 1 false 0 [nV b]])) (fun a b=>n+nU u=b+eQ a∧b+eQ a<2^40) oA (fun _ _ a _ _ _ b _=>Kh 0 b<|Kf 0<|et (aq<|dF true) (by simp_all[mX]:(ab [AObj.row 1 false 0 [nV a]])=(ab [AObj.row 1 false 0 [nV (n+nU u)]]))) fun a _ b c _ d e f g h _ i _=>have i:=i.trans<|congrArg some<|aR d;have c:=bQ c g;have g:b+nU d<2^40:=(by grind[bh]);Kt 0 h<|Mx i<|K1 4 (.frz 1 [1,12,13,14,18,19]) (et rt ti)<|Me (ih d c b g)<|Kl 2 22 (g0 a)<|Kf 0<|f (b+nU d)<|by grind[bh]
theorem Et(u:TUnit)(hn:nU u<2^39):kP 156 [eU u] (nV (nU u)):=by
  have rr0 b' (h:(Int.ofNat (nU u))=b':=by(rw[eE])):=h;exact bC Tryz.func156<|Mg 5<|M0 (.ren [1,0] [] [3,4,5])<|M1 (.frz 1 [3,4,5]) (et rt ti)<|Me (HY u 0 oA)<|Kf 1<|li<|rr0<|Int.ofNat<|0+nU u
noncomputable abbrev rN(ep n:Nat):AObj:=.row 1 false 0 [.slice 1 ep 0 n none]
noncomputable abbrev Nq(ep:Nat)(l:List PId):AObj:=.row 3 true ep (l.map aY)
theorem W7(u:TUnit):kD 221 [eU u,.ptr 0 0 0 0] (ab [.row 1 false 0 [.nils]]) (.bool true) (ab [rN 0 1,Nq 0 [bz u]]):=by
  exact wcq Tryz.func221 (.go 8<|.ren [0,2,1] [] [3]<|.frz 2 [3] .fin) fun a=>et (cj rt rt ti) a
theorem W8(u:TUnit)(ep n:Nat)(l:List PId)(hn:n=l.length)(hl:l.length<2^30):kD 221 [eU u,.ptr 0 0 0 0] (ab [rN ep n,Nq ep l]) (.bool true) (ab [rN (ep+1) (n+1),Nq (ep+1) (l++[bz u])]):=by
  exact eM Tryz.func221 fun a=>K1 5 .app (cj (aq ep) (sA:n=(l.map aY).length) (by(refine aN (m:=2^31) ?_ ?_ ?_<;>omega):small (n+1) 24=true))<|M1 (.obj 1<|aZ 3 true (ep+1)<|(l++[PId.mk u.act u.item u.n]).map aY) (congrArg (aZ 3 true<|ep+1)<|cM (f:=aY) (l:=l) (ws:=[PId.mk u.act u.item u.n]))<|K1 1 (.frz 2 [3]) (cj (tR 3 true (ep+1) 2<|aX Ji<|l++[PId.mk u.act u.item u.n]) rt ti)<|Mf a
theorem N2:∀(u:TUnit),∀(ep n:Nat)(l:List PId),n=l.length→l.length+nU u<2^30→kC 219 [eU u,.func (.func 221) [] [.ptr 0 0 0 0]] (ab [rN ep n,Nq ep l])
    (fun v h=>∃y:Nat×Nat×List PId,(y.2.1=y.2.2.length∧y.2.2=l++dY u)∧v=.bool true∧h=ab [rN y.1 y.2.1,Nq y.1 y.2.2]):=by
  refine TUnit.ind fun u ih ep n l hn hl=>?_
  have hq:=i7 u
  have hkl:=bf u
  exact qJ Tryz.func219 fun a=>K1 3 (.frz 2 [1,2,7,8]) (cj (tR 3 true ep 2<|aX Ji l) rt ti)<|Me (W8 u ep n l hn oA)<|Kl 4 13 (ln aV u.kids)<|Mg 0<|Vd aV u.kids (ep+1) (n+1) (l++[bz u]) [1,12,13,14] (fun a _ b c d=>([bq (bU 221) [] [bY 0 0 0 0],aW<|u.kids.map aV,nV u.kids.length,nV a],[aZ 1 false 0 [aI 1 b 0 c none],aZ 3 true b<|d.map aY])) (fun a _ b c=>b=c.length∧c++ia a=l++[bz u]++ia u.kids∧c.length+eQ a<2^30) gR (fun _ _ b c d _ _ _ e _=>Kh 0 e<|Kf 0<|a (b,c,d)<|by grind[ry,nb]) fun a _ b c d e f g i j k m _ o _=>have o:=(o).trans<|congrArg some<|aR g;have:=cw (J:=fun a b=>b.2.1=b.2.2.length∧b.2.2++ia a=l++[bz u]++ia u.kids∧b.2.2.length+eQ a<2^30) (a:=(b,c,d)) k f;have e:=bQ e k;have f:d.length+nU g<2^30:=(by grind[bh]);Kt 0 m<|Mx o<|K1 4 (.frz 2 [1,12,13,14,18,19]) (cj (tR 3 true b 2<|aX Ji d) rt ti)<|Mq (ih g e b c d oA f) fun b _=>Kl 2 22 (dW a)<|Kf 0<|j b.1 b.2.1 b.2.2<|by grind[bh,gz,ud]
theorem Vs(l:List PWord)(hl:l.length≤300)(hs:∀w,w∈l→w.text.length≤2^39):kP 305 [.ls (l.map aQ)] (.bool (og l)):=by
  have hv:=KP (l.map PWord.text) (by grind) (fun s hm=>by grind)
  have rr0 b' (h:(og l)=b':=by(simp only[og,aS,aw,bS, *])):=h;exact bC Tryz.func305<|Kl 3 7 (ln aQ l)<|Mg 0<|kw Nat Nat (List aO) aQ l [0,3,6,7,8] (fun a _=>([aW<|l.map aQ,af,aW<|l.map aQ,nV l.length,nV a],[])) (fun a _ b c d=>([aW<|l.map aQ,aI 0 b 0 c none,aW<|l.map aQ,nV l.length,nV a],[aZ 1 true b<|d.map mS])) (fun a=>a=l) (fun a _ b c=>b=c.length∧(0:Nat)<c.length∧c++List.map PWord.text a=List.map PWord.text l∧c.length+a.length=l.length) (by rfl) (fun _ _ _ _ _ a _=>Kh 0 a<|Kl 1 19 (ln aQ l)<|Kd 1 256 (Int.ofNat l.length) (fun a _=>Kt 0 (bO a)<|Mp (aA.onArgs (.cons (Le.lsn (sA:((l.map PWord.text).map mS)=[])) .nil) hv:kP 236 [af] _)<|MV (bO a)<|Kf 0<|ch<|rr0<|qk<|l.map PWord.text) fun a _=>Mh (bN a)<|My (bN a)<|Kf 0<|ch<|rr0 false) (fun a _ _ _ b c _ d _ e _ f g=>Kt 0 e<|Mx f<|Kl 9 17 (g0 a)<|Mg 0<|M0 (.ren [1,0] [] [0,3,6,7,8])<|M1 (.frz 1 [0,3,6,7,8]) (et rt ti)<|Mf<|d 0 1 [b.text]<|by(refine⟨rfl,by simp,?_,?_⟩<;>(rw[←g])<;>(first|rfl|grind))) (fun _ _ a b c _ _ _ d _=>Kh 0 d<|Kl 1 19 (ln aQ l)<|Kd 1 256 (Int.ofNat l.length) (fun d _=>Mg 0<|M2 (.fsl 0 [21] 22<|c.map mS) ti (cj (aq a) (tA mS c b (oA:(c).length=b))<|aX Jh c)<|Ml 22 (eS (c.map mS) false<|aX Jh c)<|Mt (bO d)<|Mp (aA.onArgs (.cons (b6 (sA:((l.map PWord.text).map mS)=(c.map mS))) .nil) hv:kP 236 [aW (c.map mS)] _)<|MV (bO d)<|Kf 0<|ch<|rr0<|qk<|l.map PWord.text) fun a _=>Mh (bN a)<|My (bN a)<|Kf 0<|ch<|rr0 false) fun a _ b c d _ _ e f _ g _ i _ j k=>Kt 0 i<|Mx j<|K1 6 .app (cj (aq b) (sA:c=(d.map mS).length) (by(refine aN (m:=2^20) ?_ ?_ ?_<;>omega):small (c+1) 16=true))<|M1 (.obj 0<|aZ 1 true (b+1)<|(d++[e.text]).map mS) (congrArg (aZ 1 true<|b+1)<|cM (f:=mS) (l:=d) (ws:=[e.text]))<|Kl 1 17 (g0 a)<|K1 0 (.frz 1 [0,3,6,7,8]) (et (tR 1 true (b+1) 1<|aX Jh<|d++[e.text]) ti)<|Mf<|g (b+1) (c+1) (d++[e.text])<|by(refine⟨by simp_all,by simp,?_,?_⟩<;>first|(rw[←k.2.2.1];simp;done)|grind)
theorem oP(a b:Nat):Int.ofNat (a+b)=Int.ofNat a+Int.ofNat b:=rfl
theorem Sh(u:TUnit)(h1:u.head.length≤300)(h2:u.words.length≤300)(h3:u.kids.length<2^30)(h4:u.label.length≤2^39)(h5:∀w,w∈u.head→w.text.length≤2^39)(h6:∀w,w∈u.words→w.text.length≤2^39):kP 289 [eU u] (.bool (lL u)):=by
  have hlk:∀(m:List ((Int×aO)×Bool))(a:Int)(s:aO),eH (some (.bool false)) false (bc true 2 [(0,1),(1,2)] (.agg [iV a,.str s]) (cZ pn dU m 0) 0)=some (.bool (OC mO (a,s) m)):=fun m a s=>Gw Lf m (a,s)
  have hup:∀(m:List ((Int×aO)×Bool))(a:Int)(s:aO),rF (cZ pn dU m 0) m.length (.agg [iV a,.str s]) (.bool true) (bc true 2 [(0,1),(1,2)] (.agg [iV a,.str s]) (cZ pn dU m 0) 0)=some (cZ pn dU (fC mO (a,s) true m) 0,(fC mO (a,s) true m).length):=fun m a s=>J6 Lf m (a,s)
  have r1:=Vs u.head h1 h5
  have r2:=Vs u.words h2 h6
  have r3:=uq u.label h4
  have rr0 b' (h:(lL u)=b':=by first|(rw[lL,hj0,mF];simp only[EU,bw,oP,cond_true,cond_false,aS,aw,bS,wy,wj,Bool.not_true,CZ,wx, *];first|done|rfl)|(simp only[lL,EU,bw,oP,cond_true,cond_false,aS,aw,bS, *];done)|(simp only[lL,mF,EU,bw,oP,cond_true,cond_false,aS,aw,bS, *];done)|(simp only[lL,mF,EU,bw,oP,cond_true,cond_false,aS,aw,bS,wy,wj,Bool.not_true,CZ,wx, *];first|done|rfl)):=h;exact bC Tryz.func289<|Kj 4 u.kind 0 (fun _ b=>Kn 3 (dS u.label (ByteArray.mk #[]).data.toList) (fun b=>Mt (bO b)<|Mt (bO b)<|Mt (bO b)<|Mt (bO b)<|Mt (bO b)<|Mt (bO b)<|Mt (bO b)<|MV (bO b)<|Ky 1<|rr0 false) fun c=>Kh 0 (bN c)<|Kh 0 (bN c)<|Kl 0 16 (ln aQ u.head)<|Mh (bN c)<|Kh 0 (bN c)<|Kh 0 (bN c)<|Kl 0 19 (ln aQ u.words)<|Mh (bN c)<|Kl 0 20 (Le.wr (x:=Int.ofNat u.head.length+Int.ofNat u.words.length) eP)<|Mh (bN c)<|Kw 0 (bN c)<|Mb (au 0<|Int.ofNat u.head.length+Int.ofNat u.words.length) (fun b=>have:=an b;Ky 0<|rr0 false) fun c=>have:=aF c;Kl 4 48 (ln aV u.kids)<|Mg 0<|JI aV u.kids ([]:List ((Int×aO)×Bool)) [1,3,47,48,49] (fun b _ c=>([bY 0 0 0 0,AV.map 1,aW<|u.kids.map aV,nV u.kids.length,nV b],[aZ 8 false 0 [az [iV u.act,iV u.item,iV u.n,iV u.kind,aK u.label,aW<|u.head.map aQ,aW<|u.words.map aQ,aW<|u.kids.map aV]],AObj.map (cZ pn dU c 0) c.length])) (fun b c=>mF u.kind u.kids []=mF u.kind b c) (by rfl) (fun _ _ _ _ _ _ b hj0=>Kh 0 b<|Kl 2 74 (ln aV u.kids)<|Kf 1<|ch<|rr0<|aw<|au 64<|Int.ofNat u.kids.length) fun c _ d _ _ e f g _ i _ j hj0=>have j:=j.trans<|congrArg some<|aR e;Kt 0 i<|Mx j<|Kl 11 59 (m9 (k:=IntKind.i64) b)<|Kp 1 (zA 0 e.kind)<|Kn 1 (jJ 0 e.kind) (fun b=>Mt (bO b)<|Mt (bO b)<|MV (bO b)<|Ky 1<|rr0 false) fun b=>Kh 0 (bN b)<|Kh 0 (bN b)<|M1 (.look<|dF<|OC mO (e.kind,e.label) d) (hlk d e.kind e.label)<|My (bN b)<|Mb (OC mO (e.kind,e.label) d) (fun _=>Kf 0<|ch<|rr0 false) fun _=>K1 1 (.upd (cZ pn dU (fC mO (e.kind,e.label) true d) 0) (fC mO (e.kind,e.label) true d).length) (hup d e.kind e.label)<|Kl 0 71 (dW c)<|K1 0 (.frz 2 [1,3,47,48,49]) (cj (tM (fC mO (e.kind,e.label) true d).length 2 (by exact cW Lf AE _ _:fY (cZ pn dU (fC mO (e.kind,e.label) true d) 0)=0)) rt ti)<|Mf<|g (fC mO (e.kind,e.label) true d)<|by(rw[hj0,mF];simp only[aS,aw,bS, *];done)) fun _ _=>Kp 1 (wT u.kind)<|Kb 1 (dS (c8 u.kind) (ByteArray.mk #[]).data.toList) (fun b=>Mt b<|Mt b<|Mt b<|MV b<|Ky 5<|rr0 false) fun b=>Kh 0 b<|Kh 0 b<|Mp r3<|Mh b<|Kw 0 b<|Kn 0 (kZ u.label) (fun b=>Mt (bO b)<|Mt (bO b)<|Mt (bO b)<|MV (bO b)<|Ky 3<|rr0 false) fun b=>Kh 0 (bN b)<|Kh 0 (bN b)<|Mp r1<|Mh (bN b)<|Kw 0 (bN b)<|Kn 0 (og u.head) (fun b=>Mt (bO b)<|Mt (bO b)<|Mt (bO b)<|MV (bO b)<|Ky 1<|rr0 false) fun b=>Kh 0 (bN b)<|Kh 0 (bN b)<|Mp r2<|Mh (bN b)<|Kw 0 (bN b)<|Mn (og u.words) (fun _=>Ky 0<|rr0 false) fun _=>Kl 4 48 (ln aV u.kids)<|Mg 0<|JI aV u.kids ([]:List ((Int×aO)×Bool)) [1,3,47,48,49] (fun b _ c=>([bY 0 0 0 0,AV.map 1,aW<|u.kids.map aV,nV u.kids.length,nV b],[aZ 8 false 0 [az [iV u.act,iV u.item,iV u.n,iV u.kind,aK u.label,aW<|u.head.map aQ,aW<|u.words.map aQ,aW<|u.kids.map aV]],AObj.map (cZ pn dU c 0) c.length])) (fun b c=>mF u.kind u.kids []=mF u.kind b c) (by rfl) (fun _ _ _ _ _ _ b hj0=>Kh 0 b<|Kl 2 74 (ln aV u.kids)<|Kf 1<|ch<|rr0<|aw<|au 64<|Int.ofNat u.kids.length) fun b _ c _ _ d e f _ g _ i hj0=>have i:=i.trans<|congrArg some<|aR d;Kt 0 g<|Mx i<|Kp 13 (zA u.kind d.kind)<|Kn 1 (jJ u.kind d.kind) (fun b=>Mt (bO b)<|Mt (bO b)<|MV (bO b)<|Ky 1<|rr0 false) fun g=>Kh 0 (bN g)<|Kh 0 (bN g)<|M1 (.look<|dF<|OC mO (d.kind,d.label) c) (hlk c d.kind d.label)<|My (bN g)<|Mb (OC mO (d.kind,d.label) c) (fun _=>Kf 0<|ch<|rr0 false) fun _=>K1 1 (.upd (cZ pn dU (fC mO (d.kind,d.label) true c) 0) (fC mO (d.kind,d.label) true c).length) (hup c d.kind d.label)<|Kl 0 71 (dW b)<|K1 0 (.frz 2 [1,3,47,48,49]) (cj (tM (fC mO (d.kind,d.label) true c).length 2 (by exact cW Lf AE _ _:fY (cZ pn dU (fC mO (d.kind,d.label) true c) 0)=0)) rt ti)<|Mf<|f (fC mO (d.kind,d.label) true c)<|by(rw[hj0,mF];simp only[aS,aw,bS, *];done)
theorem Jy(u:TUnit)(hl:nU u<2^29):kC 219 [eU u,.func (.func 221) [] [.ptr 0 0 0 0]] (ab [.row 1 false 0 [.nils]])
    (fun v h=>∃y:Nat×Nat×List PId,(y.2.1=y.2.2.length∧y.2.2=dY u)∧v=.bool true∧h=ab [rN y.1 y.2.1,Nq y.1 y.2.2]):=by
  have hq:=i7 u
  have hkl:=bf u
  exact qJ Tryz.func219 fun a=>K1 3 (.frz 1 [1,2,7,8]) (et rt ti)<|Me (W7 u)<|Kl 4 13 (ln aV u.kids)<|Mg 0<|Vd aV u.kids (0:Nat) (1:Nat) ([bz u]:List PId) [1,12,13,14] (fun a _ b c d=>([bq (bU 221) [] [bY 0 0 0 0],aW<|u.kids.map aV,nV u.kids.length,nV a],[aZ 1 false 0 [aI 1 b 0 c none],aZ 3 true b<|d.map aY])) (fun a _ b c=>b=c.length∧c++ia a=[bz u]++ia u.kids∧c.length+eQ a<2^30) gR (fun _ _ b c d _ _ _ e f=>Kh 0 e<|Kf 0<|a (b,c,d)<|by(refine⟨f.1,?_⟩;have:=f.2.1;rw[ry,dG]at this;rw[this,nb];rfl)) fun a _ b c d e f g i j k l _ m _=>have m:=(m).trans<|congrArg some<|aR g;have:=cw (J:=fun a b=>b.2.1=b.2.2.length∧b.2.2++ia a=[bz u]++ia u.kids∧b.2.2.length+eQ a<2^30) (a:=(b,c,d)) k f;have:=bQ e k;have e:d.length+nU g<2^30:=(by grind[bh]);Kt 0 l<|Mx m<|K1 4 (.frz 2 [1,12,13,14,18,19]) (cj (tR 3 true b 2<|aX Ji d) rt ti)<|Mq (N2 g b c d oA e) fun b _=>Kl 2 22 (dW a)<|Kf 0<|j b.1 b.2.1 b.2.2<|by grind[bh,gz,ud]
theorem QP(u:TUnit)(hl:nU u<2^29):kP 157 [eU u] (.ls ((dY u).map aY)):=by
  have rr0 b' (h:((dY u).map aY)=b':=by(rw[hy0.2])):=h;exact bC Tryz.func157<|Mg 4<|M0 (.ren [1,0] [] [3,4,5])<|M1 (.frz 1 [3,4,5]) (et rt ti)<|Mq (Jy u hl) fun a hy0=>Mg 1<|M2 (.fsl 0 [] 2<|a.2.2.map aY) ti (cj (aq a.1) (tA aY a.2.2 a.2.1 (oA:(a.2.2).length=a.2.1))<|aX Ji a.2.2)<|Ml 2 (eS (a.2.2.map aY) false<|aX Ji a.2.2)<|Mf<|b6<|rr0<|a.2.2.map aY
theorem W6(u:TUnit)(hl:nU u<2^20):kP 290 [eU u] (.bool (QR u)):=by
  have hb:(dY u).length<2^20:=by grind[ud]
  have hi:=QP u (by omega)
  have hlk:∀(m:List (PId×Bool))(a b c:Int),eH (some (.bool false)) false (bc true 3 [(0,1),(1,1),(2,1)] (.agg [iV a,iV b,iV c]) (cZ aY dU m 0) 0)=some (.bool (OC bg ⟨a,b,c⟩ m)):=fun m a b c=>Gw JW m ⟨a,b,c⟩
  have hup:∀(m:List (PId×Bool))(a b c:Int),rF (cZ aY dU m 0) m.length (.agg [iV a,iV b,iV c]) (.bool true) (bc true 3 [(0,1),(1,1),(2,1)] (.agg [iV a,iV b,iV c]) (cZ aY dU m 0) 0)=some (cZ aY dU (fC bg ⟨a,b,c⟩ true m) 0,(fC bg ⟨a,b,c⟩ true m).length):=fun m a b c=>J6 JW m ⟨a,b,c⟩
  have rr0 b' (h:(QR u)=b':=by((try clear gh1);(try clear gh2);(try clear gh3);(try clear gh4);(try clear gh5);(try clear gh6);(try clear gh7);have e:=DY (kenc:=aY) (f:=dU) za0 0;simp only[e,lM]at *;simp only[QR,fG,bg,bz,bT,hj0,M5,aS,aw,bS, *];first|done|rfl)):=h;exact bC Tryz.func290<|Kp 2 hi<|Kl 4 12 (ln aY<|dY u)<|Mg 0<|JI aY (dY u) ([]:List (PId×Bool)) [1,3,4,11,12,13] (fun d _ g=>([bY 0 0 0 0,aW<|(dY u).map aY,AV.map 1,aW<|(dY u).map aY,nV (dY u).length,nV d],[aZ 8 false 0 [az [iV u.act,iV u.item,iV u.n,iV u.kind,aK u.label,aW<|u.head.map aQ,aW<|u.words.map aQ,aW<|u.kids.map aV]],AObj.map (cZ aY dU g 0) g.length])) (fun d g=>Cf (dY u) []=Cf d g) (by rfl) (fun _ _ za0 _ _ _ d hj0=>Kh 0 d<|K1 1 (.look<|dF<|OC bg (PId.mk 0 0 0) za0) (hlk za0 0 0 0)<|Kb 2 (OC bg (PId.mk 0 0 0) za0) (fun d=>Kt 0 d<|Kt 0 d<|Ku 0 d<|Kj 0 (Int.ofNat (cZ aY dU za0 0).length) 1 (fun d gh2=>Mt d<|Mt d<|Mt d<|Mt d<|Mt d<|Mt d<|MV d<|Ky 0<|rr0 true) fun d gh2=>Kh 0 d<|Kh 0 d<|Kh 0 d<|Kh 0 d<|Kh 0 d<|Kj 0 (Int.ofNat (cZ aY dU za0 0).length) (Int.ofNat ((dY u).map aY).length) (fun g gh3=>Kt 0 g<|Kt 0 g<|Kt 0 g<|Kt 0 g<|Kt 0 g<|Kt 0 g<|Mv (lq ((Tryz.prog).underlying 34) u.act u.item u.n 0 0 0 h0)<|Mt g<|Kh 0 d<|MV g<|My d<|Kf 0<|ch<|rr0<|al u.kind 0==(al u.act 0&&(al u.item 0&&al u.n 0))) fun g gh3=>Mh g<|Mh g<|Mh g<|Mh g<|Mh g<|Mh g<|Mh g<|Mh d<|My g<|My d<|Ky 0<|rr0 false) fun d=>Mh d<|Mh d<|My d<|Kj 6 (Int.ofNat (cZ aY dU za0 0).length) (Int.ofNat ((dY u).map aY).length) (fun d gh4=>Kt 0 d<|Kt 0 d<|Kt 0 d<|Kt 0 d<|Kt 0 d<|Kt 0 d<|Mv (lq ((Tryz.prog).underlying 34) u.act u.item u.n 0 0 0 h0)<|Mt d<|Ku 0 d<|Kf 1<|ch<|rr0<|al u.kind 0==(al u.act 0&&(al u.item 0&&al u.n 0))) fun d gh4=>Mh d<|Mh d<|Mh d<|Mh d<|Mh d<|Mh d<|Mh d<|My d<|Ky 1<|rr0 false) fun d _ za0 _ _ g i j _ k _ l hj0=>Kt 0 k<|Mx l<|K1 4 (.upd (cZ aY dU (fC bg (PId.mk g.a g.i g.n) true za0) 0) (fC bg (PId.mk g.a g.i g.n) true za0).length) (hup za0 g.a g.i g.n)<|Kl 0 19 (g0 d)<|K1 0 (.frz 2 [1,3,4,11,12,13]) (cj (tM (fC bg (PId.mk g.a g.i g.n) true za0).length 2 (by exact cW JW AE _ _:fY (cZ aY dU (fC bg (PId.mk g.a g.i g.n) true za0) 0)=0)) rt ti)<|Mf<|j (fC bg (PId.mk g.a g.i g.n) true za0)<|by(rw[hj0];rfl)
/-- What a tree's parts must be, so that the walks can count. -/
def r9(x:TUnit):Prop:=x.head.length≤300∧x.words.length≤300∧x.label.length≤2^39∧(∀w,w∈x.head→w.text.length≤2^39)∧∀w,w∈x.words→w.text.length≤2^39
def mf(u:TUnit):Prop:=nU u≤2^19∧∀x,x∈bp u→r9 x
theorem HU(u:TUnit)(h:mf u):kP 219 [eU u,.func (.func 289) [] []] (.bool (wY lL u)):=
  LC 289 lL u
    (fun x hx=>by
      obtain⟨a,b,c,d,e⟩:=h.2 x hx
      have h1:=bf x
      have h2:=dL hx
      have h3:=h.1
      grind[Sh])
    (by have h1:=bf u;have h3:=h.1;omega)
    (fun x hx=>by
      have h1:=bf x
      have h2:=dL hx
      have h3:=h.1
      omega)
theorem xR(u:TUnit)(h:mf u):kP 260 [eU u] (.bool (kr u)):=by
  have h1:=h.1
  have e1:=HU u h
  have e2:=Hh u (by omega)
  have e3:=Et u (by omega)
  have e4:=W6 u (by omega)
  have hd:=Er u
  have rr0 b' (h:(kr u)=b':=by(simp only[kr,aS,aw,bS, *];done)):=h;exact bC Tryz.func260<|Kp 2 e1<|Kb 0 (wY lL u) (fun a=>Kt 0 a<|Mp e2<|Mt a<|Ku 0 a<|Kn 0 (au 8<|Int.ofNat<|mT u) (fun a=>Kt 0 (bO a)<|Mp e3<|Mt (bO a)<|Ku 0 (bO a)<|Kn 0 (au 1024<|Int.ofNat<|nU u) (fun a=>Kt 0 (bO a)<|Mp e4<|MV (bO a)<|Kf 0<|ch<|rr0<|QR u) fun a=>Mh (bN a)<|My (bN a)<|Ky 0<|rr0 false) fun a=>Mh (bN a)<|Mh (bN a)<|My (bN a)<|Ky 2<|rr0 false) fun a=>Mh a<|Mh a<|My a<|Ky 4<|rr0 false
theorem rl(l:List PWord)(hl:l.length<2^30):kP 110 [.ls (l.map aQ)] (.ls (l.map aQ)):=by
  cases l with
  |nil=>exact aA.ls0 (R0.less Le.nils) (RT.lessB (u:=.ls []) (by kernel_rfl))
  |cons w r=>grind[R3]
noncomputable abbrev wb:AObj:=.row 8 false 0 [.agg [iV 0,iV 0,iV 0,iV 0,.str [],.nils,.nils,.nils]]
theorem Hn:∀(u:TUnit),nU u≤2^20→(∀x,x∈bp u→x.head.length<2^30∧x.words.length<2^30)→kP 77 [eU u] (eU u):=by
  refine TUnit.ind fun u ih hn ht=>?_
  have hkl:=bf u
  have c1:=rl u.head (ht u (dK u)).1
  have c2:=rl u.words (ht u (dK u)).2
  have ihk:∀k,k∈u.kids→kP 77 [eU k] (eU k):=fun k hk=>ih k hk (bR (tV (iz hk)) hn) (fun x hx=>ht x (bA hk hx))
  have rr0 b' (h:(u.kids.map aV)=b':=by first|rfl|(rw[←hj0];rfl)|(rw[←hj0.2.2.1,dG])):=h;let q1:=List.map aQ u.words;let q2:=List.map aQ u.head;exact bC Tryz.func77<|Kp 3 c1<|Kp 1 c2<|Kl 7 16 (ln aV u.kids)<|Mg 0<|kw Nat Nat (List TUnit) aV u.kids [1,2,3,15,16,17] (fun a _=>([bY 0 0 0 0,bY 1 0 0 0,af,aW<|u.kids.map aV,nV u.kids.length,nV a],[aZ 8 false 0 [az [iV u.act,iV u.item,iV u.n,iV u.kind,aK u.label,aW<|u.head.map aQ,aW<|u.words.map aQ,aW<|u.kids.map aV]],aZ 8 false 0 [az [iV 0,iV 0,iV 0,iV 0,aK [],af,af,af]]])) (fun a _ b c d=>([bY 0 0 0 0,bY 1 0 0 0,aI 2 b 0 c none,aW<|u.kids.map aV,nV u.kids.length,nV a],[aZ 8 false 0 [az [iV u.act,iV u.item,iV u.n,iV u.kind,aK u.label,aW<|u.head.map aQ,aW<|u.words.map aQ,aW<|u.kids.map aV]],aZ 8 false 0 [az [iV 0,iV 0,iV 0,iV 0,aK [],af,af,af]],aZ 8 true b<|d.map aV])) (fun a=>a=u.kids) (fun a _ b c=>b=c.length∧(0:Nat)<c.length∧c++a=u.kids∧c.length+a.length=u.kids.length) (by rfl) (fun _ _ _ _ _ a hj0=>Kh 0 a<|Kl 0 27 bI<|Kf 3 (aT (lc<|lc<|lc<|lc<|lc<|lc<|lc<|.cons (b6<|rr0 []) .nil)<|by kernel_rfl:Le _ (AV.agg [iV u.act,iV u.item,iV u.n,iV u.kind,AV.str u.label,AV.ls q2,AV.ls q1,AV.ls []]))) (fun a _ _ b c d _ e f g _ i _=>have i:=(i).trans<|congrArg some<|aR c;have hj0:=cw (J:=fun a _=>a=u.kids) (a:=()) f b;Kt 0 g<|Mx i<|Kp 4 (ihk c gR)<|K1 1 (.obj 3<|aZ 8 true 0<|List.map aV [c]) (congrArg (aZ 8 true 0)<|T3 (f:=aV) (g:=Go.Ev.eU) (ws:=[c]) aR)<|Kl 1 26 (dW a)<|K1 0 (.ren [0,1,3,2] [3] [1,2,3,15,16,17]) (tS 8 true 0<|aX iZ [c])<|M1 (.frz 3 [1,2,3,15,16,17]) (jQ (tR 8 true 0 3<|aX iZ [c]) rt rt ti)<|Mf<|e 0 1 [c]<|by(refine⟨rfl,by simp,?_,?_⟩<;>(rw[←hj0])<;>(first|rfl|grind))) (fun _ _ a b c _ _ _ d hj0=>let e:=List.map aV c;Kh 0 d<|Mg 0<|M2 (.fsl 2 [1,2] 27 e) (cj rt rt ti) (cj (aq a) (tA aV c b (oA:(c).length=b))<|aX iZ c)<|Ml 27 (eS e false<|aX iZ c)<|Kf 3 (aT (lc<|lc<|lc<|lc<|lc<|lc<|lc<|.cons (b6<|rr0 e) .nil)<|by kernel_rfl:Le _ (AV.agg [iV u.act,iV u.item,iV u.n,iV u.kind,AV.str u.label,AV.ls q2,AV.ls q1,AV.ls e]))) fun a _ b c d _ e f g _ i j l _ n _=>have n:=(n).trans<|congrArg some<|aR f;have hj0:=cw (J:=fun a b=>b.2.1=b.2.2.length∧(0:Nat)<b.2.2.length∧b.2.2++a=u.kids∧b.2.2.length+a.length=u.kids.length) (a:=(b,c,d)) j e;Kt 0 l<|Mx n<|Kp 4 (ihk f gR)<|K1 0 .app (cj (aq b) (sA:c=(d.map aV).length) (by(refine aN (m:=2^21) ?_ ?_ ?_<;>omega):small (c+1) 120=true))<|M1 (.obj 2<|aZ 8 true (b+1)<|(d++[f]).map aV) (congrArg (aZ 8 true<|b+1)<|yx (f:=aV) (g:=Go.Ev.eU) (l:=d) (ws:=[f]) aR)<|Kl 1 26 (dW a)<|K1 0 (.frz 3 [1,2,3,15,16,17]) (jQ (tR 8 true (b+1) 3<|aX iZ<|d++[f]) rt rt ti)<|Mf<|i (b+1) (c+1) (d++[f])<|by(refine⟨by simp_all,by simp,?_,?_⟩<;>first|(rw[←hj0.2.2.1];simp;done)|grind)
theorem XY(p:PId)(u:TUnit)(h:By (cV p u) true)(hn:nU u≤2^20)(ht:∀x,x∈bp u→x.head.length<2^30∧x.words.length<2^30):kP 62 [eU u,aY p] (.tuple [eU (ej p u),.bool true]):=by
  have hw:=Fj p u h hn
  have hlen:=l9 (p:=p) u
  have hpos:0<(aH p u).length:=pT.2 (kS h)
  have hm:ej p u∈bp u:=J5 u _ (Rx h)
  have hf:ej p u=gD (aH p u) ((aH p u).length -1):=by unfold ej;simp_all
  have hc:=Hn (ej p u) (bR (dL hm) hn) (fun x hx=>ht x (by
    grind[iL]))
  rw[hf]at hc ⊢
  have hz:=Ri hpos
  exact bC Tryz.func62<|Kp 5 hw<|Kl 2 11 (ln aV<|aH p u)<|Kh 0 hz<|Kl 2 16 (ln aV<|aH p u)<|Kl 0 17 (we (aH p u).length)<|Mx ((bZ aV (oA:(aH p u).length -1<(aH p u).length)).trans<|congrArg some<|aR _)<|Kp 0 hc<|Kf 1<|bd<|eV [az [iV (gD (aH p u)<|(aH p u).length -1).act,iV (gD (aH p u)<|(aH p u).length -1).item,iV (gD (aH p u)<|(aH p u).length -1).n,iV (gD (aH p u)<|(aH p u).length -1).kind,aK (gD (aH p u)<|(aH p u).length -1).label,aW<|List.map aQ (gD (aH p u)<|(aH p u).length -1).head,aW<|List.map aQ (gD (aH p u)<|(aH p u).length -1).words,aW<|List.map aV (gD (aH p u)<|(aH p u).length -1).kids],dF true]
theorem Xq(p:PId)(u:TUnit)(h:By (cV p u) false)(hn:nU u≤2^20):kP 62 [eU u,aY p] (.tuple [eU be,.bool false]):=by
  have hw:=J4 p u h hn
  exact bC Tryz.func62<|Kp 5 hw<|Kf 7 (eD<|.cons (aT (lc<|lc<|lc<|lc<|lc<|.cons bI<|.cons bI<|.cons bI .nil)<|by kernel_rfl)<|lc .nil:Le _ (eV [az [iV 0,iV 0,iV 0,iV 0,aK [],af,af,af],dF false]))
theorem Rz(p:PId)(u:TUnit)(hn:nU u≤2^20)(ht:∀x,x∈bp u→x.head.length<2^30∧x.words.length<2^30):kP 62 [eU u,aY p] (.tuple [eU (ej p u),.bool (cV p u)]):=by
  cases h:cV p u with
  |true=>grind[XY]
  | false=>
    have:=Xq p u h hn
    rwa[show be=ej p u by unfold ej;simp_all]at this
theorem LG(l m:List PStep)(hl:l.length<2^60)(hm:m.length<2^60):kP 201 [.ls (l.map aj),.ls (m.map aj)] (.bool (cE kK l m)):=by
  have rr0 b' (h:(cE kK l m)=b':=by first|exact mR eP hj0|exact lz eP|(rw[ib zd0 hr0 eP hj0];simp only[kK,aS,aw,bS, *];first|done|rfl)):=h;exact bC Tryz.func201<|Kl 2 7 (ln aj l)<|Kl 1 9 (ln aj m)<|Kc 0 (Int.ofNat l.length) (Int.ofNat m.length) (fun _ _=>Ky 0<|rr0 false) fun _ _=>Kl 1 12 (ln aj l)<|Mg 0<|tK aj l [0,1,12,13] (fun a _=>([aW<|l.map aj,aW<|m.map aj,nV l.length,nV a],[])) (fun a=>cE kK l m=cE kK a (m.drop<|l.length-a.length)) sA (fun _ _ zd0 _ hr0 a hj0=>Kh 0 a<|Ky 0<|rr0 true) fun a _ zd0 _ b c d hr0 e _ f hj0=>Kt 0 e<|Kx 3 f<|Kx 2 (bZ aj (sA:a<(m).length))<|Kv 0 (ym (d:=(Tryz.prog).underlying 126) (n:=2) (l:=(0,1)::(1,2)::[]) (xs:=[iV b.kind,aK b.label]) (ys:=[iV (gD m a).kind,aK (gD m a).label]) (H:=AHeap.mk 1000000 Tr.nil) rfl<|mN (e:=al b.kind (gD m a).kind) rfl rfl rfl<|As (e:=dS b.label (gD m a).label) rfl rfl rfl rfl)<|Mn (al b.kind (gD m a).kind &&dS b.label (gD m a).label) (fun _=>Kf 0<|ch<|rr0 false) fun _=>Kl 0 25 (dW a)<|Kf 0<|d<|by(rw[ib zd0 hr0 (by grind) hj0];simp only[kK,aS,aw,bS, *];first|done|rfl)
theorem yb(l m:List aO)(hl:l.length<2^60)(hm:m.length<2^60):kP 202 [.ls (l.map mS),.ls (m.map mS)] (.bool (cE dS l m)):=by
  have rr0 b' (h:(cE dS l m)=b':=by first|exact mR eP hj0|exact lz eP|(rw[ib zd0 hr0 eP hj0];simp only[aS,aw,bS, *];first|done|rfl)):=h;exact bC Tryz.func202<|Kl 2 7 (ln mS l)<|Kl 1 9 (ln mS m)<|Kc 0 (Int.ofNat l.length) (Int.ofNat m.length) (fun _ _=>Ky 0<|rr0 false) fun _ _=>Kl 1 12 (ln mS l)<|Mg 0<|tK mS l [0,1,12,13] (fun a _=>([aW<|l.map mS,aW<|m.map mS,nV l.length,nV a],[])) (fun a=>cE dS l m=cE dS a (m.drop<|l.length-a.length)) sA (fun _ _ zd0 _ hr0 a hj0=>Kh 0 a<|Ky 0<|rr0 true) fun a _ zd0 _ b c d hr0 e _ f hj0=>Kt 0 e<|Kx 3 f<|Kx 2 (bZ mS (sA:a<(m).length))<|Kn 1 (dS b<|gD m a) (fun _=>Kf 0<|ch<|rr0 false) fun _=>Kl 0 25 (dW a)<|Kf 0<|d<|by(rw[ib zd0 hr0 (by grind) hj0];simp only[aS,aw,bS, *];first|done|rfl)
theorem LF(l m:List PWord)(hl:l.length<2^60)(hm:m.length<2^60):kP 57 [.ls (l.map aQ),.ls (m.map aQ)] (.bool (cE DW l m)):=by
  have rr0 b' (h:(cE DW l m)=b':=by first|exact mR eP hj0|exact lz eP|(rw[ib zd0 hr0 eP hj0];simp only[DW,aS,aw,bS, *];first|done|rfl)):=h;exact bC Tryz.func57<|Kl 2 7 (ln aQ l)<|Kl 1 9 (ln aQ m)<|Kc 0 (Int.ofNat l.length) (Int.ofNat m.length) (fun _ _=>Ky 0<|rr0 false) fun _ _=>Kl 1 12 (ln aQ l)<|Mg 0<|tK aQ l [0,1,12,13] (fun a _=>([aW<|l.map aQ,aW<|m.map aQ,nV l.length,nV a],[])) (fun a=>cE DW l m=cE DW a (m.drop<|l.length-a.length)) sA (fun _ _ zd0 _ hr0 a hj0=>Kh 0 a<|Ky 0<|rr0 true) fun a _ zd0 _ b c d hr0 e _ f hj0=>Kt 0 e<|Kx 3 f<|Kx 2 (bZ aQ (sA:a<(m).length))<|Kv 0 (ym (d:=(Tryz.prog).underlying 102) (n:=4) (l:=(0,2)::(1,1)::(2,1)::(3,1)::[]) (xs:=[aK b.text,iV b.act,iV b.item,iV b.at_]) (ys:=[aK (gD m a).text,iV (gD m a).act,iV (gD m a).item,iV (gD m a).at_]) (H:=AHeap.mk 1000000 Tr.nil) rfl<|mN (e:=dS b.text (gD m a).text) rfl rfl rfl<|mN (e:=al b.act (gD m a).act) rfl rfl rfl<|mN (e:=al b.item (gD m a).item) rfl rfl rfl<|As (e:=al b.at_ (gD m a).at_) rfl rfl rfl rfl)<|Mn (dS b.text (gD m a).text &&(al b.act (gD m a).act &&(al b.item (gD m a).item &&al b.at_ (gD m a).at_))) (fun _=>Kf 0<|ch<|rr0 false) fun _=>Kl 0 25 (dW a)<|Kf 0<|d<|by(rw[ib zd0 hr0 (by grind) hj0];simp only[DW,aS,aw,bS, *];first|done|rfl)
theorem Xa(l m:List TUnit)(g:Nat)(q:TUnit→TUnit→Bool)(hp:∀a,a∈l→∀b,b∈m→kP g [eU a,eU b] (.bool (q a b)))(hl:l.length<2^60)(hm:m.length<2^60):kP 58 [.ls (l.map aV),.ls (m.map aV),.func (.func g) [] []] (.bool (cE q l m)):=by
  have rr0 b' (h:(cE q l m)=b':=by first|exact mR eP hj0|exact lz eP|(rw[ib zd0 hr0 eP hj0];simp only[aS,aw,bS, *];first|done|rfl)):=h;exact bC Tryz.func58<|Kl 2 11 (ln aV l)<|Kl 1 13 (ln aV m)<|Kc 0 (Int.ofNat l.length) (Int.ofNat m.length) (fun _ _=>Ky 0<|rr0 false) fun _ _=>Kl 1 16 (ln aV l)<|Mg 0<|tK aV l [1,2,15,16,17] (fun c _=>([aW<|m.map aV,bq (bU g) [] [],aW<|l.map aV,nV l.length,nV c],[])) (fun c=>cE q l m=cE q c (m.drop<|l.length-c.length)) sA (fun _ _ zd0 _ hr0 c hj0=>Kh 0 c<|Ky 0<|rr0 true) fun c _ zd0 _ d e f hr0 i _ j hj0=>have j:=j.trans<|congrArg some<|aR d;Kt 0 i<|Kx 0 j<|Kx 5 ((bZ aV (sA:c<(m).length)).trans<|congrArg some<|aR _)<|Kp 5 (hp d (by exact bQ zd0 hr0) (gD m c)<|by grind[fI])<|Kn 0 (q d<|gD m c) (fun _=>Kf 0<|ch<|rr0 false) fun _=>Kl 0 31 (dW c)<|K1 0 (.frz 0 [1,2,15,16,17]) ti<|Mf<|f<|by(rw[ib zd0 hr0 (by grind) hj0];simp only[aS,aw,bS, *];first|done|rfl)
theorem Xb(l m:List PItem)(g:Nat)(q:PItem→PItem→Bool)(hp:∀a,a∈l→∀b,b∈m→kP g [eI a,eI b] (.bool (q a b)))(hl:l.length<2^60)(hm:m.length<2^60):kP 203 [.ls (l.map N7),.ls (m.map N7),.func (.func g) [] []] (.bool (cE q l m)):=by
  have rr0 b' (h:(cE q l m)=b':=by first|exact mR eP hj0|exact lz eP|(rw[ib zd0 hr0 eP hj0];simp only[aS,aw,bS, *];first|done|rfl)):=h;exact bC Tryz.func203<|Kl 2 11 (ln N7 l)<|Kl 1 13 (ln N7 m)<|Kc 0 (Int.ofNat l.length) (Int.ofNat m.length) (fun _ _=>Ky 0<|rr0 false) fun _ _=>Kl 1 16 (ln N7 l)<|Mg 0<|tK N7 l [1,2,15,16,17] (fun c _=>([aW<|m.map N7,bq (bU g) [] [],aW<|l.map N7,nV l.length,nV c],[])) (fun c=>cE q l m=cE q c (m.drop<|l.length-c.length)) sA (fun _ _ zd0 _ hr0 c hj0=>Kh 0 c<|Ky 0<|rr0 true) fun c _ zd0 _ d e f hr0 i _ j hj0=>have j:=j.trans<|congrArg some<|eJ d;Kt 0 i<|Kx 0 j<|Kx 5 ((bZ N7 (sA:c<(m).length)).trans<|congrArg some<|eJ _)<|Kp 5 (hp d (by exact bQ zd0 hr0) (gD m c)<|by grind[fI])<|Kn 0 (q d<|gD m c) (fun _=>Kf 0<|ch<|rr0 false) fun _=>Kl 0 31 (dW c)<|K1 0 (.frz 0 [1,2,15,16,17]) ti<|Mf<|f<|by(rw[ib zd0 hr0 (by grind) hj0];simp only[aS,aw,bS, *];first|done|rfl)
theorem O7:∀(u:TUnit),pW u→∀v,pW v→kP 33 [eU u,eU v] (.bool (Ao u v)):=by
  refine TUnit.ind fun u ih hu v hv=>?_
  obtain⟨u1,u2,u3,u4⟩:=lU.1 hu
  obtain⟨v1,v2,v3,v4⟩:=lU.1 hv
  have hk:=Xa u.kids v.kids 33 Ao (fun a ha b hb=>ih a ha (u4 a ha) b (v4 b hb)) u3 v3
  have hh:=LF u.head v.head u1 v1
  have hw:=LF u.words v.words u2 v2
  have rr0 b' (h:(Ao u v)=b':=by(rw[Rd];simp only[bg,bz,bw,aS,aw,bS, *];first|done|rfl)):=h;exact bC Tryz.func33<|Kv 6 (lq ((Tryz.prog).underlying 34) u.act u.item u.n v.act v.item v.n<|ab [aZ 8 false 0 [az [iV u.act,iV u.item,iV u.n,iV u.kind,aK u.label,aW<|u.head.map aQ,aW<|u.words.map aQ,aW<|u.kids.map aV]],aZ 8 false 0 [az [iV v.act,iV v.item,iV v.n,iV v.kind,aK v.label,aW<|v.head.map aQ,aW<|v.words.map aQ,aW<|v.kids.map aV]]])<|Kb 0 (al u.act v.act&&(al u.item v.item&&al u.n v.n)) (fun c=>Kt 0 c<|Kt 0 c<|Kt 0 c<|Kt 0 c<|Ku 0 c<|Kb 0 (al u.kind v.kind) (fun c=>Kt 0 c<|Kt 0 c<|Kt 0 c<|Kt 0 c<|Ku 0 c<|Kb 0 (dS u.label v.label) (fun c=>Kt 0 c<|Kt 0 c<|Kt 0 c<|Kt 0 c<|Mp hh<|MV c<|Kb 0 (cE DW u.head v.head) (fun c=>Kt 0 c<|Kt 0 c<|Kt 0 c<|Kt 0 c<|Mp hw<|MV c<|Kb 0 (cE DW u.words v.words) (fun c=>Kt 0 c<|Kt 0 c<|Kt 0 c<|Kt 0 c<|Mp hk<|MV c<|Kf 0<|ch<|rr0<|cE Ao u.kids v.kids) fun c=>Mh c<|Mh c<|Mh c<|Mh c<|My c<|Ky 0<|rr0 false) fun c=>Mh c<|Mh c<|Mh c<|Mh c<|My c<|Ky 2<|rr0 false) fun c=>Mh c<|Mh c<|Mh c<|Mh c<|My c<|Ky 4<|rr0 false) fun c=>Mh c<|Mh c<|Mh c<|Mh c<|My c<|Ky 6<|rr0 false) fun c=>Mh c<|Mh c<|Mh c<|Mh c<|My c<|Ky 8<|rr0 false
def Uk(u:PItem)(v:PItem)(N:Bool)(z5:Bool):Prop:=z5=N
noncomputable def Uj(u:PItem)(v:PItem)(N:Bool)(z5:Bool):List AV×List AObj:=([AV.ptr 0 0 0 0,AV.ptr 1 0 0 0,AV.bool z5],[AObj.row 25 false 0 [AV.agg [iV u.kind,AV.ls (u.at_.map aj),AV.ls (u.to.map aj),iV u.where_,iV u.nth_,iV u.unit.act,iV u.unit.item,iV u.unit.n,iV u.unit.kind,AV.str u.unit.label,AV.ls (u.unit.head.map aQ),AV.ls (u.unit.words.map aQ),AV.ls (u.unit.kids.map aV),AV.ls (u.old.map mS),AV.ls (u.new.map mS),AV.str u.label,AV.str u.for_,iV u.start.kind,iV u.start.day,AV.str u.start.event,iV u.act,iV u.item,iV u.day,AV.str u.event,AV.ls (u.by_.map N7)]],AObj.row 25 false 0 [AV.agg [iV v.kind,AV.ls (v.at_.map aj),AV.ls (v.to.map aj),iV v.where_,iV v.nth_,iV v.unit.act,iV v.unit.item,iV v.unit.n,iV v.unit.kind,AV.str v.unit.label,AV.ls (v.unit.head.map aQ),AV.ls (v.unit.words.map aQ),AV.ls (v.unit.kids.map aV),AV.ls (v.old.map mS),AV.ls (v.new.map mS),AV.str v.label,AV.str v.for_,iV v.start.kind,iV v.start.day,AV.str v.start.event,iV v.act,iV v.item,iV v.day,AV.str v.event,AV.ls (v.by_.map N7)]]])
def Ux(u:PItem)(v:PItem)(T:Bool)(z5:Bool)(z6:Bool):Prop:=z6=T
noncomputable def Uz(u:PItem)(v:PItem)(T:Bool)(z5:Bool)(z6:Bool):List AV×List AObj:=([AV.ptr 0 0 0 0,AV.ptr 1 0 0 0,AV.bool z5,AV.bool z6],[AObj.row 25 false 0 [AV.agg [iV u.kind,AV.ls (u.at_.map aj),AV.ls (u.to.map aj),iV u.where_,iV u.nth_,iV u.unit.act,iV u.unit.item,iV u.unit.n,iV u.unit.kind,AV.str u.unit.label,AV.ls (u.unit.head.map aQ),AV.ls (u.unit.words.map aQ),AV.ls (u.unit.kids.map aV),AV.ls (u.old.map mS),AV.ls (u.new.map mS),AV.str u.label,AV.str u.for_,iV u.start.kind,iV u.start.day,AV.str u.start.event,iV u.act,iV u.item,iV u.day,AV.str u.event,AV.ls (u.by_.map N7)]],AObj.row 25 false 0 [AV.agg [iV v.kind,AV.ls (v.at_.map aj),AV.ls (v.to.map aj),iV v.where_,iV v.nth_,iV v.unit.act,iV v.unit.item,iV v.unit.n,iV v.unit.kind,AV.str v.unit.label,AV.ls (v.unit.head.map aQ),AV.ls (v.unit.words.map aQ),AV.ls (v.unit.kids.map aV),AV.ls (v.old.map mS),AV.ls (v.new.map mS),AV.str v.label,AV.str v.for_,iV v.start.kind,iV v.start.day,AV.str v.start.event,iV v.act,iV v.item,iV v.day,AV.str v.event,AV.ls (v.by_.map N7)]]])
def QL(u:PItem)(v:PItem)(R:Bool)(z5:Bool)(z6:Bool)(z7:Bool):Prop:=z7=R
noncomputable def QI(u:PItem)(v:PItem)(R:Bool)(z5:Bool)(z6:Bool)(z7:Bool):List AV×List AObj:=([AV.ptr 0 0 0 0,AV.ptr 1 0 0 0,AV.bool z5,AV.bool z6,AV.bool z7],[AObj.row 25 false 0 [AV.agg [iV u.kind,AV.ls (u.at_.map aj),AV.ls (u.to.map aj),iV u.where_,iV u.nth_,iV u.unit.act,iV u.unit.item,iV u.unit.n,iV u.unit.kind,AV.str u.unit.label,AV.ls (u.unit.head.map aQ),AV.ls (u.unit.words.map aQ),AV.ls (u.unit.kids.map aV),AV.ls (u.old.map mS),AV.ls (u.new.map mS),AV.str u.label,AV.str u.for_,iV u.start.kind,iV u.start.day,AV.str u.start.event,iV u.act,iV u.item,iV u.day,AV.str u.event,AV.ls (u.by_.map N7)]],AObj.row 25 false 0 [AV.agg [iV v.kind,AV.ls (v.at_.map aj),AV.ls (v.to.map aj),iV v.where_,iV v.nth_,iV v.unit.act,iV v.unit.item,iV v.unit.n,iV v.unit.kind,AV.str v.unit.label,AV.ls (v.unit.head.map aQ),AV.ls (v.unit.words.map aQ),AV.ls (v.unit.kids.map aV),AV.ls (v.old.map mS),AV.ls (v.new.map mS),AV.str v.label,AV.str v.for_,iV v.start.kind,iV v.start.day,AV.str v.start.event,iV v.act,iV v.item,iV v.day,AV.str v.event,AV.ls (v.by_.map N7)]]])
theorem sS:∀(u:PItem),nZ u→∀v,nZ v→kP 139 [eI u,eI v] (.bool (Em u v)):=by
  refine PItem.ind fun u ih hu v hv=>?_
  obtain⟨u1,u2,u3,u4,u5,u6,u7⟩:=qB.1 hu
  obtain⟨v1,v2,v3,v4,v5,v6,v7⟩:=qB.1 hv
  have hk:=Xb u.by_ v.by_ 139 Em (fun a ha b hb=>ih a ha (u7 a ha) b (v7 b hb)) u5 v5
  have h1:=LG u.at_ v.at_ u1 v1
  have h2:=LG u.to v.to u2 v2
  have h3:=yb u.old v.old u3 v3
  have h4:=yb u.new v.new u4 v4
  have h5:=O7 u.unit u6 v.unit v6
  rw[UD]
  generalize hN:(al u.kind v.kind&&(al u.where_ v.where_&&(al u.nth_ v.nth_&&(al u.act v.act&&(al u.item v.item&&al u.day v.day)))))=N
  generalize hT:(dS u.label v.label&&(dS u.for_ v.for_&&(dS u.event v.event&&(al u.start.kind v.start.kind&&(al u.start.day v.start.day&&dS u.start.event v.start.event)))))=T
  generalize hR:(cE kK u.at_ v.at_&&(cE kK u.to v.to&&(cE dS u.old v.old&&cE dS u.new v.new)))=R
  have rr0 b' (h:(N&&(T&&(R&&(Ao u.unit v.unit&&cE Em u.by_ v.by_))))=b':=by(subst hz5;subst hz6;subst hz7;clear hN hT hR;simp only[aS,aw,bS, *];first|done|rfl)):=h;exact bC Tryz.func139<|Mg 2<|Mj Bool [2,3,5] (Uj u v N) (Uk u v N) (fun c=>Kb 5 (al u.kind v.kind) (fun d=>Kt 0 d<|Kt 0 d<|Kt 0 d<|Kt 0 d<|Ku 0 d<|Kb 0 (al u.where_ v.where_) (fun d=>Kt 0 d<|Kt 0 d<|Kt 0 d<|Kt 0 d<|Ku 0 d<|Kb 0 (al u.nth_ v.nth_) (fun d=>Kt 0 d<|Kt 0 d<|Kt 0 d<|Kt 0 d<|Ku 0 d<|Kb 0 (al u.act v.act) (fun d=>Kt 0 d<|Kt 0 d<|Kt 0 d<|Kt 0 d<|Ku 0 d<|Kb 0 (al u.item v.item) (fun d=>Kt 0 d<|Kt 0 d<|Kt 0 d<|Kt 0 d<|Ku 0 d<|Kf 0<|c (al u.day v.day) (by(rw[←hN];simp only[bw,aS,aw,bS, *];first|done|rfl):al u.day v.day=N)) fun d=>Mh d<|Mh d<|Mh d<|Mh d<|My d<|Kf 0<|c false (by(rw[←hN];simp only[bw,aS,aw,bS, *];first|done|rfl):false=N)) fun d=>Mh d<|Mh d<|Mh d<|Mh d<|My d<|Kf 2<|c false (by(rw[←hN];simp only[bw,aS,aw,bS, *];first|done|rfl):false=N)) fun d=>Mh d<|Mh d<|Mh d<|Mh d<|My d<|Kf 4<|c false (by(rw[←hN];simp only[bw,aS,aw,bS, *];first|done|rfl):false=N)) fun d=>Mh d<|Mh d<|Mh d<|Mh d<|My d<|Kf 6<|c false (by(rw[←hN];simp only[bw,aS,aw,bS, *];first|done|rfl):false=N)) fun d=>Mh d<|Mh d<|Mh d<|Mh d<|My d<|Kf 8<|c false (by(rw[←hN];simp only[bw,aS,aw,bS, *];first|done|rfl):false=N)) fun c hz5=>have hz5:=hz5;Mj Bool [2,3,5,6] (Uz u v T c) (Ux u v T c) (fun c=>Kb 5 (dS u.label v.label) (fun d=>Kt 0 d<|Kt 0 d<|Kt 0 d<|Kt 0 d<|Ku 0 d<|Kb 0 (dS u.for_ v.for_) (fun d=>Kt 0 d<|Kt 0 d<|Kt 0 d<|Kt 0 d<|Ku 0 d<|Kb 0 (dS u.event v.event) (fun d=>Kt 0 d<|Kt 0 d<|Kt 0 d<|Kt 0 d<|Mv (EP (d:=(Tryz.prog).underlying 59) (n:=3) (l:=(0,1)::(1,1)::(2,2)::[]) (xs:=[iV u.start.kind,iV u.start.day,aK u.start.event]) (ys:=[iV v.start.kind,iV v.start.day,aK v.start.event]) (H:=ab [aZ 25 false 0 [az [iV u.kind,aW<|u.at_.map aj,aW<|u.to.map aj,iV u.where_,iV u.nth_,iV u.unit.act,iV u.unit.item,iV u.unit.n,iV u.unit.kind,aK u.unit.label,aW<|u.unit.head.map aQ,aW<|u.unit.words.map aQ,aW<|u.unit.kids.map aV,aW<|u.old.map mS,aW<|u.new.map mS,aK u.label,aK u.for_,iV u.start.kind,iV u.start.day,aK u.start.event,iV u.act,iV u.item,iV u.day,aK u.event,aW<|u.by_.map N7]],aZ 25 false 0 [az [iV v.kind,aW<|v.at_.map aj,aW<|v.to.map aj,iV v.where_,iV v.nth_,iV v.unit.act,iV v.unit.item,iV v.unit.n,iV v.unit.kind,aK v.unit.label,aW<|v.unit.head.map aQ,aW<|v.unit.words.map aQ,aW<|v.unit.kids.map aV,aW<|v.old.map mS,aW<|v.new.map mS,aK v.label,aK v.for_,iV v.start.kind,iV v.start.day,aK v.start.event,iV v.act,iV v.item,iV v.day,aK v.event,aW<|v.by_.map N7]]]) rfl<|mN (e:=al u.start.kind v.start.kind) rfl rfl rfl<|mN (e:=al u.start.day v.start.day) rfl rfl rfl<|As (e:=dS u.start.event v.start.event) rfl rfl rfl rfl)<|MV d<|Kf 0<|c (al u.start.kind v.start.kind&&(al u.start.day v.start.day&&dS u.start.event v.start.event)) (by(rw[←hT];simp only[bw,aS,aw,bS, *];first|done|rfl):(al u.start.kind v.start.kind&&(al u.start.day v.start.day&&dS u.start.event v.start.event))=T)) fun d=>Mh d<|Mh d<|Mh d<|Mh d<|My d<|Kf 0<|c false (by(rw[←hT];simp only[bw,aS,aw,bS, *];first|done|rfl):false=T)) fun d=>Mh d<|Mh d<|Mh d<|Mh d<|My d<|Kf 2<|c false (by(rw[←hT];simp only[bw,aS,aw,bS, *];first|done|rfl):false=T)) fun d=>Mh d<|Mh d<|Mh d<|Mh d<|My d<|Kf 4<|c false (by(rw[←hT];simp only[bw,aS,aw,bS, *];first|done|rfl):false=T)) fun d hz6=>have hz6:=hz6;Mj Bool [2,3,5,6,7] (QI u v R c d) (QL u v R c d) (fun c=>Kp 3 h1<|Kb 0 (cE kK u.at_ v.at_) (fun d=>Kt 0 d<|Kt 0 d<|Kt 0 d<|Kt 0 d<|Mp h2<|MV d<|Kb 0 (cE kK u.to v.to) (fun d=>Kt 0 d<|Kt 0 d<|Kt 0 d<|Kt 0 d<|Mp h3<|MV d<|Kb 0 (cE dS u.old v.old) (fun d=>Kt 0 d<|Kt 0 d<|Kt 0 d<|Kt 0 d<|Mp h4<|MV d<|Kf 0<|c (cE dS u.new v.new) (by(rw[←hR];simp only[bw,aS,aw,bS, *];first|done|rfl):cE dS u.new v.new=R)) fun d=>Mh d<|Mh d<|Mh d<|Mh d<|My d<|Kf 0<|c false (by(rw[←hR];simp only[bw,aS,aw,bS, *];first|done|rfl):false=R)) fun d=>Mh d<|Mh d<|Mh d<|Mh d<|My d<|Kf 2<|c false (by(rw[←hR];simp only[bw,aS,aw,bS, *];first|done|rfl):false=R)) fun d=>Mh d<|Mh d<|Mh d<|Mh d<|My d<|Kf 4<|c false (by(rw[←hR];simp only[bw,aS,aw,bS, *];first|done|rfl):false=R)) fun e hz7=>have hz7:=hz7;Kb 1 c (fun c=>Ku 0 c<|Kb 0 d (fun c=>Ku 0 c<|Kb 0 e (fun c=>Kt 0 c<|Kt 0 c<|Kt 0 c<|Kt 0 c<|Mp h5<|MV c<|Kb 0 (Ao u.unit v.unit) (fun c=>Kt 0 c<|Kt 0 c<|Kt 0 c<|Kt 0 c<|Mp hk<|MV c<|Kf 0<|ch<|rr0<|cE Em u.by_ v.by_) fun c=>Mh c<|Mh c<|Mh c<|Mh c<|My c<|Ky 0<|rr0 false) fun c=>Mh c<|Mh c<|Mh c<|Mh c<|My c<|Ky 2<|rr0 false) fun c=>My c<|Ky 4<|rr0 false) fun c=>My c<|Ky 6<|rr0 false
theorem Oy(a b:Int)(s:aO)(n:Bool)(hn:kP 137 [.str s] (.bool n)):kP 138 [.agg [iV a,iV b,.str s]] (.bool (rp n ⟨a,b,s⟩)):=by
  have rr0 b' (h:(rp n (PStart.mk a b s))=b':=by(simp only[rp,aS,aw,bS, *];first|done|rfl)):=h;exact bC Tryz.func138<|Kb 5 (al a 0) (fun c=>Mt c<|Kb 3 (al b 0) (fun c=>Kt 0 c<|Kt 0 c<|Ku 0 c<|Kf 0<|ch<|rr0<|dS s (ByteArray.mk #[]).data.toList) fun c=>Mh c<|Mh c<|My c<|Ky 0<|rr0 false) fun _=>Kb 1 (al a 2) (fun _=>Kb 3 (al b 0) (fun c=>Kt 0 c<|Kt 0 c<|Ku 0 c<|Kf 0<|ch<|rr0<|dS s (ByteArray.mk #[]).data.toList) fun c=>Mh c<|Mh c<|My c<|Ky 0<|rr0 false) fun _=>Kb 1 (al a 1) (fun _=>Kp 1 (vz b 0 1048576)<|Kb 0 (aw (au b 0)&&aw (au 1048576 b)) (fun c=>Kt 0 c<|Kt 0 c<|Ku 0 c<|Kf 0<|ch<|rr0<|dS s (ByteArray.mk #[]).data.toList) fun c=>Mh c<|Mh c<|My c<|Ky 0<|rr0 false) fun _=>Kb 1 (al a 3) (fun _=>Kb 3 (al b 0) (fun c=>Kt 0 c<|Kt 0 c<|Mp hn<|MV c<|Ky 0<|rr0 n) fun c=>Mh c<|Mh c<|My c<|Ky 0<|rr0 false) fun _=>Ky 0<|rr0 false
theorem O2(n:Int):kP 176 [iV n] (.bool (aw (au n 0)&&aw (au 3 n))):=by
  exact bC Tryz.func176<|Kp 1 (vz n 0 3)<|Kf 0<|bd<|dF<|aw (au n 0)&&aw (au 3 n)
theorem S8(l:List aO)(n:Int)(hl:l.length<2^40)(hs:∀s,s∈l→s.length≤2^39):kP 182 [.ls (l.map mS),iV n] (.bool (qk l&&aw (au (.ofNat l.length) n))):=by
  have h:=KP l hl hs
  have rr0 b' (h:(qk l&&aw (au (Int.ofNat l.length) n))=b':=by(simp only[aS,aw,bS, *];first|done|rfl)):=h;exact bC Tryz.func182<|Kp 1 h<|Kb 0 (qk l) (fun a=>Kt 0 a<|Kl 0 9 (ln mS l)<|Mt a<|Kt 0 a<|Ku 0 a<|Kf 0<|ch<|rr0<|aw<|au (Int.ofNat l.length) n) fun a=>Mh a<|Mh a<|Mh a<|My a<|Ky 0<|rr0 false
theorem Wh(x:PItem):kP 183 [eI x] (.bool (aw (au x.nth_ 0)&&aw (au 256 x.nth_))):=by
  exact bC Tryz.func183<|Kp 3 (vz x.nth_ 0 256)<|Kf 0<|bd<|dF<|aw (au x.nth_ 0)&&aw (au 256 x.nth_)
theorem S1(s:aO)(hs:s.length≤2^39):kP 200 [.str s,.str [97,98,99,100,101,102,103,104,105,106,107,108,109,110,111,112,113,114,115,116,117,118,119,120,121,122,48,49,50,51,52,53,54,55,56,57,45]] (.str (Lib.trimS s [97,98,99,100,101,102,103,104,105,106,107,108,109,110,111,112,113,114,115,116,117,118,119,120,121,122,48,49,50,51,52,53,54,55,56,57,45])):=MD (Go.Proofs.enters_of Tryz.func200 (by kernel_rfl) rfl) (fun a b c d e f=>Go.Proofs.Any.strings_Trim_laid Go.Proofs.Tryz.ltrim (by kernel_rfl) a b c d e f) s _ oA (by decide)<|by decide
theorem C0(s:aO)(hs:s.length≤2^39):kP 137 [.str s] (.bool (D9 s)):=by
  have h:=S1 s hs
  have rr0 b' (h:(D9 s)=b':=by(simp only[D9,aS,aw,bS, *];first|done|rfl)):=h;exact bC Tryz.func137<|Ka 4 (Int.ofNat<|List.length s) 1 (fun a _=>Mt a<|Mt a<|MV a<|Ky 5<|rr0 false) fun a _=>Kh 0 a<|Kh 0 a<|Kw 0 a<|Ka 0 16 (Int.ofNat<|List.length s) (fun a _=>Mt a<|Mt a<|MV a<|Ky 3<|rr0 false) fun a _=>Kh 0 a<|M1 (.chr<|gD s 0) (zn (gR:0<(s).length))<|Mh a<|Kw 0 a<|Ka 0 (Int.ofNat (gD s 0).toNat) 97 (fun a _=>Mt a<|Mt a<|MV a<|Ky 1<|rr0 false) fun a _=>Kh 0 a<|M1 (.chr<|gD s 0) (zn (gR:0<(s).length))<|Mh a<|Kw 0 a<|Mb (au 122<|Int.ofNat (gD s 0).toNat) (fun a=>have:=an a;Ky 0<|rr0 false) fun a=>have:=aF a;Kp 0 h<|Kf 1<|ch<|rr0<|dS (Lib.trimS s<|have a:=have a:=have a:=[54,55,56,57,45];49::50::51::52::53::a;have a:=119::120::121::122::48::a;115::116::117::118::a;have a:=have a:=110::111::112::113::114::a;106::107::108::109::a;have a:=101::102::103::104::105::a;97::98::99::100::a) (ByteArray.mk #[]).data.toList
noncomputable def qU(x:PWord):Bool:=aw (au 100 (.ofNat x.text.length))
noncomputable def mn(ws:List PWord):Bool:=ws.all qU&&aw (au 300 (.ofNat ws.length))
theorem Gl(x:Int):kP 80 [iV x] (.bool false):=by
  have rr0 b' (h:(false)=b':=by simp[bw]):=h;exact wk Tryz.func80 (.go 4 .fin)<|ch<|rr0<|aw<|al x x
theorem pw(x y:Int):kP 66 [iV x,iV y] (iV (jj x y)):=by
  have rr0 b' (h:(jj x y)=b':=by simp[jj, *]):=h;exact bC Tryz.func66<|Kp 1 (Gl x)<|Kp 1 (Gl y)<|Kb 7 (au x y) (fun _=>Kf 0<|li<|rr0 (-1)) fun _=>Kb 2 (au y x) (fun _=>Kf 0<|li<|rr0 1) fun _=>Kf 0<|li<|rr0 0
theorem FA(ws:List PWord)(hl:ws.length<2^60):kP 141 [.ls (ws.map aQ)] (.bool (mn ws)):=by
  have rr0 b' (h:(mn ws)=b':=by simp only[mn,qU,aS,aw,bS, *]):=h;exact bC Tryz.func141<|Mg 1<|tK aQ ws [0,3] (fun a _=>([aW<|ws.map aQ,nV a],[])) (fun a=>ws.all qU=a.all qU) (by rfl) (fun _ _ _ _ _ a _=>Kl 2 6 (ln aQ ws)<|Kh 0 a<|Kl 1 18 (ln aQ ws)<|Kf 1<|ch<|rr0<|aw<|au 300<|Int.ofNat ws.length) fun a _ _ _ b c d _ e _ f _=>Kl 2 6 (ln aQ ws)<|Kt 0 e<|Kx 1 f<|Ka 3 100 (Int.ofNat<|List.length b.text) (fun _ _=>Ky 0<|rr0 false) fun _ _=>Kl 1 9 (dW a)<|Kf 0<|d<|by simp_all[qU]
mutual
noncomputable def kn:TUnit→Bool
  |⟨_,_,_,_,label,h,w,kids⟩=>aw (au 30 (.ofNat label.length))&&mn h&&mn w&&yB kids
noncomputable def yB:List TUnit→Bool
  |[]=>true
  |u::r=>kn u&&yB r
end
theorem Cq:∀(l:List TUnit),yB l=l.all kn
  |[]=>by rw[yB];rfl
  |u::r=>by rw[yB,Cq r];rfl
theorem Cz(u:TUnit):kn u=(aw (au 30 (.ofNat u.label.length))&&mn u.head&&mn u.words&&u.kids.all kn):=by
  obtain⟨a,b,c,d,e,f,g,h⟩:=u
  rw[kn,Cq];rfl
theorem OL:∀(u:TUnit),pW u→kP 109 [eU u] (.bool (kn u)):=by
  refine TUnit.ind fun u ih hf=>?_
  obtain⟨f1,f2,f3,f4⟩:=lU.1 hf
  have rr0 b' (h:(kn u)=b':=by rw[Cz];simp only[aS,aw,bS, *]):=h;exact bC Tryz.func109<|Ka 6 30 (Int.ofNat<|List.length u.label) (fun a _=>Mt a<|Mt a<|Mt a<|MV a<|Ky 3<|rr0 false) fun a _=>Kh 0 a<|Kh 0 a<|Mp (FA u.head f1)<|Mh a<|Kw 0 a<|Kn 0 (mn u.head) (fun a=>Mt (bO a)<|Mt (bO a)<|Mt (bO a)<|MV (bO a)<|Ky 1<|rr0 false) fun a=>Kh 0 (bN a)<|Kh 0 (bN a)<|Mp (FA u.words f2)<|Mh (bN a)<|Kw 0 (bN a)<|Mn (mn u.words) (fun _=>Ky 0<|rr0 false) fun _=>K1 0 (.frz 0 [1,3]) ti<|tK aV u.kids [1,3] (fun a _=>([AV.pptr [az [iV u.act,iV u.item,iV u.n,iV u.kind,aK u.label,aW<|u.head.map aQ,aW<|u.words.map aQ,aW<|u.kids.map aV]] 0 0,nV a],[])) (fun a=>u.kids.all kn=a.all kn) (by rfl) (fun _ _ _ _ _ a _=>Kl 3 23 (ln aV u.kids)<|Kh 0 a<|Ky 0<|rr0 true) fun a _ b _ c d e f g _ i _=>have i:=i.trans<|congrArg some<|aR c;Kl 3 23 (ln aV u.kids)<|Kt 0 g<|Kx 2 i<|Kp 0 (ih c (by exact bQ b f)<|by exact f4 _ (bQ b f))<|Kn 0 (kn c) (fun _=>Kf 0<|ch<|rr0 false) fun _=>Kl 1 26 (dW a)<|Kf 0<|e sA
mutual
noncomputable def mh:TUnit→Int→Int→Int
  |⟨_,_,_,_,_,_,_,kids⟩,deep,most=>match au 20 deep with|true=>most+1|false=>ml kids deep most 1
noncomputable def ml:List TUnit→Int→Int→Int→Int
  |[],_,_,n=>n
  |k::r,deep,most,n=>match au most n with|true=>n|false=>ml r deep most (n+mh k (deep+1) (most-n))
end
theorem Pg(u:TUnit)(deep most:Int):mh u deep most=match au 20 deep with|true=>most+1|false=>ml u.kids deep most 1:=by
  obtain⟨a,b,c,d,e,f,g,h⟩:=u;rw[mh];rfl
mutual
theorem Ft:∀(u:TUnit)(deep most:Int),0≤most→1≤mh u deep most∧mh u deep most≤most+1
  | ⟨_,_,_,_,_,_,_,kids⟩,deep,most,h=>by
    rw[mh]
    split
    · omega
    · exact Fu kids deep most 1 (by omega) (by omega)
theorem Fu:∀(l:List TUnit)(deep most n:Int),1≤n→n≤most+1→1≤ml l deep most n∧ml l deep most n≤most+1
  |[],_,_,n,h1,h2=>by grind[ml]
  | k::r,deep,most,n,h1,h2=>by
    rw[ml]
    split
    · omega
    · rename_i h
      have:=aF h
      have:=Ft k (deep+1) (most-n) (by omega)
      exact Fu r deep most _ (by omega) (by omega)
end
theorem TZ:∀(u:TUnit),pW u→∀(deep most:Int),0≤deep→deep≤21→0≤most→most≤2^20→kP 108 [eU u,iV deep,iV most] (iV (mh u deep most)):=by
  refine TUnit.ind fun u ih hf deep most d1 d2 m1 m2=>?_
  obtain⟨f1,f2,f3,f4⟩:=lU.1 hf
  have rr0 b' (h:(mh u deep most)=b':=by rw[Pg];simp only[ml,aS,aw,bS, *]):=h;exact bC Tryz.func108<|Ka 3 20 deep (fun _ _=>Kl 1 12 (Le.wr (x:=most+1) eP)<|Kf 0<|li<|rr0<|most+1) fun _ _=>K1 1 (.frz 0 [1,2,3,7,8]) ti<|JI aV u.kids (1:Int) [1,2,3,7,8] (fun a _ b=>([iV deep,iV most,AV.pptr [az [iV u.act,iV u.item,iV u.n,iV u.kind,aK u.label,aW<|u.head.map aQ,aW<|u.words.map aQ,aW<|u.kids.map aV]] 0 0,iV b,nV a],[])) (fun a b=>(1:Int)≤b∧b≤most+(1:Int)∧ml u.kids deep most (1:Int)=ml a deep most b) oA (fun _ _ a _ _ _ b _=>Kl 3 16 (ln aV u.kids)<|Kh 1 b<|Mh b<|Mh b<|My b<|Kf 2<|li<|rr0 a) fun a _ b c _ d e f g i _ j _=>have j:=j.trans<|congrArg some<|aR d;Kl 3 16 (ln aV u.kids)<|Kt 1 i<|Kt 0 i<|Kt 0 i<|Ku 0 i<|Mn (au most b) (fun i=>have:=aF i;Kx 3 j<|Kl 2 32 (Le.wr (x:=deep+1) eP)<|Kl 2 35 (Le.wr (x:=most-b) eP)<|Mp (ih d (by exact bQ c g) (by exact f4 _ (bQ c g)) (deep+1) (most-b) oA oA oA oA)<|have:=Ft d (deep+1) (most-b) oA;Kl 0 37 (Le.wr (x:=b+mh d (deep+1) (most-b)) eP)<|Kl 2 24 (dW a)<|Kf 0<|f (b+mh d (deep+1) (most-b))<|by(refine⟨by omega,by omega,?_⟩;first|rfl|grind[ml])) fun a=>have:=an a;Kf 1<|li<|rr0 b
noncomputable def HJ(u:TUnit)(most:Int):Bool:=aw (au most (mh u 0 most))&&kn u
theorem Ut(u:TUnit)(most:Int)(hf:pW u)(m1:0≤most)(m2:most≤2^20):kP 75 [eU u,iV most] (.bool (HJ u most)):=by
  have rr0 b' (h:(HJ u most)=b':=by simp only[HJ,aS,aw,bS, *]):=h;exact bC Tryz.func75<|Kp 3 (TZ u hf 0 most oA oA m1 m2)<|Kn 2 (au most<|mh u 0 most) (fun a=>Kt 0 (bO a)<|Mp (OL u hf)<|MV (bO a)<|Kf 0<|ch<|rr0<|kn u) fun a=>Mh (bN a)<|My (bN a)<|Ky 0<|rr0 false
noncomputable def xt(s:aO):Bool:=aw (au 100 (.ofNat s.length))
noncomputable def xr(s:PStep):Bool:=aw (au 100 (.ofNat s.label.length))
noncomputable def yy(x:PItem):Bool:=
  aw (au 12 (.ofNat x.at_.length))&&aw (au 12 (.ofNat x.to.length))&&aw (au 300 (.ofNat x.old.length))&&aw (au 300 (.ofNat x.new.length))&&aw (au 100 (.ofNat x.label.length))&&aw (au 100 (.ofNat x.for_.length))
  &&aw (au 100 (.ofNat x.start.event.length))&&aw (au 100 (.ofNat x.event.length))&&aw (au 2 (.ofNat x.by_.length))&&HJ x.unit 30
noncomputable def Hi(y:PItem):Bool:=au 0 (.ofNat y.by_.length)&&au 0 (.ofNat (gD y.by_ 0).by_.length)
mutual
noncomputable def mL:PItem→Bool
  |⟨k,a,t,w,nn,u,o,n,lb,fo,st,ac,it,dy,ev,by_⟩=>yy ⟨k,a,t,w,nn,u,o,n,lb,fo,st,ac,it,dy,ev,by_⟩&&(o.all xt&&(n.all xt&&(a.all xr&&(t.all xr&&HV by_))))
noncomputable def HV:List PItem→Bool
  |[]=>true
  |u::r=>(aw (Hi u)&&mL u)&&HV r
end
noncomputable def HH(y:PItem):Bool:=aw (Hi y)&&mL y
theorem HK:∀(l:List PItem),HV l=l.all HH
  |[]=>by rw[HV];rfl
  |u::r=>by rw[HV,HK r];rfl
theorem Ei(x:PItem):mL x=(yy x&&(x.old.all xt&&(x.new.all xt&&(x.at_.all xr&&(x.to.all xr&&x.by_.all HH))))):=by
  obtain⟨k,a,t,w,nn,u,o,n,lb,fo,st,ac,it,dy,ev,by_⟩:=x
  rw[mL,HK];rfl
theorem Uu:∀(x:PItem),nZ x→kP 61 [eI x] (.bool (mL x)):=by
  refine PItem.ind fun x ih hf=>?_
  obtain⟨f1,f2,f3,f4,f5,f6,f7⟩:=qB.1 hf
  have hu:kP 75 [eU x.unit,iV 30] (.bool (HJ x.unit 30)):=Ut x.unit 30 f6 (by omega) (by omega)
  have rr0 b' (h:(mL x)=b':=by rw[Ei,yy];simp only[HH,Hi,xt,xr,aS,aw,bS, *]):=h;exact bC Tryz.func61<|Kl 4 10 (ln aj x.at_)<|Ka 1 12 (Int.ofNat x.at_.length) (fun a _=>Mt a<|Mt a<|Mt a<|MV a<|Ky 17<|rr0 false) fun a _=>Kh 0 a<|Kh 0 a<|Kl 0 15 (ln aj x.to)<|Mh a<|Kw 0 a<|Ka 0 12 (Int.ofNat x.to.length) (fun a _=>Mt a<|Mt a<|Mt a<|MV a<|Ky 15<|rr0 false) fun a _=>Kh 0 a<|Kh 0 a<|Kl 0 21 (ln mS x.old)<|Mh a<|Kw 0 a<|Ka 0 300 (Int.ofNat x.old.length) (fun a _=>Mt a<|Mt a<|Mt a<|MV a<|Ky 13<|rr0 false) fun a _=>Kh 0 a<|Kh 0 a<|Kl 0 27 (ln mS x.new)<|Mh a<|Kw 0 a<|Ka 0 300 (Int.ofNat x.new.length) (fun a _=>Mt a<|Mt a<|Mt a<|MV a<|Ky 11<|rr0 false) fun a _=>Kh 0 a<|Kh 0 a<|Kh 0 a<|Kw 0 a<|Ka 0 100 (Int.ofNat<|List.length x.label) (fun a _=>Mt a<|Mt a<|Mt a<|MV a<|Ky 9<|rr0 false) fun a _=>Kh 0 a<|Kh 0 a<|Kh 0 a<|Kw 0 a<|Ka 0 100 (Int.ofNat<|List.length x.for_) (fun a _=>Mt a<|Mt a<|Mt a<|Mt a<|MV a<|Ky 7<|rr0 false) fun a _=>Kh 0 a<|Kh 0 a<|Kh 0 a<|Kh 0 a<|Kw 0 a<|Ka 0 100 (Int.ofNat<|List.length x.start.event) (fun a _=>Mt a<|Mt a<|Mt a<|MV a<|Ky 5<|rr0 false) fun a _=>Kh 0 a<|Kh 0 a<|Kh 0 a<|Kw 0 a<|Ka 0 100 (Int.ofNat<|List.length x.event) (fun a _=>Mt a<|Mt a<|Mt a<|MV a<|Ky 3<|rr0 false) fun a _=>Kh 0 a<|Kh 0 a<|Kl 0 58 (ln N7 x.by_)<|Mh a<|Kw 0 a<|Ka 0 2 (Int.ofNat x.by_.length) (fun a _=>Mt a<|Mt a<|Mt a<|MV a<|Ky 1<|rr0 false) fun a _=>Kh 0 a<|Kh 0 a<|Mp hu<|Mh a<|Kw 0 a<|Mn (HJ x.unit 30) (fun _=>Ky 0<|rr0 false) fun _=>K1 0 (.frz 0 [1,3]) ti<|tK mS x.old [1,3] (fun a _=>([AV.pptr [az [iV x.kind,aW<|x.at_.map aj,aW<|x.to.map aj,iV x.where_,iV x.nth_,iV x.unit.act,iV x.unit.item,iV x.unit.n,iV x.unit.kind,aK x.unit.label,aW<|x.unit.head.map aQ,aW<|x.unit.words.map aQ,aW<|x.unit.kids.map aV,aW<|x.old.map mS,aW<|x.new.map mS,aK x.label,aK x.for_,iV x.start.kind,iV x.start.day,aK x.start.event,iV x.act,iV x.item,iV x.day,aK x.event,aW<|x.by_.map N7]] 0 0,nV a],[])) (fun a=>x.old.all xt=a.all xt) (by rfl) (fun _ _ _ _ _ a _=>Kl 3 70 (ln mS x.old)<|Kh 0 a<|Mg 0<|tK mS x.new [1,4] (fun a _=>([AV.pptr [az [iV x.kind,aW<|x.at_.map aj,aW<|x.to.map aj,iV x.where_,iV x.nth_,iV x.unit.act,iV x.unit.item,iV x.unit.n,iV x.unit.kind,aK x.unit.label,aW<|x.unit.head.map aQ,aW<|x.unit.words.map aQ,aW<|x.unit.kids.map aV,aW<|x.old.map mS,aW<|x.new.map mS,aK x.label,aK x.for_,iV x.start.kind,iV x.start.day,aK x.start.event,iV x.act,iV x.item,iV x.day,aK x.event,aW<|x.by_.map N7]] 0 0,nV a],[])) (fun a=>x.new.all xt=a.all xt) (by rfl) (fun _ _ _ _ _ a _=>Kl 3 84 (ln mS x.new)<|Kh 0 a<|Mg 0<|tK aj x.at_ [1,5] (fun a _=>([AV.pptr [az [iV x.kind,aW<|x.at_.map aj,aW<|x.to.map aj,iV x.where_,iV x.nth_,iV x.unit.act,iV x.unit.item,iV x.unit.n,iV x.unit.kind,aK x.unit.label,aW<|x.unit.head.map aQ,aW<|x.unit.words.map aQ,aW<|x.unit.kids.map aV,aW<|x.old.map mS,aW<|x.new.map mS,aK x.label,aK x.for_,iV x.start.kind,iV x.start.day,aK x.start.event,iV x.act,iV x.item,iV x.day,aK x.event,aW<|x.by_.map N7]] 0 0,nV a],[])) (fun a=>x.at_.all xr=a.all xr) (by rfl) (fun _ _ _ _ _ a _=>Kl 3 98 (ln aj x.at_)<|Kh 0 a<|Mg 0<|tK aj x.to [1,6] (fun a _=>([AV.pptr [az [iV x.kind,aW<|x.at_.map aj,aW<|x.to.map aj,iV x.where_,iV x.nth_,iV x.unit.act,iV x.unit.item,iV x.unit.n,iV x.unit.kind,aK x.unit.label,aW<|x.unit.head.map aQ,aW<|x.unit.words.map aQ,aW<|x.unit.kids.map aV,aW<|x.old.map mS,aW<|x.new.map mS,aK x.label,aK x.for_,iV x.start.kind,iV x.start.day,aK x.start.event,iV x.act,iV x.item,iV x.day,aK x.event,aW<|x.by_.map N7]] 0 0,nV a],[])) (fun a=>x.to.all xr=a.all xr) (by rfl) (fun _ _ _ _ _ a _=>Kl 3 113 (ln aj x.to)<|Kh 0 a<|Mg 0<|tK N7 x.by_ [1,7] (fun a _=>([AV.pptr [az [iV x.kind,aW<|x.at_.map aj,aW<|x.to.map aj,iV x.where_,iV x.nth_,iV x.unit.act,iV x.unit.item,iV x.unit.n,iV x.unit.kind,aK x.unit.label,aW<|x.unit.head.map aQ,aW<|x.unit.words.map aQ,aW<|x.unit.kids.map aV,aW<|x.old.map mS,aW<|x.new.map mS,aK x.label,aK x.for_,iV x.start.kind,iV x.start.day,aK x.start.event,iV x.act,iV x.item,iV x.day,aK x.event,aW<|x.by_.map N7]] 0 0,nV a],[])) (fun a=>x.by_.all HH=a.all HH) (by rfl) (fun _ _ _ _ _ a _=>Kl 3 128 (ln N7 x.by_)<|Kh 0 a<|Ky 0<|rr0 true) fun a _ b _ c d e f g _ i _=>have i:=i.trans<|congrArg some<|eJ c;Kl 3 128 (ln N7 x.by_)<|Kt 0 g<|Kx 2 i<|Kl 2 138 (ln N7 c.by_)<|Ka 1 0 (Int.ofNat c.by_.length) (fun g _=>Kt 0 g<|Kt 0 g<|Kt 0 g<|Mx i<|Mt g<|Kt 0 g<|Kt 0 g<|Mx ((bZ N7 (sA:0<(c.by_).length)).trans<|congrArg some<|eJ _)<|Mt g<|Kt 0 g<|Kt 0 g<|Kl 0 150 (ln N7 (gD c.by_ 0).by_)<|Mt g<|Ku 0 g<|Ka 0 0 (Int.ofNat (gD c.by_ 0).by_.length) (fun a _=>Mt a<|Mt a<|Mt a<|Mt a<|Mt a<|Mt a<|MV a<|Ky 1<|rr0 false) fun g _=>Kh 0 g<|Kh 0 g<|Kh 0 g<|Mx i<|Mh g<|Kh 0 g<|Mp (ih c (by exact bQ b f)<|by exact f7 _ (bQ b f))<|Mh g<|Kw 0 g<|Mn (mL c) (fun _=>Kf 0<|ch<|rr0 false) fun _=>Kl 1 131 (dW a)<|Kf 0<|e<|by simp_all[HH,Hi]) fun g _=>Mh g<|Mh g<|Mh g<|Mh g<|Mh g<|Mh g<|Mh g<|Mh g<|Mh g<|Mh g<|My g<|Kx 3 i<|Kp 0 (ih c (by exact bQ b f)<|by exact f7 _ (bQ b f))<|Kn 1 (mL c) (fun _=>Kf 0<|ch<|rr0 false) fun _=>Kl 1 131 (dW a)<|Kf 0<|e<|by simp_all[HH,Hi]) fun a _ _ _ b c d _ e _ f _=>Kl 3 113 (ln aj x.to)<|Kt 0 e<|Kx 2 f<|Ka 3 100 (Int.ofNat<|List.length b.label) (fun _ _=>Ky 0<|rr0 false) fun _ _=>Kl 1 116 (dW a)<|Kf 0<|d<|by simp_all[xr]) fun a _ _ _ b c d _ e _ f _=>Kl 3 98 (ln aj x.at_)<|Kt 0 e<|Kx 2 f<|Ka 3 100 (Int.ofNat<|List.length b.label) (fun _ _=>Ky 0<|rr0 false) fun _ _=>Kl 1 101 (dW a)<|Kf 0<|d<|by simp_all[xr]) fun a _ _ _ b c d _ e _ f _=>Kl 3 84 (ln mS x.new)<|Kt 0 e<|Kx 2 f<|Ka 2 100 (Int.ofNat<|List.length b) (fun _ _=>Ky 0<|rr0 false) fun _ _=>Kl 1 87 (dW a)<|Kf 0<|d<|by simp_all[xt]) fun a _ _ _ b c d _ e _ f _=>Kl 3 70 (ln mS x.old)<|Kt 0 e<|Kx 2 f<|Ka 2 100 (Int.ofNat<|List.length b) (fun _ _=>Ky 0<|rr0 false) fun _ _=>Kl 1 73 (dW a)<|Kf 0<|d<|by simp_all[xt]
end Go.Proofs.YtaepacpodblomaaGreatDoor
