/- Functions walked: what each of them answers, for On every day that a gazette changed, an item that the gazette contains or refers to is in force before or after it, or the gazette declares an event: part 1. Conditions: those that each theorem names. -/
import Derived.Test.YtaepacpodblomaaGreatDoorCmb
import Derived.Test.YtaepacpodblomaaGreatDoorLay
import Derived.Test.YtaepacpodblomaaGreatDoorLay2
namespace Go.Proofs.YtaepacpodblomaaGreatDoor
open Go Go.Ev
noncomputable abbrev aW:=@AV.ls
noncomputable abbrev bx:=@AV.func
noncomputable abbrev bz:=@Fn.func
noncomputable abbrev cA:=@Le.bool
noncomputable abbrev fm:=@Le.ps
noncomputable abbrev iF:=@AV.ps
noncomputable abbrev bh:=@Le.refl
noncomputable abbrev eA:=@AV.bool
noncomputable abbrev eL:=@Le.tuple
noncomputable abbrev eb:=@AV.tuple
noncomputable abbrev aV:=@AV.str
noncomputable abbrev al:=@AV.nils
noncomputable abbrev ax:=@AV.agg
noncomputable abbrev aZ:=@AObj.row
noncomputable abbrev fe:=@Tw
noncomputable abbrev bj:=@AV.ptr
noncomputable abbrev aM:=@AV.slice
noncomputable abbrev bM:=@Le.nils
noncomputable abbrev aba:=@ARes.val
theorem ifB(l:aR)(g:Nat)(p:UInt8→Bool)(hp:∀s,s∈l→kP g [.int .u8 (.ofNat s.toNat)] (.bool (p s)))(hl:l.length<2^40):kP 306 [.ls (l.map nD),.func (.func g) [] []] (iV (dA p l 0)):=by
  have rr0 b' (h:(dA p l 0)=b':=by first|exact mc zd0 hr0 hj0 ‹_› |exact hj0):=h;exact bG Tryz.func306<|Kl 2 7 (ln nD l)<|Mg 0<|tu nD l [0,1,7,8] (fun a _=>([aW<|l.map nD,bx (bz g) [] [],nV<|List.length l,nV a],[])) (fun a=>dA p l (0:Nat)=dA p a (List.length l-a.length)) sA (fun _ _ zd0 _ hr0 a hj0=>Kh 0 a<|Kf 0<|li<|rr0 (-1)) fun a _ zd0 _ b c d hr0 e _ f hj0=>Kt 0 e<|Kx 4 f<|Kp 0 (hp b<|by exact bX zd0 hr0)<|Mb (p b) (fun _=>Kf 1<|li<|rr0<|Int.ofNat a) fun _=>Kl 0 18 (dV a)<|Kf 0<|d<|by exact ke zd0 hr0 hj0 (by omega)
theorem cfB(l:aR)(g:Nat)(p:UInt8→Bool)(hp:∀s,s∈l→kP g [.int .u8 (.ofNat s.toNat)] (.bool (p s)))(hl:l.length<2^40):kP 294 [.ls (l.map nD),.func (.func g) [] []] (.bool (l.any p)):=by
  have h:=ifB l g p hp hl
  have rr0 b' (h:(List.any l p)=b':=by(rw[lm];simp only[aS,ak,bS,nG])):=h;exact bG Tryz.func294<|Kp 2 h<|Kf 1<|cA<|rr0<|ak<|aF (dA p l 0) 0
theorem Pv(c:UInt8):kP 293 [.int .u8 (.ofNat c.toNat)] (.bool (ak (Rj 33 126 c))):=by
  have rr0 b' (h:(ak (Rj 33 126 c))=b':=by(simp only[Rj,aS,ak,bS,nG, *])):=h;exact bG Tryz.func293<|Kb 3 (aF (Int.ofNat c.toNat) 33) (fun a=>Mt a<|MV a<|Ky 0<|rr0 true) fun a=>Kh 0 a<|Kw 0 a<|Kf 0<|cA<|rr0<|aF 126<|Int.ofNat c.toNat
theorem Tf(s:aR)(hs:s.length≤2^39):kP 266 [.str s] (.bool (sy s)):=by
  have h:=cfB s 293 _ (fun c _=>Pv c) (by omega)
  have rr0 b' (h:(sy s)=b':=by first|(simp only[sy,aS,ak,bS, *];done)|(rw[sy,SV,List.all_eq_not_any_not];simp only[Ed,aS,ak,bS, *]at *)):=h;let q:=List.map nD s;exact bG Tryz.func266<|Kn 4 (eV s (ByteArray.mk #[]).data.toList) (fun a=>Kt 0 (ch a)<|Kt 0 (ch a)<|Ku 0 (ch a)<|Kn 0 (aF 24<|Int.ofNat<|List.length s) (fun a=>Kt 0 (ch a)<|Mv (Vt (s:=s) (H:=ab []) (oA:(s).length≤2^40))<|Mt (ch a)<|Kt 0 (ch a)<|Mp (aC.onArgs (.cons (fm q _<|aX Wn s)<|lc .nil) h:kP 294 [iF q false,bx (bz 293) [] []] _)<|Mt (ch a)<|Ku 0 (ch a)<|Kf 0<|cA<|rr0<|ak<|List.any s fun a=>ak<|Rj 33 126 a) fun a=>Mh (cb a)<|Mh (cb a)<|Mh (cb a)<|Mh (cb a)<|My (cb a)<|Ky 0<|rr0 false) fun a=>Mh (cb a)<|Mh (cb a)<|My (cb a)<|Ky 2<|rr0 false
theorem ifS(l:List aR)(g:Nat)(p:aR→Bool)(hp:∀s,s∈l→kP g [.str s] (.bool (p s)))(hl:l.length<2^40):kP 292 [.ls (l.map nQ),.func (.func g) [] []] (iV (dA p l 0)):=by
  have rr0 b' (h:(dA p l 0)=b':=by first|exact mc zd0 hr0 hj0 ‹_› |exact hj0):=h;exact bG Tryz.func292<|Kl 2 7 (ln nQ l)<|Mg 0<|tu nQ l [0,1,7,8] (fun a _=>([aW<|l.map nQ,bx (bz g) [] [],nV l.length,nV a],[])) (fun a=>dA p l (0:Nat)=dA p a (l.length-a.length)) sA (fun _ _ zd0 _ hr0 a hj0=>Kh 0 a<|Kf 0<|li<|rr0 (-1)) fun a _ zd0 _ b c d hr0 e _ f hj0=>Kt 0 e<|Kx 4 f<|Kp 0 (hp b<|by exact bX zd0 hr0)<|Mb (p b) (fun _=>Kf 1<|li<|rr0<|Int.ofNat a) fun _=>Kl 0 18 (dV a)<|Kf 0<|d<|by exact ke zd0 hr0 hj0 (by omega)
theorem cfS(l:List aR)(g:Nat)(p:aR→Bool)(hp:∀s,s∈l→kP g [.str s] (.bool (p s)))(hl:l.length<2^40):kP 264 [.ls (l.map nQ),.func (.func g) [] []] (.bool (l.any p)):=by
  have h:=ifS l g p hp hl
  have rr0 b' (h:(l.any p)=b':=by(rw[lm];simp only[aS,ak,bS,nG])):=h;exact bG Tryz.func264<|Kp 2 h<|Kf 1<|cA<|rr0<|ak<|aF (dA p l 0) 0
theorem Nz(s:aR)(hs:s.length≤2^39):kP 265 [.str s] (.bool (ak (sy s))):=by
  exact bG Tryz.func265<|Kp 1 (Tf s hs)<|Kf 1<|bh<|eA<|ak<|sy s
theorem Lx(l:List aR)(hl:l.length<2^40)(hs:∀s,s∈l→s.length≤2^39):kP 236 [.ls (l.map nQ)] (.bool (qp l)):=by
  have h:=cfS l 265 _ (fun s m=>Nz s (hs s m)) hl
  have rr0 b' (h:(qp l)=b':=by first|(simp only[qp,aS,ak,bS, *];done)|(rw[qp,List.all_eq_not_any_not];simp only[aS,ak,bS, *])):=h;exact bG Tryz.func236<|Kl 2 4 (ln nQ l)<|Kn 1 (aF 256<|Int.ofNat l.length) (fun a=>Kt 0 (ch a)<|Mp h<|Mt (ch a)<|Ku 0 (ch a)<|Kf 0<|cA<|rr0<|ak<|l.any fun a=>ak<|sy a) fun a=>Mh (cb a)<|Mh (cb a)<|My (cb a)<|Ky 0<|rr0 false
theorem Qk(r:Int):kP 268 [.int .i32 r] (.bool (aF r 48||aF 57 r)):=by
  have rr0 b' (h:(aF r 48||aF 57 r)=b':=by(simp only[aS,ak,bS, *])):=h;exact bG Tryz.func268<|Kb 3 (aF r 48) (fun a=>Mt a<|MV a<|Ky 0<|rr0 true) fun a=>Kh 0 a<|Kw 0 a<|Kf 0<|cA<|rr0<|aF 57 r
theorem Uj(r:Int):kP 238 [.int .i32 r] (.bool (aF r 65||aF 90 r)):=by
  have rr0 b' (h:(aF r 65||aF 90 r)=b':=by(simp only[aS,ak,bS, *])):=h;exact bG Tryz.func238<|Kb 3 (aF r 65) (fun a=>Mt a<|MV a<|Ky 0<|rr0 true) fun a=>Kh 0 a<|Kw 0 a<|Kf 0<|cA<|rr0<|aF 90 r
theorem Ih(s:PStep):kP 199 [aj s] (.bool (af s.kind 0&&eV s.label [])):=by
  have rr0 b' (h:(af s.kind 0&&eV s.label [])=b':=by(simp only[aS,ak,bS, *];first|done|rfl)):=h;exact bG Tryz.func199<|Kb 5 (af s.kind 0) (fun a=>Kt 0 a<|Kt 0 a<|Ku 0 a<|Kf 0<|cA<|rr0<|eV s.label (ByteArray.mk #[]).data.toList) fun a=>Mh a<|Mh a<|My a<|Ky 0<|rr0 false
theorem vn(n a b:Int):kP 195 [iV n,iV a,iV b] (.bool (ak (aF n a)&&ak (aF b n))):=by
  have rr0 b' (h:(ak (aF n a)&&ak (aF b n))=b':=by(simp only[aS,ak,bS, *])):=h;exact bG Tryz.func195<|Kn 4 (aF n a) (fun c=>Kt 0 (ch c)<|Kt 0 (ch c)<|Ku 0 (ch c)<|Kf 0<|cA<|rr0<|ak<|aF b n) fun c=>Mh (cb c)<|Mh (cb c)<|My (cb c)<|Ky 0<|rr0 false
theorem Ry(s:aR):kP 267 [.str s,.func (.func 268) [] []] (iV (bif Nat.beq (ec km s) s.length then -1 else Int.ofNat (ec km s))):=
  Ao fz (Go.Proofs.enters_of Go.Proofs.Tryz.lidxf.f15 (by kernel_rfl) rfl) (Go.Proofs.enters_of Tryz.func268 (by kernel_rfl) rfl)
    (fun s w hp=>Go.Proofs.Any.strings_IndexFunc_grows Go.Proofs.Tryz.lidxf 268 #[] (Go.Proofs.enters_of Tryz.func268 (by kernel_rfl) rfl) _ s w hp) Qk (fun _=>rfl) (H8 (lo:=48) (hi:=57) (by omega)) s
theorem Ra(s:aR)(h:By (Nat.beq (ec km s) s.length) true):kP 267 [.str s,.func (.func 268) [] []] (iV (-1)):=by
  have:=Ry s
  simp_all
theorem U1(s:aR)(h:By (Nat.beq (ec km s) s.length) false):kP 267 [.str s,.func (.func 268) [] []] (nV (ec km s)):=by
  have:=Ry s
  grind
theorem aaO(s:aR):kP 239 [.str s,.func (.func 238) [] []] (.bool (ak (s.all YY))):=
  vW fz (Go.Proofs.enters_of Go.Proofs.Tryz.lconf.f17 (by kernel_rfl) rfl) (Go.Proofs.enters_of Tryz.func238 (by kernel_rfl) rfl)
    (fun s w hp=>Go.Proofs.Any.strings_ContainsFunc_grows Go.Proofs.Tryz.lconf 238 #[] (Go.Proofs.enters_of Tryz.func238 (by kernel_rfl) rfl) _ s w hp) Uj (fun _=>rfl) (H8 (lo:=65) (hi:=90) (by omega)) s
theorem ND(s:aR)(hs:s.length≤2^39):kP 237 [.str s] (.tuple [.str (s.take (ec km s)),.str (s.drop (ec km s))]):=by
  have hl:=LV (p:=km) (s:=s)
  have rr0 b' (h:(s.take (ec km s))=b':=by(rw[pC h0];simp)):=h;have rr1 b' (h:(s.drop (ec km s))=b':=by(rw[pC h0];simp)):=h;let q:=AHeap.mk 1000000 Tr.nil;exact bG Tryz.func237<|Ks 2 ((ec km s).beq<|List.length s) (fun h0=>Mp (Ra s h0)<|Kf 6<|eL<|.cons (Le.str<|rr0 s)<|.cons (Le.str<|rr1 []) .nil) fun h0=>Mp (U1 s h0)<|Kv 5 (WT (s:=s) (n:=ec km s) (k:=IntKind.i64) (H:=q) oA)<|Kv 1 (WS (s:=s) (l:=ec km s) (k:=IntKind.i64) (H:=q) oA)<|Kf 1<|bh<|eb [aV<|s.take<|ec km s,aV<|s.drop<|ec km s]
theorem uo(s:aR)(hs:s.length≤2^39):kP 190 [.str s] (.bool (ka s)):=by
  have hd:(s.drop (ec km s)).length≤2^39:=by grind
  have rr0 b' (h:(ka s)=b':=by first|(simp only[ka,aS,ak,bS,nG, *];done)|(simp only[ka,aS,ak,bS,nG, *];rfl)|(unfold ka;simp only[h0,h1,h2];rfl)):=h;exact bG Tryz.func190<|Kp 1 (ND s hs)<|Kd 9 (Int.ofNat (s.take<|ec km s).length) 1 (fun h0 _=>Kt 0 (ch h0)<|Kt 0 (ch h0)<|Ku 0 (ch h0)<|Kd 0 4 (Int.ofNat (s.take<|ec km s).length) (fun h1 _=>Kt 0 (ch h1)<|M1 (.chr<|gD (s.take<|ec km s) 0) (zS (gR:0<(s.take (ec km s)).length))<|Mt (ch h1)<|Ku 0 (ch h1)<|Kc 0 (Int.ofNat (gD (s.take<|ec km s) 0).toNat) 48 (fun h2 _=>Kt 0 (ch h2)<|Kt 0 (ch h2)<|Ku 0 (ch h2)<|Kd 0 3 (Int.ofNat (s.drop<|ec km s).length) (fun a _=>Kt 0 (ch a)<|Kt 0 (ch a)<|Mp (aaO<|s.drop<|ec km s)<|Mt (ch a)<|Ku 0 (ch a)<|Kf 0<|cA<|rr0<|ak<|ak<|(s.drop<|ec km s).all YY) fun a _=>Mh (cb a)<|Mh (cb a)<|Mh (cb a)<|My (cb a)<|Ky 0<|rr0 false) fun h2 _=>Mh (cb h2)<|Mh (cb h2)<|My (cb h2)<|Ky 2<|rr0 false) fun h1 _=>Mh (cb h1)<|Mh (cb h1)<|My (cb h1)<|Ky 4<|rr0 false) fun h0 _=>Mh (cb h0)<|Mh (cb h0)<|My (cb h0)<|Ky 6<|rr0 false
theorem vc(p:List PStep)(hl:p.length<2^40)(hs:∀s,s∈p→s.label.length≤2^39):kP 136 [.ls (p.map aj)] (.bool (kL p)):=by
  have rr0 b' (h:(kL p)=b':=by first|(rw[kL,hj0,V5];rfl)|(rw[kL,FQ zd0 hr0 hj0];simp only[nK,tO,‹af (Int.ofNat zi0) 0=_›,cond_true,cond_false];simp only[Ed,aS,ak,bS, *];first|done|rfl)):=h;exact bG Tryz.func136<|Kl 2 6 (ln aj p)<|Mg 0<|tu aj p [0,5,6,7] (fun a _=>([aW<|p.map aj,aW<|p.map aj,nV p.length,nV a],[])) (fun a=>O5 p=Ig p a) (by(exact O4)) (fun zi0 _ zd0 _ hr0 a hj0=>Kh 0 a<|Kl 1 34 (ln aj p)<|Kf 1<|cA<|rr0<|ak<|aF 9<|Int.ofNat p.length) fun zi0 _ zd0 _ a b c hr0 d _ e hj0=>Kt 0 d<|Kx 0 e<|Kj 6 (Int.ofNat zi0) 0 (fun d _=>Kt 0 d<|Mp (Ih a)<|MV d<|Mb (af a.kind 0&&eV a.label []) (fun _=>Kl 0 32 (dV zi0)<|K1 0 (.frz 0 [0,5,6,7]) ti<|Mf<|c<|by(rw[FQ zd0 hr0 hj0];simp only[nK,tO,‹af (Int.ofNat zi0) 0=_›,cond_true,cond_false];simp only[Ed,aS,ak,bS, *];first|done|rfl)) fun _=>Kd 3 0 a.kind (fun a _=>Mt (ch a)<|Mt (ch a)<|MV (ch a)<|Ky 3<|rr0 false) fun d _=>Kh 0 (cb d)<|Kh 0 (cb d)<|Kw 0 (cb d)<|Ka 0 7 a.kind (fun a _=>Mt a<|Mt a<|Mt a<|MV a<|Ky 1<|rr0 false) fun d _=>Kh 0 d<|Kh 0 d<|Mp (uo a.label<|by exact hs _ (bX zd0 hr0))<|Mh d<|Kw 0 d<|Mn (ka a.label) (fun _=>Kf 0<|cA<|rr0 false) fun _=>Kl 0 32 (dV zi0)<|K1 0 (.frz 0 [0,5,6,7]) ti<|Mf<|c<|by(rw[FQ zd0 hr0 hj0];simp only[nK,tO,‹af (Int.ofNat zi0) 0=_›,cond_true,cond_false];simp only[Ed,aS,ak,bS, *];first|done|rfl)) fun d _=>Mh d<|My d<|Kd 4 0 a.kind (fun a _=>Mt (ch a)<|Mt (ch a)<|MV (ch a)<|Ky 3<|rr0 false) fun d _=>Kh 0 (cb d)<|Kh 0 (cb d)<|Kw 0 (cb d)<|Ka 0 7 a.kind (fun a _=>Mt a<|Mt a<|Mt a<|MV a<|Ky 1<|rr0 false) fun d _=>Kh 0 d<|Kh 0 d<|Mp (uo a.label<|by exact hs _ (bX zd0 hr0))<|Mh d<|Kw 0 d<|Mn (ka a.label) (fun _=>Kf 0<|cA<|rr0 false) fun _=>Kl 0 32 (dV zi0)<|K1 0 (.frz 0 [0,5,6,7]) ti<|Mf<|c<|by(rw[FQ zd0 hr0 hj0];simp only[nK,tO,‹af (Int.ofNat zi0) 0=_›,cond_true,cond_false];simp only[Ed,aS,ak,bS, *];first|done|rfl)
theorem U0(l:List Int)(v:Int)(hl:l.length<2^40):kP 281 [.ls (l.map aw),iV v] (iV (dA (af v) l 0)):=by
  have rr0 b' (h:(dA (af v) l 0)=b':=by first|exact mc zd0 hr0 hj0 ‹_› |exact hj0):=h;exact bG Tryz.func281<|Kl 2 7 (ln aw l)<|Mg 0<|tu aw l [0,1,7,8] (fun a _=>([aW<|l.map aw,iV v,nV l.length,nV a],[])) (fun a=>dA (af v) l (0:Nat)=dA (af v) a (l.length-a.length)) sA (fun _ _ zd0 _ hr0 a hj0=>Kh 0 a<|Kf 0<|li<|rr0 (-1)) fun a _ zd0 _ b c d hr0 e _ f hj0=>Kt 0 e<|Kx 4 f<|Kj 1 v b (fun _ _=>Kf 1<|li<|rr0<|Int.ofNat a) fun _ _=>Kl 0 18 (dV a)<|Kf 0<|d<|by exact ke zd0 hr0 hj0 (by omega)
theorem rT(l:List Int)(v:Int)(hl:l.length<2^40):kP 254 [.ls (l.map aw),iV v] (.bool (l.any (af v))):=by
  have h:=U0 l v hl
  have rr0 b' (h:(l.any (af v))=b':=by(rw[lm];simp only[aS,ak,bS,nG])):=h;exact bG Tryz.func254<|Kp 2 h<|Kf 1<|cA<|rr0<|ak<|aF (dA (af v) l 0) 0
theorem Rv(v:Int):kP 281 [.nils,iV v] (iV (-1)):=by
  let q:=[al,iV v,iV 0,iV 0];exact bG Tryz.func281<|Mg 3<|MO0 [0,1,7,8] (q,[]) True 0 ti fun _ _=>Kf 2<|bh<|iV (-1)
theorem H3(v:Int):kP 254 [.nils,iV v] (.bool false):=by
  have h:=Rv v
  exact bG Tryz.func254<|Kp 2 h<|Kf 1<|bh<|eA false
theorem kn0:kP 301 [iV 0] (.str (c9 0)):=by
  exact wk Tryz.func301 (.go 11 .fin)<|bh<|aV [98,111,111,107]
theorem kn1:kP 301 [iV 1] (.str (c9 1)):=by
  exact wk Tryz.func301 (.go 11 .fin)<|bh<|aV [112,97,114,116]
theorem kn2:kP 301 [iV 2] (.str (c9 2)):=by
  exact wk Tryz.func301 (.go 11 .fin)<|bh<|aV [115,101,99,116,105,111,110]
theorem kn3:kP 301 [iV 3] (.str (c9 3)):=by
  exact wk Tryz.func301 (.go 11 .fin)<|bh<|aV [112,97,114,97,103,114,97,112,104]
theorem kn4:kP 301 [iV 4] (.str (c9 4)):=by
  exact wk Tryz.func301 (.go 11 .fin)<|bh<|aV [116,97,98,108,101]
theorem kn5:kP 301 [iV 5] (.str (c9 5)):=by
  exact wk Tryz.func301 (.go 11 .fin)<|bh<|aV [114,111,119]
theorem kn6:kP 301 [iV 6] (.str (c9 6)):=by
  exact wk Tryz.func301 (.go 11 .fin)<|bh<|aV [99,101,108,108]
theorem kn7:kP 301 [iV 7] (.str (c9 7)):=by
  exact wk Tryz.func301 (.go 11 .fin)<|bh<|aV [110,111,116,101]
theorem knX(k:Int)(h:k<0∨7<k):kP 301 [iV k] (.str (c9 k)):=by
  rw[Jh h]
  have c:aF k 0=true∨(aF k 0=false∧aF k 8=false):=by
    grind[kF,iO]
  rcases c with c|⟨c,d⟩
  · exact bG Tryz.func301<|Kt 3 c<|Mt c<|MV c<|Kf 1<|bh<|aV []
  · exact bG Tryz.func301<|Kh 3 c<|Kh 0 c<|Kw 0 c<|Mt (ch d)<|Kf 0<|bh<|aV []
theorem xy(k:Int):kP 301 [iV k] (.str (c9 k)):=by
  by_cases h:k<0∨7<k
  · grind[knX]
  · grind[kn0,kn1,kn2,kn3,kn4,kn5,kn6,kn7]
theorem ccX(p k:Int)(h:p<0∨7<p):kP 214 [iV p,iV k] (.bool (jf p k)):=by
  unfold jf
  rw[II h]
  have c:aF p 0=true∨(aF p 0=false∧aF p 8=false):=by
    grind[kF,iO]
  rcases c with c|⟨c,d⟩
  · exact bG Tryz.func214<|Kh 3 (cb c)<|Mh (cb c)<|My (cb c)<|Kf 2<|bh<|eA false
  · exact bG Tryz.func214<|Kt 3 (ch c)<|Kt 0 (ch c)<|Ku 0 (ch c)<|Kh 0 d<|Mh d<|Mh d<|Mh d<|Mh d<|My d<|Kf 0<|bh<|eA false
theorem cc0(k:Int):kP 214 [iV 0,iV k] (.bool (jf 0 k)):=by
  have h:=rT [1,2] k (by grind)
  let q:=[iV 1,iV 2];exact bG Tryz.func214<|Kp 11 (aC.onArgs (.cons (fm q _<|by rfl)<|lc .nil) h:kP 254 [iF q false,iV k] _)<|Kf 1<|bh<|eA<|[1,2].any<|af k
theorem cc1(k:Int):kP 214 [iV 1,iV k] (.bool (jf 1 k)):=by
  have h:=rT [2] k (by grind)
  let q:=[iV 2];exact bG Tryz.func214<|Kp 11 (aC.onArgs (.cons (fm q _<|by rfl)<|lc .nil) h:kP 254 [iF q false,iV k] _)<|Kf 1<|bh<|eA<|[2].any<|af k
theorem cc2(k:Int):kP 214 [iV 2,iV k] (.bool (jf 2 k)):=by
  have h:=rT [3,4,7] k (by grind)
  let q:=[iV 3,iV 4,iV 7];exact bG Tryz.func214<|Kp 11 (aC.onArgs (.cons (fm q _<|by rfl)<|lc .nil) h:kP 254 [iF q false,iV k] _)<|Kf 1<|bh<|eA<|[3,4,7].any<|af k
theorem cc3(k:Int):kP 214 [iV 3,iV k] (.bool (jf 3 k)):=by
  have h:=rT [3,4,7] k (by grind)
  let q:=[iV 3,iV 4,iV 7];exact bG Tryz.func214<|Kp 11 (aC.onArgs (.cons (fm q _<|by rfl)<|lc .nil) h:kP 254 [iF q false,iV k] _)<|Kf 1<|bh<|eA<|[3,4,7].any<|af k
theorem cc4(k:Int):kP 214 [iV 4,iV k] (.bool (jf 4 k)):=by
  have h:=rT [5] k (by grind)
  let q:=[iV 5];exact bG Tryz.func214<|Kp 11 (aC.onArgs (.cons (fm q _<|by rfl)<|lc .nil) h:kP 254 [iF q false,iV k] _)<|Kf 1<|bh<|eA<|[5].any<|af k
theorem cc5(k:Int):kP 214 [iV 5,iV k] (.bool (jf 5 k)):=by
  have h:=rT [6] k (by grind)
  let q:=[iV 6];exact bG Tryz.func214<|Kp 11 (aC.onArgs (.cons (fm q _<|by rfl)<|lc .nil) h:kP 254 [iF q false,iV k] _)<|Kf 1<|bh<|eA<|[6].any<|af k
theorem cc6(k:Int):kP 214 [iV 6,iV k] (.bool (jf 6 k)):=by
  have h:=H3 k
  exact bG Tryz.func214<|Kp 11 h<|Kf 1<|bh<|eA false
theorem cc7(k:Int):kP 214 [iV 7,iV k] (.bool (jf 7 k)):=by
  have h:=H3 k
  exact bG Tryz.func214<|Kp 11 h<|Kf 1<|bh<|eA false
theorem AW(p k:Int):kP 214 [iV p,iV k] (.bool (jf p k)):=by
  by_cases h:p<0∨7<p
  · grind[ccX]
  · grind[cc0,cc1,cc2,cc3,cc4,cc5,cc6,cc7]
theorem aO{n b m:Nat}(h1:n≤m)(h2:m≤2^40)(h3:m*b≤2^40):small n b=true:=by
  unfold small
  have h4:n*b≤m*b:=eu b h1
  grind[Nat.ble_eq_true_of_le]
noncomputable abbrev wN(u:TUnit):AObj:=.row 8 false 0 [eU u]
def IE(p:PId)(u:TUnit)(x0:Nat×List TUnit×Unit):Prop:=(u.kids).drop x0.1=x0.2.1∧cn p u.kids=cn p x0.2.1
noncomputable def zQ(p:PId)(u:TUnit)(x0:Nat×List TUnit×Unit):List AV×List AObj:=([AV.ptr 0 0 0 0,AV.ptr 1 0 0 0,AV.ls (u.kids.map aY),nV u.kids.length,nV x0.1],[AObj.row 8 false 0 [AV.agg [iV u.act,iV u.item,iV u.n,iV u.kind,AV.str u.label,AV.ls (u.head.map aQ),AV.ls (u.words.map aQ),AV.ls (u.kids.map aY)]],AObj.row 3 false 0 [AV.agg [iV p.a,iV p.i,iV p.n]]])
theorem Fp(p:PId):∀(u:TUnit),nU u≤2^20→(cV p u=false→kP 76 [eU u,aU p] .nils)∧(cV p u=true→kP 76 [eU u,aU p] (.ps ((aI p u).map aY) false)):=by
  refine TUnit.ind fun u ih hn=>?_
  have ihn:∀k,k∈u.kids→By (cV p k) false→kP 76 [eU k,aU p] .nils:=fun k hk h=>(ih k hk (bR (oR (io hk)) hn)).1 h
  have ihy:∀k,k∈u.kids→By (cV p k) true→kP 76 [eU k,aU p] (.ps ((aI p k).map aY) false):=fun k hk h=>(ih k hk (bR (oR (io hk)) hn)).2 h
  have hkl:=bg u
  refine⟨fun hs=>?_,fun hs=>?_⟩
  · let q:=[ax [iV u.act,iV u.item,iV u.n,iV u.kind,aV u.label,aW (u.head.map aQ),aW (u.words.map aQ),aW (u.kids.map aY)]];let q3:=[iV p.a,iV p.i,iV p.n];exact bG Tryz.func76<|Kv 5 (lr ((Tryz.prog).underlying 34) u.act u.item u.n p.a p.i p.n<|ab [aZ 8 false 0 q,aZ 3 false 0 [ax q3]])<|Mb (af u.act p.a&&(af u.item p.i&&af u.n p.n)) (fun _=>Kf 2<|fe (by exact absurd (hs.symm.trans (Ep ‹_›)) (by grind):(AV.nils)=(AV.ps q true))) fun _=>Kl 2 16 (ln aY u.kids)<|Mg 0<|WX (0:Nat) u.kids () [2,3,15,16,17] (fun a _ _=>([bj 0 0 0 0,bj 1 0 0 0,aW<|u.kids.map aY,nV u.kids.length,nV a],[aZ 8 false 0 [ax [iV u.act,iV u.item,iV u.n,iV u.kind,aV u.label,aW<|u.head.map aQ,aW<|u.words.map aQ,aW<|u.kids.map aY]],aZ 3 false 0 [ax [iV p.a,iV p.i,iV p.n]]])) (fun a b _=>(u.kids).drop a=b∧cn p u.kids=cn p b) (fun _ a _=>a.length) (et rfl<|by rfl) fun a b c d e=>Mc b (fun a=>have b:=eN d.1 a;have:=gu (J:=fun a _=>cn p u.kids=cn p a) (a:=c) a d.2;Kh 0 b<|Kf 0<|bh al) fun b f g=>let i:=List.map aY<|[u]++aI p b;have j:=fY d.1 g;have:=ar j;have l:=(eM (enc:=aY) d.1 g).trans<|congrArg some<|aT b;have c:=cj (J:=fun a _=>cn p u.kids=cn p a) (a:=c) g d.2;have:nU b<nU u:=io<|bX d.1 g;have:(aI p b).length≤nU b:=mz b;Kt 0 j<|Mx l<|Ks 4 (cV p b) (fun a=>Mp (ihy b (by exact bX d.1 g) a)<|Mg 6<|M2 .apl (et (by simp_all[lj]:List.map aY (aI p b)≠[])<|fD (sz:=8) (f:=aY) (fun _=>by(rw[aT];rfl))<|aI p b) (et (by(refine aO (m:=2^21) ?_ ?_ ?_<;>(try simp only[lM,lC,lN])<;>(have:=mz (p:=p) b;omega)):small (([AV.agg [iV u.act,iV u.item,iV u.n,iV u.kind,AV.str u.label,AV.ls (u.head.map aQ),AV.ls (u.words.map aQ),AV.ls (u.kids.map aY)]]).length+((aI p b).map aY).length) 120=true) rt)<|M1 (.obj 3<|aZ 8 true 0 i) (congrArg (aZ 8 true 0) (by(simp only[qY,dn,yP,aT,eQ]<;>rfl):[AV.agg [iV u.act,iV u.item,iV u.n,iV u.kind,AV.str u.label,AV.ls (u.head.map aQ),AV.ls (u.words.map aQ),AV.ls (u.kids.map aY)]]++List.map aY (aI p b)=List.map aY ([u]++aI p b)))<|Mg 0<|M2 (.fsl 0 [] 4 i) ti (ca (aK 0) (tA aY ([u]++aI p b) (q++List.map aY (aI p b)).length (sA:([u]++aI p b).length=([AV.agg [iV u.act,iV u.item,iV u.n,iV u.kind,AV.str u.label,AV.ls (u.head.map aQ),AV.ls (u.words.map aQ),AV.ls (u.kids.map aY)]]++List.map aY (aI p b)).length))<|aX iw<|[u]++aI p b)<|Ml 4 (fm i false<|aX iw<|[u]++aI p b)<|Mf<|fe (by exact absurd (hs.symm.trans (U6 (by assumption) c (by omega))) (by grind):(AV.nils)=(AV.ls i))) fun c=>Mp (ihn b (by exact bX d.1 g) c)<|Kl 4 30 (dV a)<|K1 0 (.frz 2 [2,3,15,16,17]) (ca rt rt ti)<|Mf<|e (a+1) f () (et (bW d.1 g)<|by grind[jJ])<|dK g
  · have rr0:∀b',(h:((aI p u).map aY)=b':=by first|rfl|exact absurd (hs.symm.trans (HW (by assumption) hj0)) (by decide)|(rw[rf (by assumption),dn,aT];rfl)|(rw[KG (by assumption) hj0 (by assumption)];rfl))→((aI p u).map aY)=b':=(fun _ h=>h);let q:=[ax [iV u.act,iV u.item,iV u.n,iV u.kind,aV u.label,aW (u.head.map aQ),aW (u.words.map aQ),aW (u.kids.map aY)]];let q3:=[iV p.a,iV p.i,iV p.n];exact bG (hv:=(aX iw (aI p u))) Tryz.func76 (Kv 5 (E9 (d:=(Tryz.prog).underlying 34) (n:=3) (l:=(0,1)::(1,1)::(2,1)::[]) (xs:=[iV u.act,iV u.item,iV u.n]) (ys:=q3) (H:=ab [aZ 8 false 0 q,aZ 3 false 0 [ax q3]]) rfl (pI (e:=af u.act p.a) rfl rfl rfl (pI (e:=af u.item p.i) rfl rfl rfl (Dv (e:=af u.n p.n) rfl rfl rfl rfl)))) (Mb (af u.act p.a&&(af u.item p.i&&af u.n p.n)) (fun h0=>Kf 2 ((Tk (rr0 q)):Le _ (iF q true))) (fun h0=>Kl 2 16 (Le.len (f:=aY) (l:=u.kids)) (Mg 0 (ML (Nat×List TUnit×Unit) [2,3,15,16,17] (zQ p u) (IE p u) (fun x=>x.2.1.length) (0,u.kids,()) (aK ((zQ p u) (0,u.kids,()))) (et (rfl:List.drop 0 (u.kids)=u.kids) (by rfl:(cn p u.kids=cn p u.kids))) (fun x0 hx0 nx0=>Mc x0.2.1 (fun hr0=>have lt0:=eN hx0.1 hr0;have hj0:=gu (J:=fun r x=>cn p u.kids=cn p r) (a:=x0.2.2) hr0 hx0.2;(Kh 0 lt0 (Kf 0 (fe (by exact absurd (hs.symm.trans (HW (by assumption) hj0)) (by grind):(AV.ps ((aI p u).map aY) false)=(AV.nils)))))) (fun w0 r0 hr0=>let q2:=List.map aY ([u]++aI p w0);have lt0:=fY hx0.1 hr0;have glt0:=ar lt0;have nt0:=(eM (enc:=aY) hx0.1 hr0).trans (congrArg some (aT w0));have hj0:=cj (J:=fun r x=>cn p u.kids=cn p r) (a:=x0.2.2) hr0 hx0.2;have q0:nU w0<nU u:=io (bX hx0.1 hr0);have q1:(aI p w0).length≤nU w0:=mz w0;(Kt 0 lt0 (Mx nt0 (Ks 4 (cV p w0) (fun h2=>Mp (ihy w0 (by exact bX hx0.1 hr0) h2) (Mg 6 (M2 .apl (et (by simp_all[lj]:List.map aY (aI p w0)≠[]) (fD (sz:=8) (f:=aY) (fun _=>by(rw[aT];rfl)) (aI p w0))) (et (by(refine aO (m:=2^21) ?_ ?_ ?_<;>(try simp only[lM,lC,lN])<;>(have:=mz (p:=p) w0;omega)):small (([AV.agg [iV u.act,iV u.item,iV u.n,iV u.kind,AV.str u.label,AV.ls (u.head.map aQ),AV.ls (u.words.map aQ),AV.ls (u.kids.map aY)]]).length+((aI p w0).map aY).length) 120=true) rt) (M1 (.obj 3 (aZ 8 true 0 q2)) (congrArg (aZ 8 true 0) (by(simp only[qY,dn,yP,aT,eQ]<;>rfl):[AV.agg [iV u.act,iV u.item,iV u.n,iV u.kind,AV.str u.label,AV.ls (u.head.map aQ),AV.ls (u.words.map aQ),AV.ls (u.kids.map aY)]]++List.map aY (aI p w0)=List.map aY ([u]++aI p w0))) (Mg 0 (M2 (.fsl 0 [] 4 q2) ti (ca (aK (0)) (KT (f:=aY) (l:=[u]++aI p w0) (n:=(q++List.map aY (aI p w0)).length) (by simp_all:([u]++aI p w0).length=([AV.agg [iV u.act,iV u.item,iV u.n,iV u.kind,AV.str u.label,AV.ls (u.head.map aQ),AV.ls (u.words.map aQ),AV.ls (u.kids.map aY)]]++List.map aY (aI p w0)).length)) (aX iw ([u]++aI p w0))) (Mf ((Tk (rr0 q2)):Le _ (iF q2 false))))))))) (fun h2=>Mp (ihn w0 (by exact bX hx0.1 hr0) h2) (Kl 4 30 (Le.wr (x:=Int.ofNat x0.1+1) fJ) (K1 0 (.frz 2 [2,3,15,16,17]) (ca rt rt ti) (Mf (nx0 (x0.1+1,r0,()) (et (bW hx0.1 hr0) (by grind[jJ]:(cn p u.kids=cn p r0))) (dK hr0))))))))))))))))
theorem KH(p:PId)(u:TUnit)(h:By (cV p u) false)(hn:nU u≤2^20):kP 76 [eU u,aU p] .nils:=(Fp p u hn).1 h
theorem Fo(p:PId)(u:TUnit)(h:By (cV p u) true)(hn:nU u≤2^20):kP 76 [eU u,aU p] (.ps ((aI p u).map aY) false):=(Fp p u hn).2 h
theorem Sp:kP 110 [.nils] .nils:=by
  exact wk Tryz.func110 (.go 4 .fin)<|bh al
theorem So:kP 110 [.ps [] false] (.ps [] true):=by
  exact wk Tryz.func110 (.go 7 .fin)<|bh<|iF [] true
theorem Sr(w:PWord)(r:List PWord)(hl:r.length<2^30):kP 110 [.ls ((w::r).map aQ)] (.ls ((w::r).map aQ)):=by
  let q:=List.map aQ (w::r);exact bG Tryz.func110<|Mg 1<|Mz 3 (fun(a:((w::r).map aQ:List AV)=[])=>Mw .abs<|kN _ _ a)<|Mg 3<|M2 .apl (et (sA:List.map aQ (w::r)≠[])<|fM 4 aQ (w::r) fun _=>rfl) (by(refine aO (m:=2^31) ?_ ?_ ?_<;>first|omega|grind):small ((w::r).map aQ).length 40=true)<|Mg 0<|M2 (.fsl 0 [] 2 q) ti (ca (aK 0) (tA aQ (w::r) q.length (sA:(w::r).length=((w::r).map aQ).length))<|aX iT<|w::r)<|Ml 2 (fm q false<|aX iT<|w::r)<|Mf<|bh<|aW q
theorem NH(p:PId)(u:TUnit)(h:By (cV p u) false)(hn:nU u≤2^20):kP 233 [eU u,.pptr [aU p] 0 0] (.bool false):=by
  have h':cV p u=false:=h
  exact bG Tryz.func233<|Kp 3 (KH p u h hn)<|Kf 1<|bh<|eA false
theorem NG(p:PId)(u:TUnit)(h:By (cV p u) true)(hn:nU u≤2^20):kP 233 [eU u,.pptr [aU p] 0 0] (.bool true):=by
  have h':cV p u=true:=h
  exact bG Tryz.func233<|Kp 3 (Fo p u h hn)<|Kf 1<|bh<|eA true
theorem abA(l:List TUnit)(g:Nat)(q:TUnit→Bool)(hp:∀k,k∈l→kP g [eU k] (.bool (q k)))(hl:l.length<2^40):kP 232 [.ls (l.map aY),.func (.func g) [] []] (iV (dA q l 0)):=by
  have rr0 b' (h:(dA q l 0)=b':=by first|exact mc zd0 hr0 hj0 ‹_› |exact hj0):=h;exact bG Tryz.func232<|Kl 2 7 (ln aY l)<|Mg 0<|tu aY l [0,1,7,8] (fun a _=>([aW<|l.map aY,bx (bz g) [] [],nV l.length,nV a],[])) (fun a=>dA q l (0:Nat)=dA q a (l.length-a.length)) sA (fun _ _ zd0 _ hr0 a hj0=>Kh 0 a<|Kf 0<|li<|rr0 (-1)) fun a _ zd0 _ b c d hr0 e _ f hj0=>have f:=f.trans<|congrArg some<|aT b;Kt 0 e<|Kx 4 f<|Kp 0 (hp b<|by exact bX zd0 hr0)<|Mb (q b) (fun _=>Kf 1<|li<|rr0<|Int.ofNat a) fun _=>Kl 0 18 (dV a)<|Kf 0<|d<|by exact ke zd0 hr0 hj0 (by omega)
theorem aaJ(l:List TUnit)(g:Nat)(p:PId)(q:TUnit→Bool)(hp:∀k,k∈l→kP g [eU k,.pptr [aU p] 0 0] (.bool (q k)))(hl:l.length<2^40):kP 232 [.ls (l.map aY),.func (.func g) [] [.pptr [aU p] 0 0]] (iV (dA q l 0)):=by
  have rr0 b' (h:(dA q l 0)=b':=by first|exact mc zd0 hr0 hj0 ‹_› |exact hj0):=h;exact bG Tryz.func232<|Kl 2 7 (ln aY l)<|Mg 0<|tu aY l [0,1,7,8] (fun a _=>([aW<|l.map aY,bx (bz g) [] [AV.pptr [ax [iV p.a,iV p.i,iV p.n]] 0 0],nV l.length,nV a],[])) (fun a=>dA q l (0:Nat)=dA q a (l.length-a.length)) sA (fun _ _ zd0 _ hr0 a hj0=>Kh 0 a<|Kf 0<|li<|rr0 (-1)) fun a _ zd0 _ b c d hr0 e _ f hj0=>have f:=f.trans<|congrArg some<|aT b;Kt 0 e<|Kx 4 f<|Kp 0 (hp b<|by exact bX zd0 hr0)<|Mb (q b) (fun _=>Kf 1<|li<|rr0<|Int.ofNat a) fun _=>Kl 0 18 (dV a)<|Kf 0<|d<|by exact ke zd0 hr0 hj0 (by omega)
theorem Sk{D a:Nat}{w:TUnit}{r:List TUnit}{u:TUnit}(h:D=Nat.max a (kH (w::r))∧a≤2^20)(q0:nU w<nU u)(q1:nZ w<nU w)(hn:nU u≤2^20):D=Nat.max (Nat.max a (1+nZ w)) (kH r)∧Nat.max a (1+nZ w)≤2^20:=by
  grind[kH]
theorem Vg{D a:Nat}(h:D=Nat.max a (kH [])∧a≤2^20):D=a:=by
  simp_all[Dg]
theorem HP:∀(u:TUnit),nU u≤2^20→kP 218 [eU u] (nV (nZ u)):=by
  refine TUnit.ind fun u ih hn=>?_
  have hkl:=bg u
  have ihk:∀k,k∈u.kids→kP 218 [eU k] (nV (nZ k)):=fun k hk=>ih k hk (bR (oR (io hk)) hn)
  have rr0 b' (h:(Int.ofNat (nZ u))=b':=by(rw[Mk,Vg hj0])):=h;exact bG Tryz.func218<|Kl 5 8 (ln aY u.kids)<|Mg 0<|PJ aY u.kids (0:Nat) [3,7,8,9] (fun a _ b=>([nV b,aW<|u.kids.map aY,nV u.kids.length,nV a],[aZ 8 false 0 [ax [iV u.act,iV u.item,iV u.n,iV u.kind,aV u.label,aW<|u.head.map aQ,aW<|u.words.map aQ,aW<|u.kids.map aY]]])) (fun a b=>kH u.kids=b.max (kH a)∧b≤2^20) sA (fun _ _ a _ _ _ b hj0=>Kh 0 b<|Kf 1<|li<|rr0<|Int.ofNat a) fun a _ b c d e f g i j _ l _=>have l:=(l).trans<|congrArg some<|aT e;have hj0:=cj (J:=fun a b=>kH u.kids=b.max (kH a)∧b≤2^20) (a:=b) i d;have d:=io<|bX c i;have m:=EI e;Kt 0 j<|Mx l<|Kp 4 (ihk e<|by exact bX c i)<|Kl 0 16 (b0 (x:=(1:Int)+Int.ofNat (nZ e)) (n:=(1:Nat)+nZ e) fJ)<|Kl 0 17 (nY (k:=IntKind.i64)<|QL b<|1+nZ e)<|Kl 1 18 (jk a)<|K1 0 (.frz 1 [3,7,8,9]) (et rt ti)<|Mf<|g (b.max<|1+nZ e)<|by exact Sk hj0 d m hn
theorem MX(g:Nat)(q:TUnit→Bool):∀(u:TUnit),(∀x,x∈bu u→kP g [eU x] (.bool (q x)))→u.kids.length<2^40→(∀x,x∈bu u→x.kids.length<2^40)→kP 219 [eU u,.func (.func g) [] []] (.bool (wg q u)):=by
  refine TUnit.ind fun u ih hp hl hk=>?_
  have ihk:∀k,k∈u.kids→kP 219 [eU k,.func (.func g) [] []] (.bool (wg q k)):=fun k hm=>ih k hm (fun x hx=>hp x (bC hm hx)) (hk k (LM hm)) (fun x hx=>hk x (bC hm hx))
  have hs:=hp u (dU u)
  have rr0 b' (h:(wg q u)=b':=by first|(rw[yM];simp only[aS,ak,bS, *];done)|(rw[yM,hj0,O3])|(rw[yM,hj0,Bu];simp only[aS,ak,bS, *];done)):=h;exact bG Tryz.func219<|Kp 3 hs<|Kn 0 (q u) (fun _=>Ky 0<|rr0 false) fun _=>Kl 2 13 (ln aY u.kids)<|K1 0 (.frz 0 [1,12,13,14]) ti<|tu aY u.kids [1,12,13,14] (fun a _=>([bx (bz g) [] [],aW<|u.kids.map aY,nV u.kids.length,nV a],[])) (fun a=>(q u&&(dr u.kids).all q)=(dr a).all q) (by(simp only[aS,ak,bS, *];done)) (fun _ _ _ _ _ a hj0=>Kh 0 a<|Ky 0<|rr0 true) fun a _ b _ c d e f i _ j hj0=>have j:=j.trans<|congrArg some<|aT c;Kt 0 i<|Mx j<|Kp 4 (ihk c<|by exact bX b f)<|Kn 0 (wg q c) (fun _=>Kf 0<|cA<|rr0 false) fun _=>Kl 0 22 (dV a)<|K1 0 (.frz 0 [1,12,13,14]) ti<|Mf<|e<|by simp_all[Bu]
theorem Ol(u:TUnit)(n:Nat)(hn:n<2^40):kD 220 [eU u,.ptr 0 0 0 0] (ab [.row 1 false 0 [nV n]]) (.bool true) (ab [.row 1 false 0 [nV (n+1)]]):=by
  exact eR Tryz.func220 fun a=>Kl 3 5 (jk n)<|K1 1 (.frz 1 [3]) (et rt ti)<|Mf a
theorem Ho:∀(u:TUnit),∀(n:Nat),n+nU u<2^40→kD 219 [eU u,.func (.func 220) [] [.ptr 0 0 0 0]] (ab [.row 1 false 0 [nV n]]) (.bool true) (ab [.row 1 false 0 [nV (n+nU u)]]):=by
  refine TUnit.ind fun u ih n hn=>?_
  have hq:=jy u
  have hl:=bg u
  exact Pm Tryz.func219<|K1 3 (.frz 1 [1,2,7,8]) (et rt ti)<|Me (Ol u n oA)<|Kl 4 13 (ln aY u.kids)<|Mg 0<|PJ aY u.kids (n+1) [1,12,13,14] (fun a _ b=>([bx (bz 220) [] [bj 0 0 0 0],aW<|u.kids.map aY,nV u.kids.length,nV a],[aZ 1 false 0 [nV b]])) (fun a b=>n+nU u=b+eJ a∧b+eJ a<2^40) oA (fun _ _ a _ _ _ b _=>Kh 0 b<|Kf 0<|et (aK<|eA true) (by simp_all[mw]:(ab [AObj.row 1 false 0 [nV a]])=(ab [AObj.row 1 false 0 [nV (n+nU u)]]))) fun a _ b c _ d e f g h _ i _=>have i:=i.trans<|congrArg some<|aT d;have c:=bX c g;have g:b+nU d<2^40:=(by grind[bi]);Kt 0 h<|Mx i<|K1 4 (.frz 1 [1,12,13,14,18,19]) (et rt ti)<|Me (ih d c b g)<|Kl 2 22 (jk a)<|Kf 0<|f (b+nU d)<|by grind[bi]
theorem EM(u:TUnit)(hn:nU u<2^39):kP 156 [eU u] (nV (nU u)):=by
  have rr0 b' (h:(Int.ofNat (nU u))=b':=by(rw[ei])):=h;exact bG Tryz.func156<|Mg 5<|M0 (.ren [1,0] [] [3,4,5])<|M1 (.frz 1 [3,4,5]) (et rt ti)<|Me (Ho u 0 oA)<|Kf 1<|li<|rr0<|Int.ofNat<|0+nU u
noncomputable abbrev sq(ep n:Nat):AObj:=.row 1 false 0 [.slice 1 ep 0 n none]
noncomputable abbrev NC(ep:Nat)(l:List PId):AObj:=.row 3 true ep (l.map aU)
theorem XB(u:TUnit):kD 221 [eU u,.ptr 0 0 0 0] (ab [.row 1 false 0 [.nils]]) (.bool true) (ab [sq 0 1,NC 0 [bw u]]):=by
  exact wcq Tryz.func221 (.go 8<|.ren [0,2,1] [] [3]<|.frz 2 [3] .fin) fun a=>et (ca rt rt ti) a
theorem XC(u:TUnit)(ep n:Nat)(l:List PId)(hn:n=l.length)(hl:l.length<2^30):kD 221 [eU u,.ptr 0 0 0 0] (ab [sq ep n,NC ep l]) (.bool true) (ab [sq (ep+1) (n+1),NC (ep+1) (l++[bw u])]):=by
  exact eR Tryz.func221 fun a=>K1 5 .app (ca (aK ep) (sA:n=(l.map aU).length) (by(refine aO (m:=2^31) ?_ ?_ ?_<;>omega):small (n+1) 24=true))<|M1 (.obj 1<|aZ 3 true (ep+1)<|(l++[PId.mk u.act u.item u.n]).map aU) (congrArg (aZ 3 true<|ep+1)<|dZ (f:=aU) (l:=l) (ws:=[PId.mk u.act u.item u.n]))<|K1 1 (.frz 2 [3]) (ca (tR 3 true (ep+1) 2<|aX J0<|l++[PId.mk u.act u.item u.n]) rt ti)<|Mf a
theorem Ob:∀(u:TUnit),∀(ep n:Nat)(l:List PId),n=l.length→l.length+nU u<2^30→kC 219 [eU u,.func (.func 221) [] [.ptr 0 0 0 0]] (ab [sq ep n,NC ep l])
    (fun v h=>∃y:Nat×Nat×List PId,(y.2.1=y.2.2.length∧y.2.2=l++dz u)∧v=.bool true∧h=ab [sq y.1 y.2.1,NC y.1 y.2.2]):=by
  refine TUnit.ind fun u ih ep n l hn hl=>?_
  have hq:=jy u
  have hkl:=bg u
  exact qe Tryz.func219 fun a=>K1 3 (.frz 2 [1,2,7,8]) (ca (tR 3 true ep 2<|aX J0 l) rt ti)<|Me (XC u ep n l hn oA)<|Kl 4 13 (ln aY u.kids)<|Mg 0<|WZ aY u.kids (ep+1) (n+1) (l++[bw u]) [1,12,13,14] (fun a _ b c d=>([bx (bz 221) [] [bj 0 0 0 0],aW<|u.kids.map aY,nV u.kids.length,nV a],[aZ 1 false 0 [aM 1 b 0 c none],aZ 3 true b<|d.map aU])) (fun a _ b c=>b=c.length∧c++iD a=l++[bw u]++iD u.kids∧c.length+eJ a<2^30) gR (fun _ _ b c d _ _ _ e _=>Kh 0 e<|Kf 0<|a (b,c,d)<|by grind[rG,nr]) fun a _ b c d e f g i j k m _ o _=>have o:=(o).trans<|congrArg some<|aT g;have:=cj (J:=fun a b=>b.2.1=b.2.2.length∧b.2.2++iD a=l++[bw u]++iD u.kids∧b.2.2.length+eJ a<2^30) (a:=(b,c,d)) k f;have e:=bX e k;have f:d.length+nU g<2^30:=(by grind[bi]);Kt 0 m<|Mx o<|K1 4 (.frz 2 [1,12,13,14,18,19]) (ca (tR 3 true b 2<|aX J0 d) rt ti)<|Mq (ih g e b c d oA f) fun b _=>Kl 2 22 (dV a)<|Kf 0<|j b.1 b.2.1 b.2.2<|by grind[bi,gc,uE]
theorem Wj(l:List PWord)(hl:l.length≤300)(hs:∀w,w∈l→w.text.length≤2^39):kP 305 [.ls (l.map aQ)] (.bool (oS l)):=by
  have hv:=Lx (l.map PWord.text) (by grind) (fun s hm=>by grind)
  have rr0 b' (h:(oS l)=b':=by(simp only[oS,aS,ak,bS, *])):=h;exact bG Tryz.func305<|Kl 3 7 (ln aQ l)<|Mg 0<|kM Nat Nat (List aR) aQ l [0,3,6,7,8] (fun a _=>([aW<|l.map aQ,al,aW<|l.map aQ,nV l.length,nV a],[])) (fun a _ b c d=>([aW<|l.map aQ,aM 0 b 0 c none,aW<|l.map aQ,nV l.length,nV a],[aZ 1 true b<|d.map nQ])) (fun a=>a=l) (fun a _ b c=>b=c.length∧(0:Nat)<c.length∧c++List.map PWord.text a=List.map PWord.text l∧c.length+a.length=l.length) (by rfl) (fun _ _ _ _ _ a _=>Kh 0 a<|Kl 1 19 (ln aQ l)<|Kd 1 256 (Int.ofNat l.length) (fun a _=>Kt 0 (ch a)<|Mp (aC.onArgs (.cons (Le.lsn (sA:((l.map PWord.text).map nQ)=[])) .nil) hv:kP 236 [al] _)<|MV (ch a)<|Kf 0<|cA<|rr0<|qp<|l.map PWord.text) fun a _=>Mh (cb a)<|My (cb a)<|Kf 0<|cA<|rr0 false) (fun a _ _ _ b c _ d _ e _ f g=>Kt 0 e<|Mx f<|Kl 9 17 (jk a)<|Mg 0<|M0 (.ren [1,0] [] [0,3,6,7,8])<|M1 (.frz 1 [0,3,6,7,8]) (et rt ti)<|Mf<|d 0 1 [b.text]<|by(refine⟨rfl,by simp,?_,?_⟩<;>(rw[←g])<;>(first|rfl|grind))) (fun _ _ a b c _ _ _ d _=>Kh 0 d<|Kl 1 19 (ln aQ l)<|Kd 1 256 (Int.ofNat l.length) (fun d _=>Mg 0<|M2 (.fsl 0 [21] 22<|c.map nQ) ti (ca (aK a) (tA nQ c b (oA:(c).length=b))<|aX JT c)<|Ml 22 (fm (c.map nQ) false<|aX JT c)<|Mt (ch d)<|Mp (aC.onArgs (.cons (cQ (sA:((l.map PWord.text).map nQ)=(c.map nQ))) .nil) hv:kP 236 [aW (c.map nQ)] _)<|MV (ch d)<|Kf 0<|cA<|rr0<|qp<|l.map PWord.text) fun a _=>Mh (cb a)<|My (cb a)<|Kf 0<|cA<|rr0 false) fun a _ b c d _ _ e f _ g _ i _ j k=>Kt 0 i<|Mx j<|K1 6 .app (ca (aK b) (sA:c=(d.map nQ).length) (by(refine aO (m:=2^20) ?_ ?_ ?_<;>omega):small (c+1) 16=true))<|M1 (.obj 0<|aZ 1 true (b+1)<|(d++[e.text]).map nQ) (congrArg (aZ 1 true<|b+1)<|dZ (f:=nQ) (l:=d) (ws:=[e.text]))<|Kl 1 17 (jk a)<|K1 0 (.frz 1 [0,3,6,7,8]) (et (tR 1 true (b+1) 1<|aX JT<|d++[e.text]) ti)<|Mf<|g (b+1) (c+1) (d++[e.text])<|by(refine⟨by simp_all,by simp,?_,?_⟩<;>first|(rw[←k.2.2.1];simp;done)|grind)
theorem pY(a b:Nat):Int.ofNat (a+b)=Int.ofNat a+Int.ofNat b:=rfl
theorem TW(u:TUnit)(h1:u.head.length≤300)(h2:u.words.length≤300)(h3:u.kids.length<2^30)(h4:u.label.length≤2^39)(h5:∀w,w∈u.head→w.text.length≤2^39)(h6:∀w,w∈u.words→w.text.length≤2^39):kP 289 [eU u] (.bool (mK u)):=by
  have hlk:∀(m:List ((Int×aR)×Bool))(a:Int)(s:aR),eO (some (.bool false)) false (be true 2 [(0,1),(1,2)] (.agg [iV a,.str s]) (cW pL dx m 0) 0)=some (.bool (PU m8 (a,s) m)):=fun m a s=>GC LN m (a,s)
  have hup:∀(m:List ((Int×aR)×Bool))(a:Int)(s:aR),sY (cW pL dx m 0) m.length (.agg [iV a,.str s]) (.bool true) (be true 2 [(0,1),(1,2)] (.agg [iV a,.str s]) (cW pL dx m 0) 0)=some (cW pL dx (fV m8 (a,s) true m) 0,(fV m8 (a,s) true m).length):=fun m a s=>KL LN m (a,s)
  have r1:=Wj u.head h1 h5
  have r2:=Wj u.words h2 h6
  have r3:=uo u.label h4
  have rr0 b' (h:(mK u)=b':=by first|(rw[mK,hj0,mT];simp only[Ed,bZ,pY,cond_true,cond_false,aS,ak,bS,tD,wt,Bool.not_true,wA,wo, *];first|done|rfl)|(simp only[mK,Ed,bZ,pY,cond_true,cond_false,aS,ak,bS, *];done)|(simp only[mK,mT,Ed,bZ,pY,cond_true,cond_false,aS,ak,bS, *];done)|(simp only[mK,mT,Ed,bZ,pY,cond_true,cond_false,aS,ak,bS,tD,wt,Bool.not_true,wA,wo, *];first|done|rfl)):=h;exact bG Tryz.func289<|Kj 4 u.kind 0 (fun _ b=>Kn 3 (eV u.label (ByteArray.mk #[]).data.toList) (fun b=>Mt (ch b)<|Mt (ch b)<|Mt (ch b)<|Mt (ch b)<|Mt (ch b)<|Mt (ch b)<|Mt (ch b)<|MV (ch b)<|Ky 1<|rr0 false) fun c=>Kh 0 (cb c)<|Kh 0 (cb c)<|Kl 0 16 (ln aQ u.head)<|Mh (cb c)<|Kh 0 (cb c)<|Kh 0 (cb c)<|Kl 0 19 (ln aQ u.words)<|Mh (cb c)<|Kl 0 20 (Le.wr (x:=Int.ofNat u.head.length+Int.ofNat u.words.length) fJ)<|Mh (cb c)<|Kw 0 (cb c)<|Mb (aF 0<|Int.ofNat u.head.length+Int.ofNat u.words.length) (fun b=>have:=ar b;Ky 0<|rr0 false) fun c=>have:=aG c;Kl 4 48 (ln aY u.kids)<|Mg 0<|PJ aY u.kids ([]:List ((Int×aR)×Bool)) [1,3,47,48,49] (fun b _ c=>([bj 0 0 0 0,AV.map 1,aW<|u.kids.map aY,nV u.kids.length,nV b],[aZ 8 false 0 [ax [iV u.act,iV u.item,iV u.n,iV u.kind,aV u.label,aW<|u.head.map aQ,aW<|u.words.map aQ,aW<|u.kids.map aY]],AObj.map (cW pL dx c 0) c.length])) (fun b c=>mT u.kind u.kids []=mT u.kind b c) (by rfl) (fun _ _ _ _ _ _ b hj0=>Kh 0 b<|Kl 2 74 (ln aY u.kids)<|Kf 1<|cA<|rr0<|ak<|aF 64<|Int.ofNat u.kids.length) fun c _ d _ _ e f g _ i _ j hj0=>have j:=j.trans<|congrArg some<|aT e;Kt 0 i<|Mx j<|Kl 11 59 (nY (k:=IntKind.i64) b)<|Kp 1 (AW 0 e.kind)<|Kn 1 (jf 0 e.kind) (fun b=>Mt (ch b)<|Mt (ch b)<|MV (ch b)<|Ky 1<|rr0 false) fun b=>Kh 0 (cb b)<|Kh 0 (cb b)<|M1 (.look<|eA<|PU m8 (e.kind,e.label) d) (hlk d e.kind e.label)<|My (cb b)<|Mb (PU m8 (e.kind,e.label) d) (fun _=>Kf 0<|cA<|rr0 false) fun _=>K1 1 (.upd (cW pL dx (fV m8 (e.kind,e.label) true d) 0) (fV m8 (e.kind,e.label) true d).length) (hup d e.kind e.label)<|Kl 0 71 (dV c)<|K1 0 (.frz 2 [1,3,47,48,49]) (ca (tM (fV m8 (e.kind,e.label) true d).length 2 (by exact cK LN A8 _ _:fj (cW pL dx (fV m8 (e.kind,e.label) true d) 0)=0)) rt ti)<|Mf<|g (fV m8 (e.kind,e.label) true d)<|by(rw[hj0,mT];simp only[aS,ak,bS, *];done)) fun _ _=>Kp 1 (xy u.kind)<|Kb 1 (eV (c9 u.kind) (ByteArray.mk #[]).data.toList) (fun b=>Mt b<|Mt b<|Mt b<|MV b<|Ky 5<|rr0 false) fun b=>Kh 0 b<|Kh 0 b<|Mp r3<|Mh b<|Kw 0 b<|Kn 0 (ka u.label) (fun b=>Mt (ch b)<|Mt (ch b)<|Mt (ch b)<|MV (ch b)<|Ky 3<|rr0 false) fun b=>Kh 0 (cb b)<|Kh 0 (cb b)<|Mp r1<|Mh (cb b)<|Kw 0 (cb b)<|Kn 0 (oS u.head) (fun b=>Mt (ch b)<|Mt (ch b)<|Mt (ch b)<|MV (ch b)<|Ky 1<|rr0 false) fun b=>Kh 0 (cb b)<|Kh 0 (cb b)<|Mp r2<|Mh (cb b)<|Kw 0 (cb b)<|Mn (oS u.words) (fun _=>Ky 0<|rr0 false) fun _=>Kl 4 48 (ln aY u.kids)<|Mg 0<|PJ aY u.kids ([]:List ((Int×aR)×Bool)) [1,3,47,48,49] (fun b _ c=>([bj 0 0 0 0,AV.map 1,aW<|u.kids.map aY,nV u.kids.length,nV b],[aZ 8 false 0 [ax [iV u.act,iV u.item,iV u.n,iV u.kind,aV u.label,aW<|u.head.map aQ,aW<|u.words.map aQ,aW<|u.kids.map aY]],AObj.map (cW pL dx c 0) c.length])) (fun b c=>mT u.kind u.kids []=mT u.kind b c) (by rfl) (fun _ _ _ _ _ _ b hj0=>Kh 0 b<|Kl 2 74 (ln aY u.kids)<|Kf 1<|cA<|rr0<|ak<|aF 64<|Int.ofNat u.kids.length) fun b _ c _ _ d e f _ g _ i hj0=>have i:=i.trans<|congrArg some<|aT d;Kt 0 g<|Mx i<|Kp 13 (AW u.kind d.kind)<|Kn 1 (jf u.kind d.kind) (fun b=>Mt (ch b)<|Mt (ch b)<|MV (ch b)<|Ky 1<|rr0 false) fun g=>Kh 0 (cb g)<|Kh 0 (cb g)<|M1 (.look<|eA<|PU m8 (d.kind,d.label) c) (hlk c d.kind d.label)<|My (cb g)<|Mb (PU m8 (d.kind,d.label) c) (fun _=>Kf 0<|cA<|rr0 false) fun _=>K1 1 (.upd (cW pL dx (fV m8 (d.kind,d.label) true c) 0) (fV m8 (d.kind,d.label) true c).length) (hup c d.kind d.label)<|Kl 0 71 (dV b)<|K1 0 (.frz 2 [1,3,47,48,49]) (ca (tM (fV m8 (d.kind,d.label) true c).length 2 (by exact cK LN A8 _ _:fj (cW pL dx (fV m8 (d.kind,d.label) true c) 0)=0)) rt ti)<|Mf<|f (fV m8 (d.kind,d.label) true c)<|by(rw[hj0,mT];simp only[aS,ak,bS, *];done)
theorem JI(u:TUnit)(hl:nU u<2^29):kC 219 [eU u,.func (.func 221) [] [.ptr 0 0 0 0]] (ab [.row 1 false 0 [.nils]])
    (fun v h=>∃y:Nat×Nat×List PId,(y.2.1=y.2.2.length∧y.2.2=dz u)∧v=.bool true∧h=ab [sq y.1 y.2.1,NC y.1 y.2.2]):=by
  have hq:=jy u
  have hkl:=bg u
  exact qe Tryz.func219 fun a=>K1 3 (.frz 1 [1,2,7,8]) (et rt ti)<|Me (XB u)<|Kl 4 13 (ln aY u.kids)<|Mg 0<|WZ aY u.kids (0:Nat) (1:Nat) ([bw u]:List PId) [1,12,13,14] (fun a _ b c d=>([bx (bz 221) [] [bj 0 0 0 0],aW<|u.kids.map aY,nV u.kids.length,nV a],[aZ 1 false 0 [aM 1 b 0 c none],aZ 3 true b<|d.map aU])) (fun a _ b c=>b=c.length∧c++iD a=[bw u]++iD u.kids∧c.length+eJ a<2^30) gR (fun _ _ b c d _ _ _ e f=>Kh 0 e<|Kf 0<|a (b,c,d)<|by(refine⟨f.1,?_⟩;have:=f.2.1;rw[rG,dE]at this;rw[this,nr];rfl)) fun a _ b c d e f g i j k l _ m _=>have m:=(m).trans<|congrArg some<|aT g;have:=cj (J:=fun a b=>b.2.1=b.2.2.length∧b.2.2++iD a=[bw u]++iD u.kids∧b.2.2.length+eJ a<2^30) (a:=(b,c,d)) k f;have:=bX e k;have e:d.length+nU g<2^30:=(by grind[bi]);Kt 0 l<|Mx m<|K1 4 (.frz 2 [1,12,13,14,18,19]) (ca (tR 3 true b 2<|aX J0 d) rt ti)<|Mq (Ob g b c d oA e) fun b _=>Kl 2 22 (dV a)<|Kf 0<|j b.1 b.2.1 b.2.2<|by grind[bi,gc,uE]
theorem Rb(u:TUnit)(hl:nU u<2^29):kP 157 [eU u] (.ls ((dz u).map aU)):=by
  have rr0 b' (h:((dz u).map aU)=b':=by(rw[hy0.2])):=h;exact bG Tryz.func157<|Mg 4<|M0 (.ren [1,0] [] [3,4,5])<|M1 (.frz 1 [3,4,5]) (et rt ti)<|Mq (JI u hl) fun a hy0=>Mg 1<|M2 (.fsl 0 [] 2<|a.2.2.map aU) ti (ca (aK a.1) (tA aU a.2.2 a.2.1 (oA:(a.2.2).length=a.2.1))<|aX J0 a.2.2)<|Ml 2 (fm (a.2.2.map aU) false<|aX J0 a.2.2)<|Mf<|cQ<|rr0<|a.2.2.map aU
theorem XA(u:TUnit)(hl:nU u<2^20):kP 290 [eU u] (.bool (Rc u)):=by
  have hb:(dz u).length<2^20:=by grind[uE]
  have hi:=Rb u (by omega)
  have hlk:∀(m:List (PId×Bool))(a b c:Int),eO (some (.bool false)) false (be true 3 [(0,1),(1,1),(2,1)] (.agg [iV a,iV b,iV c]) (cW aU dx m 0) 0)=some (.bool (PU bB ⟨a,b,c⟩ m)):=fun m a b c=>GC Jn m ⟨a,b,c⟩
  have hup:∀(m:List (PId×Bool))(a b c:Int),sY (cW aU dx m 0) m.length (.agg [iV a,iV b,iV c]) (.bool true) (be true 3 [(0,1),(1,1),(2,1)] (.agg [iV a,iV b,iV c]) (cW aU dx m 0) 0)=some (cW aU dx (fV bB ⟨a,b,c⟩ true m) 0,(fV bB ⟨a,b,c⟩ true m).length):=fun m a b c=>KL Jn m ⟨a,b,c⟩
  have rr0 b' (h:(Rc u)=b':=by((try clear gh1);(try clear gh2);(try clear gh3);(try clear gh4);(try clear gh5);(try clear gh6);(try clear gh7);have e:=Dd (kenc:=aU) (f:=dx) za0 0;simp only[e,lM]at *;simp only[Rc,fO,bB,bw,bT,hj0,Nh,aS,ak,bS, *];first|done|rfl)):=h;exact bG Tryz.func290<|Kp 2 hi<|Kl 4 12 (ln aU<|dz u)<|Mg 0<|PJ aU (dz u) ([]:List (PId×Bool)) [1,3,4,11,12,13] (fun d _ g=>([bj 0 0 0 0,aW<|(dz u).map aU,AV.map 1,aW<|(dz u).map aU,nV (dz u).length,nV d],[aZ 8 false 0 [ax [iV u.act,iV u.item,iV u.n,iV u.kind,aV u.label,aW<|u.head.map aQ,aW<|u.words.map aQ,aW<|u.kids.map aY]],AObj.map (cW aU dx g 0) g.length])) (fun d g=>CA (dz u) []=CA d g) (by rfl) (fun _ _ za0 _ _ _ d hj0=>Kh 0 d<|K1 1 (.look<|eA<|PU bB (PId.mk 0 0 0) za0) (hlk za0 0 0 0)<|Kb 2 (PU bB (PId.mk 0 0 0) za0) (fun d=>Kt 0 d<|Kt 0 d<|Ku 0 d<|Kj 0 (Int.ofNat (cW aU dx za0 0).length) 1 (fun d gh2=>Mt d<|Mt d<|Mt d<|Mt d<|Mt d<|Mt d<|MV d<|Ky 0<|rr0 true) fun d gh2=>Kh 0 d<|Kh 0 d<|Kh 0 d<|Kh 0 d<|Kh 0 d<|Kj 0 (Int.ofNat (cW aU dx za0 0).length) (Int.ofNat ((dz u).map aU).length) (fun g gh3=>Kt 0 g<|Kt 0 g<|Kt 0 g<|Kt 0 g<|Kt 0 g<|Kt 0 g<|Mv (lr ((Tryz.prog).underlying 34) u.act u.item u.n 0 0 0 h0)<|Mt g<|Kh 0 d<|MV g<|My d<|Kf 0<|cA<|rr0<|af u.kind 0==(af u.act 0&&(af u.item 0&&af u.n 0))) fun g gh3=>Mh g<|Mh g<|Mh g<|Mh g<|Mh g<|Mh g<|Mh g<|Mh d<|My g<|My d<|Ky 0<|rr0 false) fun d=>Mh d<|Mh d<|My d<|Kj 6 (Int.ofNat (cW aU dx za0 0).length) (Int.ofNat ((dz u).map aU).length) (fun d gh4=>Kt 0 d<|Kt 0 d<|Kt 0 d<|Kt 0 d<|Kt 0 d<|Kt 0 d<|Mv (lr ((Tryz.prog).underlying 34) u.act u.item u.n 0 0 0 h0)<|Mt d<|Ku 0 d<|Kf 1<|cA<|rr0<|af u.kind 0==(af u.act 0&&(af u.item 0&&af u.n 0))) fun d gh4=>Mh d<|Mh d<|Mh d<|Mh d<|Mh d<|Mh d<|Mh d<|My d<|Ky 1<|rr0 false) fun d _ za0 _ _ g i j _ k _ l hj0=>Kt 0 k<|Mx l<|K1 4 (.upd (cW aU dx (fV bB (PId.mk g.a g.i g.n) true za0) 0) (fV bB (PId.mk g.a g.i g.n) true za0).length) (hup za0 g.a g.i g.n)<|Kl 0 19 (jk d)<|K1 0 (.frz 2 [1,3,4,11,12,13]) (ca (tM (fV bB (PId.mk g.a g.i g.n) true za0).length 2 (by exact cK Jn A8 _ _:fj (cW aU dx (fV bB (PId.mk g.a g.i g.n) true za0) 0)=0)) rt ti)<|Mf<|j (fV bB (PId.mk g.a g.i g.n) true za0)<|by(rw[hj0];rfl)
/-- What a tree's parts must be, so that the walks can count. -/
def sd(x:TUnit):Prop:=x.head.length≤300∧x.words.length≤300∧x.label.length≤2^39∧(∀w,w∈x.head→w.text.length≤2^39)∧∀w,w∈x.words→w.text.length≤2^39
def mD(u:TUnit):Prop:=nU u≤2^19∧∀x,x∈bu u→sd x
theorem Hp(u:TUnit)(h:mD u):kP 219 [eU u,.func (.func 289) [] []] (.bool (wg mK u)):=
  MX 289 mK u
    (fun x hx=>by
      obtain⟨a,b,c,d,e⟩:=h.2 x hx
      have h1:=bg x
      have h2:=dN hx
      have h3:=h.1
      grind[TW])
    (by have h1:=bg u;have h3:=h.1;omega)
    (fun x hx=>by
      have h1:=bg x
      have h2:=dN hx
      have h3:=h.1
      omega)
theorem yj(u:TUnit)(h:mD u):kP 260 [eU u] (.bool (kT u)):=by
  have h1:=h.1
  have e1:=Hp u h
  have e2:=HP u (by omega)
  have e3:=EM u (by omega)
  have e4:=XA u (by omega)
  have hd:=EI u
  have rr0 b' (h:(kT u)=b':=by(simp only[kT,aS,ak,bS, *];done)):=h;exact bG Tryz.func260<|Kp 2 e1<|Kb 0 (wg mK u) (fun a=>Kt 0 a<|Mp e2<|Mt a<|Ku 0 a<|Kn 0 (aF 8<|Int.ofNat<|nZ u) (fun a=>Kt 0 (ch a)<|Mp e3<|Mt (ch a)<|Ku 0 (ch a)<|Kn 0 (aF 1024<|Int.ofNat<|nU u) (fun a=>Kt 0 (ch a)<|Mp e4<|MV (ch a)<|Kf 0<|cA<|rr0<|Rc u) fun a=>Mh (cb a)<|My (cb a)<|Ky 0<|rr0 false) fun a=>Mh (cb a)<|Mh (cb a)<|My (cb a)<|Ky 2<|rr0 false) fun a=>Mh a<|Mh a<|My a<|Ky 4<|rr0 false
theorem r8(l:List PWord)(hl:l.length<2^30):kP 110 [.ls (l.map aQ)] (.ls (l.map aQ)):=by
  cases l with
  |nil=>exact aC.ls0 (Sp.less Le.nils) (So.lessB (u:=.ls []) (by kernel_rfl))
  |cons w r=>grind[Sr]
noncomputable abbrev wG:AObj:=.row 8 false 0 [.agg [iV 0,iV 0,iV 0,iV 0,.str [],.nils,.nils,.nils]]
theorem H0:∀(u:TUnit),nU u≤2^20→(∀x,x∈bu u→x.head.length<2^30∧x.words.length<2^30)→kP 77 [eU u] (eU u):=by
  refine TUnit.ind fun u ih hn ht=>?_
  have hkl:=bg u
  have c1:=r8 u.head (ht u (dU u)).1
  have c2:=r8 u.words (ht u (dU u)).2
  have ihk:∀k,k∈u.kids→kP 77 [eU k] (eU k):=fun k hk=>ih k hk (bR (oR (io hk)) hn) (fun x hx=>ht x (bC hk hx))
  have rr0 b' (h:(u.kids.map aY)=b':=by first|rfl|(rw[←hj0];rfl)|(rw[←hj0.2.2.1,dE])):=h;let q1:=List.map aQ u.words;let q2:=List.map aQ u.head;exact bG Tryz.func77<|Kp 3 c1<|Kp 1 c2<|Kl 7 16 (ln aY u.kids)<|Mg 0<|kM Nat Nat (List TUnit) aY u.kids [1,2,3,15,16,17] (fun a _=>([bj 0 0 0 0,bj 1 0 0 0,al,aW<|u.kids.map aY,nV u.kids.length,nV a],[aZ 8 false 0 [ax [iV u.act,iV u.item,iV u.n,iV u.kind,aV u.label,aW<|u.head.map aQ,aW<|u.words.map aQ,aW<|u.kids.map aY]],aZ 8 false 0 [ax [iV 0,iV 0,iV 0,iV 0,aV [],al,al,al]]])) (fun a _ b c d=>([bj 0 0 0 0,bj 1 0 0 0,aM 2 b 0 c none,aW<|u.kids.map aY,nV u.kids.length,nV a],[aZ 8 false 0 [ax [iV u.act,iV u.item,iV u.n,iV u.kind,aV u.label,aW<|u.head.map aQ,aW<|u.words.map aQ,aW<|u.kids.map aY]],aZ 8 false 0 [ax [iV 0,iV 0,iV 0,iV 0,aV [],al,al,al]],aZ 8 true b<|d.map aY])) (fun a=>a=u.kids) (fun a _ b c=>b=c.length∧(0:Nat)<c.length∧c++a=u.kids∧c.length+a.length=u.kids.length) (by rfl) (fun _ _ _ _ _ a hj0=>Kh 0 a<|Kl 0 27 bM<|Kf 3 (bQ (lc<|lc<|lc<|lc<|lc<|lc<|lc<|.cons (cQ<|rr0 []) .nil)<|by kernel_rfl:Le _ (AV.agg [iV u.act,iV u.item,iV u.n,iV u.kind,AV.str u.label,AV.ls q2,AV.ls q1,AV.ls []]))) (fun a _ _ b c d _ e f g _ i _=>have i:=(i).trans<|congrArg some<|aT c;have hj0:=cj (J:=fun a _=>a=u.kids) (a:=()) f b;Kt 0 g<|Mx i<|Kp 4 (ihk c gR)<|K1 1 (.obj 3<|aZ 8 true 0<|List.map aY [c]) (congrArg (aZ 8 true 0)<|Ur (f:=aY) (g:=Go.Ev.eU) (ws:=[c]) aT)<|Kl 1 26 (dV a)<|K1 0 (.ren [0,1,3,2] [3] [1,2,3,15,16,17]) (tS 8 true 0<|aX iw [c])<|M1 (.frz 3 [1,2,3,15,16,17]) (jd (tR 8 true 0 3<|aX iw [c]) rt rt ti)<|Mf<|e 0 1 [c]<|by(refine⟨rfl,by simp,?_,?_⟩<;>(rw[←hj0])<;>(first|rfl|grind))) (fun _ _ a b c _ _ _ d hj0=>let e:=List.map aY c;Kh 0 d<|Mg 0<|M2 (.fsl 2 [1,2] 27 e) (ca rt rt ti) (ca (aK a) (tA aY c b (oA:(c).length=b))<|aX iw c)<|Ml 27 (fm e false<|aX iw c)<|Kf 3 (bQ (lc<|lc<|lc<|lc<|lc<|lc<|lc<|.cons (cQ<|rr0 e) .nil)<|by kernel_rfl:Le _ (AV.agg [iV u.act,iV u.item,iV u.n,iV u.kind,AV.str u.label,AV.ls q2,AV.ls q1,AV.ls e]))) fun a _ b c d _ e f g _ i j l _ n _=>have n:=(n).trans<|congrArg some<|aT f;have hj0:=cj (J:=fun a b=>b.2.1=b.2.2.length∧(0:Nat)<b.2.2.length∧b.2.2++a=u.kids∧b.2.2.length+a.length=u.kids.length) (a:=(b,c,d)) j e;Kt 0 l<|Mx n<|Kp 4 (ihk f gR)<|K1 0 .app (ca (aK b) (sA:c=(d.map aY).length) (by(refine aO (m:=2^21) ?_ ?_ ?_<;>omega):small (c+1) 120=true))<|M1 (.obj 2<|aZ 8 true (b+1)<|(d++[f]).map aY) (congrArg (aZ 8 true<|b+1)<|yp (f:=aY) (g:=Go.Ev.eU) (l:=d) (ws:=[f]) aT)<|Kl 1 26 (dV a)<|K1 0 (.frz 3 [1,2,3,15,16,17]) (jd (tR 8 true (b+1) 3<|aX iw<|d++[f]) rt rt ti)<|Mf<|i (b+1) (c+1) (d++[f])<|by(refine⟨by simp_all,by simp,?_,?_⟩<;>first|(rw[←hj0.2.2.1];simp;done)|grind)
theorem XN(p:PId)(u:TUnit)(h:By (cV p u) true)(hn:nU u≤2^20)(ht:∀x,x∈bu u→x.head.length<2^30∧x.words.length<2^30):kP 62 [eU u,aU p] (.tuple [eU (ee p u),.bool true]):=by
  have hw:=Fo p u h hn
  have hlen:=mz (p:=p) u
  have hpos:0<(aI p u).length:=qw.2 (lj h)
  have hm:ee p u∈bu u:=KI u _ (RO h)
  have hf:ee p u=gD (aI p u) ((aI p u).length -1):=by unfold ee;simp_all
  have hc:=H0 (ee p u) (bR (dN hm) hn) (fun x hx=>ht x (by
    grind[jY]))
  rw[hf]at hc ⊢
  have hz:=SJ hpos
  exact bG Tryz.func62<|Kp 5 hw<|Kl 2 11 (ln aY<|aI p u)<|Kh 0 hz<|Kl 2 16 (ln aY<|aI p u)<|Kl 0 17 (yz (aI p u).length)<|Mx ((bY aY (oA:(aI p u).length -1<(aI p u).length)).trans<|congrArg some<|aT _)<|Kp 0 hc<|Kf 1<|bh<|eb [ax [iV (gD (aI p u)<|(aI p u).length -1).act,iV (gD (aI p u)<|(aI p u).length -1).item,iV (gD (aI p u)<|(aI p u).length -1).n,iV (gD (aI p u)<|(aI p u).length -1).kind,aV (gD (aI p u)<|(aI p u).length -1).label,aW<|List.map aQ (gD (aI p u)<|(aI p u).length -1).head,aW<|List.map aQ (gD (aI p u)<|(aI p u).length -1).words,aW<|List.map aY (gD (aI p u)<|(aI p u).length -1).kids],eA true]
theorem XP(p:PId)(u:TUnit)(h:By (cV p u) false)(hn:nU u≤2^20):kP 62 [eU u,aU p] (.tuple [eU bf,.bool false]):=by
  have hw:=KH p u h hn
  exact bG Tryz.func62<|Kp 5 hw<|Kf 7 (eL<|.cons (bQ (lc<|lc<|lc<|lc<|lc<|.cons bM<|.cons bM<|.cons bM .nil)<|by kernel_rfl)<|lc .nil:Le _ (eb [ax [iV 0,iV 0,iV 0,iV 0,aV [],al,al,al],eA false]))
theorem RN(p:PId)(u:TUnit)(hn:nU u≤2^20)(ht:∀x,x∈bu u→x.head.length<2^30∧x.words.length<2^30):kP 62 [eU u,aU p] (.tuple [eU (ee p u),.bool (cV p u)]):=by
  cases h:cV p u with
  |true=>grind[XN]
  | false=>
    have:=XP p u h hn
    rwa[show bf=ee p u by unfold ee;simp_all]at this
theorem MY(l m:List PStep)(hl:l.length<2^60)(hm:m.length<2^60):kP 201 [.ls (l.map aj),.ls (m.map aj)] (.bool (cN kg l m)):=by
  have rr0 b' (h:(cN kg l m)=b':=by first|exact rW fJ hj0|exact om fJ|(rw[lk zd0 hr0 fJ hj0];simp only[kg,aS,ak,bS, *];first|done|rfl)):=h;exact bG Tryz.func201<|Kl 2 7 (ln aj l)<|Kl 1 9 (ln aj m)<|Kc 0 (Int.ofNat l.length) (Int.ofNat m.length) (fun _ _=>Ky 0<|rr0 false) fun _ _=>Kl 1 12 (ln aj l)<|Mg 0<|tu aj l [0,1,12,13] (fun a _=>([aW<|l.map aj,aW<|m.map aj,nV l.length,nV a],[])) (fun a=>cN kg l m=cN kg a (m.drop<|l.length-a.length)) sA (fun _ _ zd0 _ hr0 a hj0=>Kh 0 a<|Ky 0<|rr0 true) fun a _ zd0 _ b c d hr0 e _ f hj0=>Kt 0 e<|Kx 3 f<|Kx 2 (bY aj (sA:a<(m).length))<|Kv 0 (E8 (d:=(Tryz.prog).underlying 126) (n:=2) (l:=(0,1)::(1,2)::[]) (xs:=[iV b.kind,aV b.label]) (ys:=[iV (gD m a).kind,aV (gD m a).label]) (H:=AHeap.mk 1000000 Tr.nil) rfl<|pI (e:=af b.kind (gD m a).kind) rfl rfl rfl<|Dv (e:=eV b.label (gD m a).label) rfl rfl rfl rfl)<|Mn (af b.kind (gD m a).kind &&eV b.label (gD m a).label) (fun _=>Kf 0<|cA<|rr0 false) fun _=>Kl 0 25 (dV a)<|Kf 0<|d<|by(rw[lk zd0 hr0 (by grind) hj0];simp only[kg,aS,ak,bS, *];first|done|rfl)
theorem yD(l m:List aR)(hl:l.length<2^60)(hm:m.length<2^60):kP 202 [.ls (l.map nQ),.ls (m.map nQ)] (.bool (cN eV l m)):=by
  have rr0 b' (h:(cN eV l m)=b':=by first|exact rW fJ hj0|exact om fJ|(rw[lk zd0 hr0 fJ hj0];simp only[aS,ak,bS, *];first|done|rfl)):=h;exact bG Tryz.func202<|Kl 2 7 (ln nQ l)<|Kl 1 9 (ln nQ m)<|Kc 0 (Int.ofNat l.length) (Int.ofNat m.length) (fun _ _=>Ky 0<|rr0 false) fun _ _=>Kl 1 12 (ln nQ l)<|Mg 0<|tu nQ l [0,1,12,13] (fun a _=>([aW<|l.map nQ,aW<|m.map nQ,nV l.length,nV a],[])) (fun a=>cN eV l m=cN eV a (m.drop<|l.length-a.length)) sA (fun _ _ zd0 _ hr0 a hj0=>Kh 0 a<|Ky 0<|rr0 true) fun a _ zd0 _ b c d hr0 e _ f hj0=>Kt 0 e<|Kx 3 f<|Kx 2 (bY nQ (sA:a<(m).length))<|Kn 1 (eV b<|gD m a) (fun _=>Kf 0<|cA<|rr0 false) fun _=>Kl 0 25 (dV a)<|Kf 0<|d<|by(rw[lk zd0 hr0 (by grind) hj0];simp only[aS,ak,bS, *];first|done|rfl)
theorem MJ(l m:List PWord)(hl:l.length<2^60)(hm:m.length<2^60):kP 57 [.ls (l.map aQ),.ls (m.map aQ)] (.bool (cN MK l m)):=by
  have rr0 b' (h:(cN MK l m)=b':=by first|exact rW fJ hj0|exact om fJ|(rw[lk zd0 hr0 fJ hj0];simp only[MK,aS,ak,bS, *];first|done|rfl)):=h;exact bG Tryz.func57<|Kl 2 7 (ln aQ l)<|Kl 1 9 (ln aQ m)<|Kc 0 (Int.ofNat l.length) (Int.ofNat m.length) (fun _ _=>Ky 0<|rr0 false) fun _ _=>Kl 1 12 (ln aQ l)<|Mg 0<|tu aQ l [0,1,12,13] (fun a _=>([aW<|l.map aQ,aW<|m.map aQ,nV l.length,nV a],[])) (fun a=>cN MK l m=cN MK a (m.drop<|l.length-a.length)) sA (fun _ _ zd0 _ hr0 a hj0=>Kh 0 a<|Ky 0<|rr0 true) fun a _ zd0 _ b c d hr0 e _ f hj0=>Kt 0 e<|Kx 3 f<|Kx 2 (bY aQ (sA:a<(m).length))<|Kv 0 (E8 (d:=(Tryz.prog).underlying 102) (n:=4) (l:=(0,2)::(1,1)::(2,1)::(3,1)::[]) (xs:=[aV b.text,iV b.act,iV b.item,iV b.at_]) (ys:=[aV (gD m a).text,iV (gD m a).act,iV (gD m a).item,iV (gD m a).at_]) (H:=AHeap.mk 1000000 Tr.nil) rfl<|pI (e:=eV b.text (gD m a).text) rfl rfl rfl<|pI (e:=af b.act (gD m a).act) rfl rfl rfl<|pI (e:=af b.item (gD m a).item) rfl rfl rfl<|Dv (e:=af b.at_ (gD m a).at_) rfl rfl rfl rfl)<|Mn (eV b.text (gD m a).text &&(af b.act (gD m a).act &&(af b.item (gD m a).item &&af b.at_ (gD m a).at_))) (fun _=>Kf 0<|cA<|rr0 false) fun _=>Kl 0 25 (dV a)<|Kf 0<|d<|by(rw[lk zd0 hr0 (by grind) hj0];simp only[MK,aS,ak,bS, *];first|done|rfl)
theorem X5(l m:List TUnit)(g:Nat)(q:TUnit→TUnit→Bool)(hp:∀a,a∈l→∀b,b∈m→kP g [eU a,eU b] (.bool (q a b)))(hl:l.length<2^60)(hm:m.length<2^60):kP 58 [.ls (l.map aY),.ls (m.map aY),.func (.func g) [] []] (.bool (cN q l m)):=by
  have rr0 b' (h:(cN q l m)=b':=by first|exact rW fJ hj0|exact om fJ|(rw[lk zd0 hr0 fJ hj0];simp only[aS,ak,bS, *];first|done|rfl)):=h;exact bG Tryz.func58<|Kl 2 11 (ln aY l)<|Kl 1 13 (ln aY m)<|Kc 0 (Int.ofNat l.length) (Int.ofNat m.length) (fun _ _=>Ky 0<|rr0 false) fun _ _=>Kl 1 16 (ln aY l)<|Mg 0<|tu aY l [1,2,15,16,17] (fun c _=>([aW<|m.map aY,bx (bz g) [] [],aW<|l.map aY,nV l.length,nV c],[])) (fun c=>cN q l m=cN q c (m.drop<|l.length-c.length)) sA (fun _ _ zd0 _ hr0 c hj0=>Kh 0 c<|Ky 0<|rr0 true) fun c _ zd0 _ d e f hr0 i _ j hj0=>have j:=j.trans<|congrArg some<|aT d;Kt 0 i<|Kx 0 j<|Kx 5 ((bY aY (sA:c<(m).length)).trans<|congrArg some<|aT _)<|Kp 5 (hp d (by exact bX zd0 hr0) (gD m c)<|by grind[fR])<|Kn 0 (q d<|gD m c) (fun _=>Kf 0<|cA<|rr0 false) fun _=>Kl 0 31 (dV c)<|K1 0 (.frz 0 [1,2,15,16,17]) ti<|Mf<|f<|by(rw[lk zd0 hr0 (by grind) hj0];simp only[aS,ak,bS, *];first|done|rfl)
theorem X6(l m:List PItem)(g:Nat)(q:PItem→PItem→Bool)(hp:∀a,a∈l→∀b,b∈m→kP g [eI a,eI b] (.bool (q a b)))(hl:l.length<2^60)(hm:m.length<2^60):kP 203 [.ls (l.map Og),.ls (m.map Og),.func (.func g) [] []] (.bool (cN q l m)):=by
  have rr0 b' (h:(cN q l m)=b':=by first|exact rW fJ hj0|exact om fJ|(rw[lk zd0 hr0 fJ hj0];simp only[aS,ak,bS, *];first|done|rfl)):=h;exact bG Tryz.func203<|Kl 2 11 (ln Og l)<|Kl 1 13 (ln Og m)<|Kc 0 (Int.ofNat l.length) (Int.ofNat m.length) (fun _ _=>Ky 0<|rr0 false) fun _ _=>Kl 1 16 (ln Og l)<|Mg 0<|tu Og l [1,2,15,16,17] (fun c _=>([aW<|m.map Og,bx (bz g) [] [],aW<|l.map Og,nV l.length,nV c],[])) (fun c=>cN q l m=cN q c (m.drop<|l.length-c.length)) sA (fun _ _ zd0 _ hr0 c hj0=>Kh 0 c<|Ky 0<|rr0 true) fun c _ zd0 _ d e f hr0 i _ j hj0=>have j:=j.trans<|congrArg some<|eQ d;Kt 0 i<|Kx 0 j<|Kx 5 ((bY Og (sA:c<(m).length)).trans<|congrArg some<|eQ _)<|Kp 5 (hp d (by exact bX zd0 hr0) (gD m c)<|by grind[fR])<|Kn 0 (q d<|gD m c) (fun _=>Kf 0<|cA<|rr0 false) fun _=>Kl 0 31 (dV c)<|K1 0 (.frz 0 [1,2,15,16,17]) ti<|Mf<|f<|by(rw[lk zd0 hr0 (by grind) hj0];simp only[aS,ak,bS, *];first|done|rfl)
theorem Pr:∀(u:TUnit),qT u→∀v,qT v→kP 33 [eU u,eU v] (.bool (Hr u v)):=by
  refine TUnit.ind fun u ih hu v hv=>?_
  obtain⟨u1,u2,u3,u4⟩:=og.1 hu
  obtain⟨v1,v2,v3,v4⟩:=og.1 hv
  have hk:=X5 u.kids v.kids 33 Hr (fun a ha b hb=>ih a ha (u4 a ha) b (v4 b hb)) u3 v3
  have hh:=MJ u.head v.head u1 v1
  have hw:=MJ u.words v.words u2 v2
  have rr0 b' (h:(Hr u v)=b':=by(rw[R8];simp only[bB,bw,bZ,aS,ak,bS, *];first|done|rfl)):=h;exact bG Tryz.func33<|Kv 6 (lr ((Tryz.prog).underlying 34) u.act u.item u.n v.act v.item v.n<|ab [aZ 8 false 0 [ax [iV u.act,iV u.item,iV u.n,iV u.kind,aV u.label,aW<|u.head.map aQ,aW<|u.words.map aQ,aW<|u.kids.map aY]],aZ 8 false 0 [ax [iV v.act,iV v.item,iV v.n,iV v.kind,aV v.label,aW<|v.head.map aQ,aW<|v.words.map aQ,aW<|v.kids.map aY]]])<|Kb 0 (af u.act v.act&&(af u.item v.item&&af u.n v.n)) (fun c=>Kt 0 c<|Kt 0 c<|Kt 0 c<|Kt 0 c<|Ku 0 c<|Kb 0 (af u.kind v.kind) (fun c=>Kt 0 c<|Kt 0 c<|Kt 0 c<|Kt 0 c<|Ku 0 c<|Kb 0 (eV u.label v.label) (fun c=>Kt 0 c<|Kt 0 c<|Kt 0 c<|Kt 0 c<|Mp hh<|MV c<|Kb 0 (cN MK u.head v.head) (fun c=>Kt 0 c<|Kt 0 c<|Kt 0 c<|Kt 0 c<|Mp hw<|MV c<|Kb 0 (cN MK u.words v.words) (fun c=>Kt 0 c<|Kt 0 c<|Kt 0 c<|Kt 0 c<|Mp hk<|MV c<|Kf 0<|cA<|rr0<|cN Hr u.kids v.kids) fun c=>Mh c<|Mh c<|Mh c<|Mh c<|My c<|Ky 0<|rr0 false) fun c=>Mh c<|Mh c<|Mh c<|Mh c<|My c<|Ky 2<|rr0 false) fun c=>Mh c<|Mh c<|Mh c<|Mh c<|My c<|Ky 4<|rr0 false) fun c=>Mh c<|Mh c<|Mh c<|Mh c<|My c<|Ky 6<|rr0 false) fun c=>Mh c<|Mh c<|Mh c<|Mh c<|My c<|Ky 8<|rr0 false
def US(u:PItem)(v:PItem)(N:Bool)(z5:Bool):Prop:=z5=N
noncomputable def UR(u:PItem)(v:PItem)(N:Bool)(z5:Bool):List AV×List AObj:=([AV.ptr 0 0 0 0,AV.ptr 1 0 0 0,AV.bool z5],[AObj.row 25 false 0 [AV.agg [iV u.kind,AV.ls (u.at_.map aj),AV.ls (u.to.map aj),iV u.where_,iV u.nth_,iV u.unit.act,iV u.unit.item,iV u.unit.n,iV u.unit.kind,AV.str u.unit.label,AV.ls (u.unit.head.map aQ),AV.ls (u.unit.words.map aQ),AV.ls (u.unit.kids.map aY),AV.ls (u.old.map nQ),AV.ls (u.new.map nQ),AV.str u.label,AV.str u.for_,iV u.start.kind,iV u.start.day,AV.str u.start.event,iV u.act,iV u.item,iV u.day,AV.str u.event,AV.ls (u.by_.map Og)]],AObj.row 25 false 0 [AV.agg [iV v.kind,AV.ls (v.at_.map aj),AV.ls (v.to.map aj),iV v.where_,iV v.nth_,iV v.unit.act,iV v.unit.item,iV v.unit.n,iV v.unit.kind,AV.str v.unit.label,AV.ls (v.unit.head.map aQ),AV.ls (v.unit.words.map aQ),AV.ls (v.unit.kids.map aY),AV.ls (v.old.map nQ),AV.ls (v.new.map nQ),AV.str v.label,AV.str v.for_,iV v.start.kind,iV v.start.day,AV.str v.start.event,iV v.act,iV v.item,iV v.day,AV.str v.event,AV.ls (v.by_.map Og)]]])
def UP(u:PItem)(v:PItem)(T:Bool)(z5:Bool)(z6:Bool):Prop:=z6=T
noncomputable def UO(u:PItem)(v:PItem)(T:Bool)(z5:Bool)(z6:Bool):List AV×List AObj:=([AV.ptr 0 0 0 0,AV.ptr 1 0 0 0,AV.bool z5,AV.bool z6],[AObj.row 25 false 0 [AV.agg [iV u.kind,AV.ls (u.at_.map aj),AV.ls (u.to.map aj),iV u.where_,iV u.nth_,iV u.unit.act,iV u.unit.item,iV u.unit.n,iV u.unit.kind,AV.str u.unit.label,AV.ls (u.unit.head.map aQ),AV.ls (u.unit.words.map aQ),AV.ls (u.unit.kids.map aY),AV.ls (u.old.map nQ),AV.ls (u.new.map nQ),AV.str u.label,AV.str u.for_,iV u.start.kind,iV u.start.day,AV.str u.start.event,iV u.act,iV u.item,iV u.day,AV.str u.event,AV.ls (u.by_.map Og)]],AObj.row 25 false 0 [AV.agg [iV v.kind,AV.ls (v.at_.map aj),AV.ls (v.to.map aj),iV v.where_,iV v.nth_,iV v.unit.act,iV v.unit.item,iV v.unit.n,iV v.unit.kind,AV.str v.unit.label,AV.ls (v.unit.head.map aQ),AV.ls (v.unit.words.map aQ),AV.ls (v.unit.kids.map aY),AV.ls (v.old.map nQ),AV.ls (v.new.map nQ),AV.str v.label,AV.str v.for_,iV v.start.kind,iV v.start.day,AV.str v.start.event,iV v.act,iV v.item,iV v.day,AV.str v.event,AV.ls (v.by_.map Og)]]])
def Rw(u:PItem)(v:PItem)(R:Bool)(z5:Bool)(z6:Bool)(z7:Bool):Prop:=z7=R
noncomputable def Rk(u:PItem)(v:PItem)(R:Bool)(z5:Bool)(z6:Bool)(z7:Bool):List AV×List AObj:=([AV.ptr 0 0 0 0,AV.ptr 1 0 0 0,AV.bool z5,AV.bool z6,AV.bool z7],[AObj.row 25 false 0 [AV.agg [iV u.kind,AV.ls (u.at_.map aj),AV.ls (u.to.map aj),iV u.where_,iV u.nth_,iV u.unit.act,iV u.unit.item,iV u.unit.n,iV u.unit.kind,AV.str u.unit.label,AV.ls (u.unit.head.map aQ),AV.ls (u.unit.words.map aQ),AV.ls (u.unit.kids.map aY),AV.ls (u.old.map nQ),AV.ls (u.new.map nQ),AV.str u.label,AV.str u.for_,iV u.start.kind,iV u.start.day,AV.str u.start.event,iV u.act,iV u.item,iV u.day,AV.str u.event,AV.ls (u.by_.map Og)]],AObj.row 25 false 0 [AV.agg [iV v.kind,AV.ls (v.at_.map aj),AV.ls (v.to.map aj),iV v.where_,iV v.nth_,iV v.unit.act,iV v.unit.item,iV v.unit.n,iV v.unit.kind,AV.str v.unit.label,AV.ls (v.unit.head.map aQ),AV.ls (v.unit.words.map aQ),AV.ls (v.unit.kids.map aY),AV.ls (v.old.map nQ),AV.ls (v.new.map nQ),AV.str v.label,AV.str v.for_,iV v.start.kind,iV v.start.day,AV.str v.start.event,iV v.act,iV v.item,iV v.day,AV.str v.event,AV.ls (v.by_.map Og)]]])
theorem tU:∀(u:PItem),nq u→∀v,nq v→kP 139 [eI u,eI v] (.bool (EE u v)):=by
  refine PItem.ind fun u ih hu v hv=>?_
  obtain⟨u1,u2,u3,u4,u5,u6,u7⟩:=rQ.1 hu
  obtain⟨v1,v2,v3,v4,v5,v6,v7⟩:=rQ.1 hv
  have hk:=X6 u.by_ v.by_ 139 EE (fun a ha b hb=>ih a ha (u7 a ha) b (v7 b hb)) u5 v5
  have h1:=MY u.at_ v.at_ u1 v1
  have h2:=MY u.to v.to u2 v2
  have h3:=yD u.old v.old u3 v3
  have h4:=yD u.new v.new u4 v4
  have h5:=Pr u.unit u6 v.unit v6
  rw[Vy]
  generalize hN:(af u.kind v.kind&&(af u.where_ v.where_&&(af u.nth_ v.nth_&&(af u.act v.act&&(af u.item v.item&&af u.day v.day)))))=N
  generalize hT:(eV u.label v.label&&(eV u.for_ v.for_&&(eV u.event v.event&&(af u.start.kind v.start.kind&&(af u.start.day v.start.day&&eV u.start.event v.start.event)))))=T
  generalize hR:(cN kg u.at_ v.at_&&(cN kg u.to v.to&&(cN eV u.old v.old&&cN eV u.new v.new)))=R
  have rr0 b' (h:(N&&(T&&(R&&(Hr u.unit v.unit&&cN EE u.by_ v.by_))))=b':=by(subst hz5;subst hz6;subst hz7;clear hN hT hR;simp only[aS,ak,bS, *];first|done|rfl)):=h;exact bG Tryz.func139<|Mg 2<|Mj Bool [2,3,5] (UR u v N) (US u v N) (fun c=>Kb 5 (af u.kind v.kind) (fun d=>Kt 0 d<|Kt 0 d<|Kt 0 d<|Kt 0 d<|Ku 0 d<|Kb 0 (af u.where_ v.where_) (fun d=>Kt 0 d<|Kt 0 d<|Kt 0 d<|Kt 0 d<|Ku 0 d<|Kb 0 (af u.nth_ v.nth_) (fun d=>Kt 0 d<|Kt 0 d<|Kt 0 d<|Kt 0 d<|Ku 0 d<|Kb 0 (af u.act v.act) (fun d=>Kt 0 d<|Kt 0 d<|Kt 0 d<|Kt 0 d<|Ku 0 d<|Kb 0 (af u.item v.item) (fun d=>Kt 0 d<|Kt 0 d<|Kt 0 d<|Kt 0 d<|Ku 0 d<|Kf 0<|c (af u.day v.day) (by(rw[←hN];simp only[bZ,aS,ak,bS, *];first|done|rfl):af u.day v.day=N)) fun d=>Mh d<|Mh d<|Mh d<|Mh d<|My d<|Kf 0<|c false (by(rw[←hN];simp only[bZ,aS,ak,bS, *];first|done|rfl):false=N)) fun d=>Mh d<|Mh d<|Mh d<|Mh d<|My d<|Kf 2<|c false (by(rw[←hN];simp only[bZ,aS,ak,bS, *];first|done|rfl):false=N)) fun d=>Mh d<|Mh d<|Mh d<|Mh d<|My d<|Kf 4<|c false (by(rw[←hN];simp only[bZ,aS,ak,bS, *];first|done|rfl):false=N)) fun d=>Mh d<|Mh d<|Mh d<|Mh d<|My d<|Kf 6<|c false (by(rw[←hN];simp only[bZ,aS,ak,bS, *];first|done|rfl):false=N)) fun d=>Mh d<|Mh d<|Mh d<|Mh d<|My d<|Kf 8<|c false (by(rw[←hN];simp only[bZ,aS,ak,bS, *];first|done|rfl):false=N)) fun c hz5=>have hz5:=hz5;Mj Bool [2,3,5,6] (UO u v T c) (UP u v T c) (fun c=>Kb 5 (eV u.label v.label) (fun d=>Kt 0 d<|Kt 0 d<|Kt 0 d<|Kt 0 d<|Ku 0 d<|Kb 0 (eV u.for_ v.for_) (fun d=>Kt 0 d<|Kt 0 d<|Kt 0 d<|Kt 0 d<|Ku 0 d<|Kb 0 (eV u.event v.event) (fun d=>Kt 0 d<|Kt 0 d<|Kt 0 d<|Kt 0 d<|Mv (E9 (d:=(Tryz.prog).underlying 59) (n:=3) (l:=(0,1)::(1,1)::(2,2)::[]) (xs:=[iV u.start.kind,iV u.start.day,aV u.start.event]) (ys:=[iV v.start.kind,iV v.start.day,aV v.start.event]) (H:=ab [aZ 25 false 0 [ax [iV u.kind,aW<|u.at_.map aj,aW<|u.to.map aj,iV u.where_,iV u.nth_,iV u.unit.act,iV u.unit.item,iV u.unit.n,iV u.unit.kind,aV u.unit.label,aW<|u.unit.head.map aQ,aW<|u.unit.words.map aQ,aW<|u.unit.kids.map aY,aW<|u.old.map nQ,aW<|u.new.map nQ,aV u.label,aV u.for_,iV u.start.kind,iV u.start.day,aV u.start.event,iV u.act,iV u.item,iV u.day,aV u.event,aW<|u.by_.map Og]],aZ 25 false 0 [ax [iV v.kind,aW<|v.at_.map aj,aW<|v.to.map aj,iV v.where_,iV v.nth_,iV v.unit.act,iV v.unit.item,iV v.unit.n,iV v.unit.kind,aV v.unit.label,aW<|v.unit.head.map aQ,aW<|v.unit.words.map aQ,aW<|v.unit.kids.map aY,aW<|v.old.map nQ,aW<|v.new.map nQ,aV v.label,aV v.for_,iV v.start.kind,iV v.start.day,aV v.start.event,iV v.act,iV v.item,iV v.day,aV v.event,aW<|v.by_.map Og]]]) rfl<|pI (e:=af u.start.kind v.start.kind) rfl rfl rfl<|pI (e:=af u.start.day v.start.day) rfl rfl rfl<|Dv (e:=eV u.start.event v.start.event) rfl rfl rfl rfl)<|MV d<|Kf 0<|c (af u.start.kind v.start.kind&&(af u.start.day v.start.day&&eV u.start.event v.start.event)) (by(rw[←hT];simp only[bZ,aS,ak,bS, *];first|done|rfl):(af u.start.kind v.start.kind&&(af u.start.day v.start.day&&eV u.start.event v.start.event))=T)) fun d=>Mh d<|Mh d<|Mh d<|Mh d<|My d<|Kf 0<|c false (by(rw[←hT];simp only[bZ,aS,ak,bS, *];first|done|rfl):false=T)) fun d=>Mh d<|Mh d<|Mh d<|Mh d<|My d<|Kf 2<|c false (by(rw[←hT];simp only[bZ,aS,ak,bS, *];first|done|rfl):false=T)) fun d=>Mh d<|Mh d<|Mh d<|Mh d<|My d<|Kf 4<|c false (by(rw[←hT];simp only[bZ,aS,ak,bS, *];first|done|rfl):false=T)) fun d hz6=>have hz6:=hz6;Mj Bool [2,3,5,6,7] (Rk u v R c d) (Rw u v R c d) (fun c=>Kp 3 h1<|Kb 0 (cN kg u.at_ v.at_) (fun d=>Kt 0 d<|Kt 0 d<|Kt 0 d<|Kt 0 d<|Mp h2<|MV d<|Kb 0 (cN kg u.to v.to) (fun d=>Kt 0 d<|Kt 0 d<|Kt 0 d<|Kt 0 d<|Mp h3<|MV d<|Kb 0 (cN eV u.old v.old) (fun d=>Kt 0 d<|Kt 0 d<|Kt 0 d<|Kt 0 d<|Mp h4<|MV d<|Kf 0<|c (cN eV u.new v.new) (by(rw[←hR];simp only[bZ,aS,ak,bS, *];first|done|rfl):cN eV u.new v.new=R)) fun d=>Mh d<|Mh d<|Mh d<|Mh d<|My d<|Kf 0<|c false (by(rw[←hR];simp only[bZ,aS,ak,bS, *];first|done|rfl):false=R)) fun d=>Mh d<|Mh d<|Mh d<|Mh d<|My d<|Kf 2<|c false (by(rw[←hR];simp only[bZ,aS,ak,bS, *];first|done|rfl):false=R)) fun d=>Mh d<|Mh d<|Mh d<|Mh d<|My d<|Kf 4<|c false (by(rw[←hR];simp only[bZ,aS,ak,bS, *];first|done|rfl):false=R)) fun e hz7=>have hz7:=hz7;Kb 1 c (fun c=>Ku 0 c<|Kb 0 d (fun c=>Ku 0 c<|Kb 0 e (fun c=>Kt 0 c<|Kt 0 c<|Kt 0 c<|Kt 0 c<|Mp h5<|MV c<|Kb 0 (Hr u.unit v.unit) (fun c=>Kt 0 c<|Kt 0 c<|Kt 0 c<|Kt 0 c<|Mp hk<|MV c<|Kf 0<|cA<|rr0<|cN EE u.by_ v.by_) fun c=>Mh c<|Mh c<|Mh c<|Mh c<|My c<|Ky 0<|rr0 false) fun c=>Mh c<|Mh c<|Mh c<|Mh c<|My c<|Ky 2<|rr0 false) fun c=>My c<|Ky 4<|rr0 false) fun c=>My c<|Ky 6<|rr0 false
theorem OT(a b:Int)(s:aR)(n:Bool)(hn:kP 137 [.str s] (.bool n)):kP 138 [.agg [iV a,iV b,.str s]] (.bool (sZ n ⟨a,b,s⟩)):=by
  have rr0 b' (h:(sZ n (PStart.mk a b s))=b':=by(simp only[sZ,aS,ak,bS, *];first|done|rfl)):=h;exact bG Tryz.func138<|Kb 5 (af a 0) (fun c=>Mt c<|Kb 3 (af b 0) (fun c=>Kt 0 c<|Kt 0 c<|Ku 0 c<|Kf 0<|cA<|rr0<|eV s (ByteArray.mk #[]).data.toList) fun c=>Mh c<|Mh c<|My c<|Ky 0<|rr0 false) fun _=>Kb 1 (af a 2) (fun _=>Kb 3 (af b 0) (fun c=>Kt 0 c<|Kt 0 c<|Ku 0 c<|Kf 0<|cA<|rr0<|eV s (ByteArray.mk #[]).data.toList) fun c=>Mh c<|Mh c<|My c<|Ky 0<|rr0 false) fun _=>Kb 1 (af a 1) (fun _=>Kp 1 (vn b 0 1048576)<|Kb 0 (ak (aF b 0)&&ak (aF 1048576 b)) (fun c=>Kt 0 c<|Kt 0 c<|Ku 0 c<|Kf 0<|cA<|rr0<|eV s (ByteArray.mk #[]).data.toList) fun c=>Mh c<|Mh c<|My c<|Ky 0<|rr0 false) fun _=>Kb 1 (af a 3) (fun _=>Kb 3 (af b 0) (fun c=>Kt 0 c<|Kt 0 c<|Mp hn<|MV c<|Ky 0<|rr0 n) fun c=>Mh c<|Mh c<|My c<|Ky 0<|rr0 false) fun _=>Ky 0<|rr0 false
theorem Pi(n:Int):kP 176 [iV n] (.bool (ak (aF n 0)&&ak (aF 3 n))):=by
  exact bG Tryz.func176<|Kp 1 (vn n 0 3)<|Kf 0<|bh<|eA<|ak (aF n 0)&&ak (aF 3 n)
theorem TD(l:List aR)(n:Int)(hl:l.length<2^40)(hs:∀s,s∈l→s.length≤2^39):kP 182 [.ls (l.map nQ),iV n] (.bool (qp l&&ak (aF (.ofNat l.length) n))):=by
  have h:=Lx l hl hs
  have rr0 b' (h:(qp l&&ak (aF (Int.ofNat l.length) n))=b':=by(simp only[aS,ak,bS, *];first|done|rfl)):=h;exact bG Tryz.func182<|Kp 1 h<|Kb 0 (qp l) (fun a=>Kt 0 a<|Kl 0 9 (ln nQ l)<|Mt a<|Kt 0 a<|Ku 0 a<|Kf 0<|cA<|rr0<|ak<|aF (Int.ofNat l.length) n) fun a=>Mh a<|Mh a<|Mh a<|My a<|Ky 0<|rr0 false
theorem XU(x:PItem):kP 183 [eI x] (.bool (ak (aF x.nth_ 0)&&ak (aF 256 x.nth_))):=by
  exact bG Tryz.func183<|Kp 3 (vn x.nth_ 0 256)<|Kf 0<|bh<|eA<|ak (aF x.nth_ 0)&&ak (aF 256 x.nth_)
theorem Tp(s:aR)(hs:s.length≤2^39):kP 200 [.str s,.str [97,98,99,100,101,102,103,104,105,106,107,108,109,110,111,112,113,114,115,116,117,118,119,120,121,122,48,49,50,51,52,53,54,55,56,57,45]] (.str (Lib.trimS s [97,98,99,100,101,102,103,104,105,106,107,108,109,110,111,112,113,114,115,116,117,118,119,120,121,122,48,49,50,51,52,53,54,55,56,57,45])):=Nk (Go.Proofs.enters_of Tryz.func200 (by kernel_rfl) rfl) (fun a b c d e f=>Go.Proofs.Any.strings_Trim_laid Go.Proofs.Tryz.ltrim (by kernel_rfl) a b c d e f) s _ oA (by decide)<|by decide
theorem DX(s:aR)(hs:s.length≤2^39):kP 137 [.str s] (.bool (Ez s)):=by
  have h:=Tp s hs
  have rr0 b' (h:(Ez s)=b':=by(simp only[Ez,aS,ak,bS, *];first|done|rfl)):=h;exact bG Tryz.func137<|Ka 4 (Int.ofNat<|List.length s) 1 (fun a _=>Mt a<|Mt a<|MV a<|Ky 5<|rr0 false) fun a _=>Kh 0 a<|Kh 0 a<|Kw 0 a<|Ka 0 16 (Int.ofNat<|List.length s) (fun a _=>Mt a<|Mt a<|MV a<|Ky 3<|rr0 false) fun a _=>Kh 0 a<|M1 (.chr<|gD s 0) (zS (gR:0<(s).length))<|Mh a<|Kw 0 a<|Ka 0 (Int.ofNat (gD s 0).toNat) 97 (fun a _=>Mt a<|Mt a<|MV a<|Ky 1<|rr0 false) fun a _=>Kh 0 a<|M1 (.chr<|gD s 0) (zS (gR:0<(s).length))<|Mh a<|Kw 0 a<|Mb (aF 122<|Int.ofNat (gD s 0).toNat) (fun a=>have:=ar a;Ky 0<|rr0 false) fun a=>have:=aG a;Kp 0 h<|Kf 1<|cA<|rr0<|eV (Lib.trimS s<|have a:=have a:=have a:=[54,55,56,57,45];49::50::51::52::53::a;have a:=119::120::121::122::48::a;115::116::117::118::a;have a:=have a:=110::111::112::113::114::a;106::107::108::109::a;have a:=101::102::103::104::105::a;97::98::99::100::a) (ByteArray.mk #[]).data.toList
noncomputable def qi(x:PWord):Bool:=ak (aF 100 (.ofNat x.text.length))
noncomputable def mH(ws:List PWord):Bool:=ws.all qi&&ak (aF 300 (.ofNat ws.length))
theorem GR(x:Int):kP 80 [iV x] (.bool false):=by
  have rr0 b' (h:(false)=b':=by simp[bZ]):=h;exact wk Tryz.func80 (.go 4 .fin)<|cA<|rr0<|ak<|af x x
theorem pt(x y:Int):kP 66 [iV x,iV y] (iV (jp x y)):=by
  have rr0 b' (h:(jp x y)=b':=by simp[jp, *]):=h;exact bG Tryz.func66<|Kp 1 (GR x)<|Kp 1 (GR y)<|Kb 7 (aF x y) (fun _=>Kf 0<|li<|rr0 (-1)) fun _=>Kb 2 (aF y x) (fun _=>Kf 0<|li<|rr0 1) fun _=>Kf 0<|li<|rr0 0
theorem F5(ws:List PWord)(hl:ws.length<2^60):kP 141 [.ls (ws.map aQ)] (.bool (mH ws)):=by
  have rr0 b' (h:(mH ws)=b':=by simp only[mH,qi,aS,ak,bS, *]):=h;exact bG Tryz.func141<|Mg 1<|tu aQ ws [0,3] (fun a _=>([aW<|ws.map aQ,nV a],[])) (fun a=>ws.all qi=a.all qi) (by rfl) (fun _ _ _ _ _ a _=>Kl 2 6 (ln aQ ws)<|Kh 0 a<|Kl 1 18 (ln aQ ws)<|Kf 1<|cA<|rr0<|ak<|aF 300<|Int.ofNat ws.length) fun a _ _ _ b c d _ e _ f _=>Kl 2 6 (ln aQ ws)<|Kt 0 e<|Kx 1 f<|Ka 3 100 (Int.ofNat<|List.length b.text) (fun _ _=>Ky 0<|rr0 false) fun _ _=>Kl 1 9 (dV a)<|Kf 0<|d<|by simp_all[qi]
mutual
noncomputable def kO:TUnit→Bool
  |⟨_,_,_,_,label,h,w,kids⟩=>ak (aF 30 (.ofNat label.length))&&mH h&&mH w&&y8 kids
noncomputable def y8:List TUnit→Bool
  |[]=>true
  |u::r=>kO u&&y8 r
end
theorem Ce:∀(l:List TUnit),y8 l=l.all kO
  |[]=>by rw[y8];rfl
  |u::r=>by rw[y8,Ce r];rfl
theorem Cf(u:TUnit):kO u=(ak (aF 30 (.ofNat u.label.length))&&mH u.head&&mH u.words&&u.kids.all kO):=by
  obtain⟨a,b,c,d,e,f,g,h⟩:=u
  rw[kO,Ce];rfl
theorem Pw:∀(u:TUnit),qT u→kP 109 [eU u] (.bool (kO u)):=by
  refine TUnit.ind fun u ih hf=>?_
  obtain⟨f1,f2,f3,f4⟩:=og.1 hf
  have rr0 b' (h:(kO u)=b':=by rw[Cf];simp only[aS,ak,bS, *]):=h;exact bG Tryz.func109<|Ka 6 30 (Int.ofNat<|List.length u.label) (fun a _=>Mt a<|Mt a<|Mt a<|MV a<|Ky 3<|rr0 false) fun a _=>Kh 0 a<|Kh 0 a<|Mp (F5 u.head f1)<|Mh a<|Kw 0 a<|Kn 0 (mH u.head) (fun a=>Mt (ch a)<|Mt (ch a)<|Mt (ch a)<|MV (ch a)<|Ky 1<|rr0 false) fun a=>Kh 0 (cb a)<|Kh 0 (cb a)<|Mp (F5 u.words f2)<|Mh (cb a)<|Kw 0 (cb a)<|Mn (mH u.words) (fun _=>Ky 0<|rr0 false) fun _=>K1 0 (.frz 0 [1,3]) ti<|tu aY u.kids [1,3] (fun a _=>([AV.pptr [ax [iV u.act,iV u.item,iV u.n,iV u.kind,aV u.label,aW<|u.head.map aQ,aW<|u.words.map aQ,aW<|u.kids.map aY]] 0 0,nV a],[])) (fun a=>u.kids.all kO=a.all kO) (by rfl) (fun _ _ _ _ _ a _=>Kl 3 23 (ln aY u.kids)<|Kh 0 a<|Ky 0<|rr0 true) fun a _ b _ c d e f g _ i _=>have i:=i.trans<|congrArg some<|aT c;Kl 3 23 (ln aY u.kids)<|Kt 0 g<|Kx 2 i<|Kp 0 (ih c (by exact bX b f)<|by exact f4 _ (bX b f))<|Kn 0 (kO c) (fun _=>Kf 0<|cA<|rr0 false) fun _=>Kl 1 26 (dV a)<|Kf 0<|e sA
mutual
noncomputable def mF:TUnit→Int→Int→Int
  |⟨_,_,_,_,_,_,_,kids⟩,deep,most=>match aF 20 deep with|true=>most+1|false=>mG kids deep most 1
noncomputable def mG:List TUnit→Int→Int→Int→Int
  |[],_,_,n=>n
  |k::r,deep,most,n=>match aF most n with|true=>n|false=>mG r deep most (n+mF k (deep+1) (most-n))
end
theorem P5(u:TUnit)(deep most:Int):mF u deep most=match aF 20 deep with|true=>most+1|false=>mG u.kids deep most 1:=by
  obtain⟨a,b,c,d,e,f,g,h⟩:=u;rw[mF];rfl
mutual
theorem F3:∀(u:TUnit)(deep most:Int),0≤most→1≤mF u deep most∧mF u deep most≤most+1
  | ⟨_,_,_,_,_,_,_,kids⟩,deep,most,h=>by
    rw[mF]
    split
    · omega
    · exact F4 kids deep most 1 (by omega) (by omega)
theorem F4:∀(l:List TUnit)(deep most n:Int),1≤n→n≤most+1→1≤mG l deep most n∧mG l deep most n≤most+1
  |[],_,_,n,h1,h2=>by grind[mG]
  | k::r,deep,most,n,h1,h2=>by
    rw[mG]
    split
    · omega
    · rename_i h
      have:=aG h
      have:=F3 k (deep+1) (most-n) (by omega)
      exact F4 r deep most _ (by omega) (by omega)
end
theorem TH:∀(u:TUnit),qT u→∀(deep most:Int),0≤deep→deep≤21→0≤most→most≤2^20→kP 108 [eU u,iV deep,iV most] (iV (mF u deep most)):=by
  refine TUnit.ind fun u ih hf deep most d1 d2 m1 m2=>?_
  obtain⟨f1,f2,f3,f4⟩:=og.1 hf
  have rr0 b' (h:(mF u deep most)=b':=by rw[P5];simp only[mG,aS,ak,bS, *]):=h;exact bG Tryz.func108<|Ka 3 20 deep (fun _ _=>Kl 1 12 (Le.wr (x:=most+1) fJ)<|Kf 0<|li<|rr0<|most+1) fun _ _=>K1 1 (.frz 0 [1,2,3,7,8]) ti<|PJ aY u.kids (1:Int) [1,2,3,7,8] (fun a _ b=>([iV deep,iV most,AV.pptr [ax [iV u.act,iV u.item,iV u.n,iV u.kind,aV u.label,aW<|u.head.map aQ,aW<|u.words.map aQ,aW<|u.kids.map aY]] 0 0,iV b,nV a],[])) (fun a b=>(1:Int)≤b∧b≤most+(1:Int)∧mG u.kids deep most (1:Int)=mG a deep most b) oA (fun _ _ a _ _ _ b _=>Kl 3 16 (ln aY u.kids)<|Kh 1 b<|Mh b<|Mh b<|My b<|Kf 2<|li<|rr0 a) fun a _ b c _ d e f g i _ j _=>have j:=j.trans<|congrArg some<|aT d;Kl 3 16 (ln aY u.kids)<|Kt 1 i<|Kt 0 i<|Kt 0 i<|Ku 0 i<|Mn (aF most b) (fun i=>have:=aG i;Kx 3 j<|Kl 2 32 (Le.wr (x:=deep+1) fJ)<|Kl 2 35 (Le.wr (x:=most-b) fJ)<|Mp (ih d (by exact bX c g) (by exact f4 _ (bX c g)) (deep+1) (most-b) oA oA oA oA)<|have:=F3 d (deep+1) (most-b) oA;Kl 0 37 (Le.wr (x:=b+mF d (deep+1) (most-b)) fJ)<|Kl 2 24 (dV a)<|Kf 0<|f (b+mF d (deep+1) (most-b))<|by(refine⟨by omega,by omega,?_⟩;first|rfl|grind[mG])) fun a=>have:=ar a;Kf 1<|li<|rr0 b
noncomputable def Hl(u:TUnit)(most:Int):Bool:=ak (aF most (mF u 0 most))&&kO u
theorem Vq(u:TUnit)(most:Int)(hf:qT u)(m1:0≤most)(m2:most≤2^20):kP 75 [eU u,iV most] (.bool (Hl u most)):=by
  have rr0 b' (h:(Hl u most)=b':=by simp only[Hl,aS,ak,bS, *]):=h;exact bG Tryz.func75<|Kp 3 (TH u hf 0 most oA oA m1 m2)<|Kn 2 (aF most<|mF u 0 most) (fun a=>Kt 0 (ch a)<|Mp (Pw u hf)<|MV (ch a)<|Kf 0<|cA<|rr0<|kO u) fun a=>Mh (cb a)<|My (cb a)<|Ky 0<|rr0 false
noncomputable def xR(s:aR):Bool:=ak (aF 100 (.ofNat s.length))
noncomputable def xP(s:PStep):Bool:=ak (aF 100 (.ofNat s.label.length))
noncomputable def yB(x:PItem):Bool:=
  ak (aF 12 (.ofNat x.at_.length))&&ak (aF 12 (.ofNat x.to.length))&&ak (aF 300 (.ofNat x.old.length))&&ak (aF 300 (.ofNat x.new.length))&&ak (aF 100 (.ofNat x.label.length))&&ak (aF 100 (.ofNat x.for_.length))
  &&ak (aF 100 (.ofNat x.start.event.length))&&ak (aF 100 (.ofNat x.event.length))&&ak (aF 2 (.ofNat x.by_.length))&&Hl x.unit 30
noncomputable def HR(y:PItem):Bool:=aF 0 (.ofNat y.by_.length)&&aF 0 (.ofNat (gD y.by_ 0).by_.length)
mutual
noncomputable def m7:PItem→Bool
  |⟨k,a,t,w,nn,u,o,n,lb,fo,st,ac,it,dy,ev,by_⟩=>yB ⟨k,a,t,w,nn,u,o,n,lb,fo,st,ac,it,dy,ev,by_⟩&&(o.all xR&&(n.all xR&&(a.all xP&&(t.all xP&&Hn by_))))
noncomputable def Hn:List PItem→Bool
  |[]=>true
  |u::r=>(ak (HR u)&&m7 u)&&Hn r
end
noncomputable def IY(y:PItem):Bool:=ak (HR y)&&m7 y
theorem Hm:∀(l:List PItem),Hn l=l.all IY
  |[]=>by rw[Hn];rfl
  |u::r=>by rw[Hn,Hm r];rfl
theorem EC(x:PItem):m7 x=(yB x&&(x.old.all xR&&(x.new.all xR&&(x.at_.all xP&&(x.to.all xP&&x.by_.all IY))))):=by
  obtain⟨k,a,t,w,nn,u,o,n,lb,fo,st,ac,it,dy,ev,by_⟩:=x
  rw[m7,Hm];rfl
theorem Vz:∀(x:PItem),nq x→kP 61 [eI x] (.bool (m7 x)):=by
  refine PItem.ind fun x ih hf=>?_
  obtain⟨f1,f2,f3,f4,f5,f6,f7⟩:=rQ.1 hf
  have hu:kP 75 [eU x.unit,iV 30] (.bool (Hl x.unit 30)):=Vq x.unit 30 f6 (by omega) (by omega)
  have rr0 b' (h:(m7 x)=b':=by rw[EC,yB];simp only[IY,HR,xR,xP,aS,ak,bS, *]):=h;exact bG Tryz.func61<|Kl 4 10 (ln aj x.at_)<|Ka 1 12 (Int.ofNat x.at_.length) (fun a _=>Mt a<|Mt a<|Mt a<|MV a<|Ky 17<|rr0 false) fun a _=>Kh 0 a<|Kh 0 a<|Kl 0 15 (ln aj x.to)<|Mh a<|Kw 0 a<|Ka 0 12 (Int.ofNat x.to.length) (fun a _=>Mt a<|Mt a<|Mt a<|MV a<|Ky 15<|rr0 false) fun a _=>Kh 0 a<|Kh 0 a<|Kl 0 21 (ln nQ x.old)<|Mh a<|Kw 0 a<|Ka 0 300 (Int.ofNat x.old.length) (fun a _=>Mt a<|Mt a<|Mt a<|MV a<|Ky 13<|rr0 false) fun a _=>Kh 0 a<|Kh 0 a<|Kl 0 27 (ln nQ x.new)<|Mh a<|Kw 0 a<|Ka 0 300 (Int.ofNat x.new.length) (fun a _=>Mt a<|Mt a<|Mt a<|MV a<|Ky 11<|rr0 false) fun a _=>Kh 0 a<|Kh 0 a<|Kh 0 a<|Kw 0 a<|Ka 0 100 (Int.ofNat<|List.length x.label) (fun a _=>Mt a<|Mt a<|Mt a<|MV a<|Ky 9<|rr0 false) fun a _=>Kh 0 a<|Kh 0 a<|Kh 0 a<|Kw 0 a<|Ka 0 100 (Int.ofNat<|List.length x.for_) (fun a _=>Mt a<|Mt a<|Mt a<|Mt a<|MV a<|Ky 7<|rr0 false) fun a _=>Kh 0 a<|Kh 0 a<|Kh 0 a<|Kh 0 a<|Kw 0 a<|Ka 0 100 (Int.ofNat<|List.length x.start.event) (fun a _=>Mt a<|Mt a<|Mt a<|MV a<|Ky 5<|rr0 false) fun a _=>Kh 0 a<|Kh 0 a<|Kh 0 a<|Kw 0 a<|Ka 0 100 (Int.ofNat<|List.length x.event) (fun a _=>Mt a<|Mt a<|Mt a<|MV a<|Ky 3<|rr0 false) fun a _=>Kh 0 a<|Kh 0 a<|Kl 0 58 (ln Og x.by_)<|Mh a<|Kw 0 a<|Ka 0 2 (Int.ofNat x.by_.length) (fun a _=>Mt a<|Mt a<|Mt a<|MV a<|Ky 1<|rr0 false) fun a _=>Kh 0 a<|Kh 0 a<|Mp hu<|Mh a<|Kw 0 a<|Mn (Hl x.unit 30) (fun _=>Ky 0<|rr0 false) fun _=>K1 0 (.frz 0 [1,3]) ti<|tu nQ x.old [1,3] (fun a _=>([AV.pptr [ax [iV x.kind,aW<|x.at_.map aj,aW<|x.to.map aj,iV x.where_,iV x.nth_,iV x.unit.act,iV x.unit.item,iV x.unit.n,iV x.unit.kind,aV x.unit.label,aW<|x.unit.head.map aQ,aW<|x.unit.words.map aQ,aW<|x.unit.kids.map aY,aW<|x.old.map nQ,aW<|x.new.map nQ,aV x.label,aV x.for_,iV x.start.kind,iV x.start.day,aV x.start.event,iV x.act,iV x.item,iV x.day,aV x.event,aW<|x.by_.map Og]] 0 0,nV a],[])) (fun a=>x.old.all xR=a.all xR) (by rfl) (fun _ _ _ _ _ a _=>Kl 3 70 (ln nQ x.old)<|Kh 0 a<|Mg 0<|tu nQ x.new [1,4] (fun a _=>([AV.pptr [ax [iV x.kind,aW<|x.at_.map aj,aW<|x.to.map aj,iV x.where_,iV x.nth_,iV x.unit.act,iV x.unit.item,iV x.unit.n,iV x.unit.kind,aV x.unit.label,aW<|x.unit.head.map aQ,aW<|x.unit.words.map aQ,aW<|x.unit.kids.map aY,aW<|x.old.map nQ,aW<|x.new.map nQ,aV x.label,aV x.for_,iV x.start.kind,iV x.start.day,aV x.start.event,iV x.act,iV x.item,iV x.day,aV x.event,aW<|x.by_.map Og]] 0 0,nV a],[])) (fun a=>x.new.all xR=a.all xR) (by rfl) (fun _ _ _ _ _ a _=>Kl 3 84 (ln nQ x.new)<|Kh 0 a<|Mg 0<|tu aj x.at_ [1,5] (fun a _=>([AV.pptr [ax [iV x.kind,aW<|x.at_.map aj,aW<|x.to.map aj,iV x.where_,iV x.nth_,iV x.unit.act,iV x.unit.item,iV x.unit.n,iV x.unit.kind,aV x.unit.label,aW<|x.unit.head.map aQ,aW<|x.unit.words.map aQ,aW<|x.unit.kids.map aY,aW<|x.old.map nQ,aW<|x.new.map nQ,aV x.label,aV x.for_,iV x.start.kind,iV x.start.day,aV x.start.event,iV x.act,iV x.item,iV x.day,aV x.event,aW<|x.by_.map Og]] 0 0,nV a],[])) (fun a=>x.at_.all xP=a.all xP) (by rfl) (fun _ _ _ _ _ a _=>Kl 3 98 (ln aj x.at_)<|Kh 0 a<|Mg 0<|tu aj x.to [1,6] (fun a _=>([AV.pptr [ax [iV x.kind,aW<|x.at_.map aj,aW<|x.to.map aj,iV x.where_,iV x.nth_,iV x.unit.act,iV x.unit.item,iV x.unit.n,iV x.unit.kind,aV x.unit.label,aW<|x.unit.head.map aQ,aW<|x.unit.words.map aQ,aW<|x.unit.kids.map aY,aW<|x.old.map nQ,aW<|x.new.map nQ,aV x.label,aV x.for_,iV x.start.kind,iV x.start.day,aV x.start.event,iV x.act,iV x.item,iV x.day,aV x.event,aW<|x.by_.map Og]] 0 0,nV a],[])) (fun a=>x.to.all xP=a.all xP) (by rfl) (fun _ _ _ _ _ a _=>Kl 3 113 (ln aj x.to)<|Kh 0 a<|Mg 0<|tu Og x.by_ [1,7] (fun a _=>([AV.pptr [ax [iV x.kind,aW<|x.at_.map aj,aW<|x.to.map aj,iV x.where_,iV x.nth_,iV x.unit.act,iV x.unit.item,iV x.unit.n,iV x.unit.kind,aV x.unit.label,aW<|x.unit.head.map aQ,aW<|x.unit.words.map aQ,aW<|x.unit.kids.map aY,aW<|x.old.map nQ,aW<|x.new.map nQ,aV x.label,aV x.for_,iV x.start.kind,iV x.start.day,aV x.start.event,iV x.act,iV x.item,iV x.day,aV x.event,aW<|x.by_.map Og]] 0 0,nV a],[])) (fun a=>x.by_.all IY=a.all IY) (by rfl) (fun _ _ _ _ _ a _=>Kl 3 128 (ln Og x.by_)<|Kh 0 a<|Ky 0<|rr0 true) fun a _ b _ c d e f g _ i _=>have i:=i.trans<|congrArg some<|eQ c;Kl 3 128 (ln Og x.by_)<|Kt 0 g<|Kx 2 i<|Kl 2 138 (ln Og c.by_)<|Ka 1 0 (Int.ofNat c.by_.length) (fun g _=>Kt 0 g<|Kt 0 g<|Kt 0 g<|Mx i<|Mt g<|Kt 0 g<|Kt 0 g<|Mx ((bY Og (sA:0<(c.by_).length)).trans<|congrArg some<|eQ _)<|Mt g<|Kt 0 g<|Kt 0 g<|Kl 0 150 (ln Og (gD c.by_ 0).by_)<|Mt g<|Ku 0 g<|Ka 0 0 (Int.ofNat (gD c.by_ 0).by_.length) (fun a _=>Mt a<|Mt a<|Mt a<|Mt a<|Mt a<|Mt a<|MV a<|Ky 1<|rr0 false) fun g _=>Kh 0 g<|Kh 0 g<|Kh 0 g<|Mx i<|Mh g<|Kh 0 g<|Mp (ih c (by exact bX b f)<|by exact f7 _ (bX b f))<|Mh g<|Kw 0 g<|Mn (m7 c) (fun _=>Kf 0<|cA<|rr0 false) fun _=>Kl 1 131 (dV a)<|Kf 0<|e<|by simp_all[IY,HR]) fun g _=>Mh g<|Mh g<|Mh g<|Mh g<|Mh g<|Mh g<|Mh g<|Mh g<|Mh g<|Mh g<|My g<|Kx 3 i<|Kp 0 (ih c (by exact bX b f)<|by exact f7 _ (bX b f))<|Kn 1 (m7 c) (fun _=>Kf 0<|cA<|rr0 false) fun _=>Kl 1 131 (dV a)<|Kf 0<|e<|by simp_all[IY,HR]) fun a _ _ _ b c d _ e _ f _=>Kl 3 113 (ln aj x.to)<|Kt 0 e<|Kx 2 f<|Ka 3 100 (Int.ofNat<|List.length b.label) (fun _ _=>Ky 0<|rr0 false) fun _ _=>Kl 1 116 (dV a)<|Kf 0<|d<|by simp_all[xP]) fun a _ _ _ b c d _ e _ f _=>Kl 3 98 (ln aj x.at_)<|Kt 0 e<|Kx 2 f<|Ka 3 100 (Int.ofNat<|List.length b.label) (fun _ _=>Ky 0<|rr0 false) fun _ _=>Kl 1 101 (dV a)<|Kf 0<|d<|by simp_all[xP]) fun a _ _ _ b c d _ e _ f _=>Kl 3 84 (ln nQ x.new)<|Kt 0 e<|Kx 2 f<|Ka 2 100 (Int.ofNat<|List.length b) (fun _ _=>Ky 0<|rr0 false) fun _ _=>Kl 1 87 (dV a)<|Kf 0<|d<|by simp_all[xR]) fun a _ _ _ b c d _ e _ f _=>Kl 3 70 (ln nQ x.old)<|Kt 0 e<|Kx 2 f<|Ka 2 100 (Int.ofNat<|List.length b) (fun _ _=>Ky 0<|rr0 false) fun _ _=>Kl 1 73 (dV a)<|Kf 0<|d<|by simp_all[xR]
end Go.Proofs.YtaepacpodblomaaGreatDoor
