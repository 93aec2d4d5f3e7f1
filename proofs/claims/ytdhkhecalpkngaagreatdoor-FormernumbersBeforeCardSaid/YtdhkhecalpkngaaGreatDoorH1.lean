/- Functions walked: what each of them answers, for If an address denotes exactly one unit on the book before an item reference, LastHolder returns that unit, and every unit that LastHolder returns is among the Holders: part 1. Conditions: those that each theorem names. -/
import Derived.Test.YtdhkhecalpkngaaGreatDoorCmb
import Derived.Test.YtdhkhecalpkngaaGreatDoorLay
import Derived.Test.YtdhkhecalpkngaaGreatDoorLay2
namespace Go.Proofs.YtdhkhecalpkngaaGreatDoor
open Go Go.Ev
noncomputable abbrev aW:=@AV.ls
noncomputable abbrev bQ:=@AV.func
noncomputable abbrev aT:=@Fn.func
noncomputable abbrev ct:=@Le.bool
noncomputable abbrev fY:=@Le.ps
noncomputable abbrev lp:=@AV.ps
noncomputable abbrev bY:=@Le.refl
noncomputable abbrev dQ:=@AV.bool
noncomputable abbrev eF:=@Le.tuple
noncomputable abbrev dg:=@AV.tuple
noncomputable abbrev aV:=@AV.str
noncomputable abbrev ak:=@AV.nils
noncomputable abbrev az:=@AV.agg
noncomputable abbrev aZ:=@AObj.row
noncomputable abbrev fm:=@SC
noncomputable abbrev au:=@AV.ptr
noncomputable abbrev aD:=@AV.slice
noncomputable abbrev bA:=@Le.nils
noncomputable abbrev aay:=@ARes.val
theorem ifB(l:bZ)(g:Nat)(p:UInt8->Bool)(hp:∀s,s∈l->kP g [.int .u8 (.ofNat s.toNat)] (.bool (p s)))(hl:l.length<2^40):kP 339 [.ls (l.map nM),.func (.func g) [] []] (iV (cM p l 0)):=by
  have rr0 b' (h:(cM p l 0)=b':=by first|exact lh zd0 hr0 hj0 ‹_› |exact hj0):=h;exact bo Tryz.func339<|Kl 2 7 (ln nM l)<|Mg 0<|tw nM l [0,1,7,8] (fun a _=>([aW<|l.map nM,bQ (aT g) [] [],nV<|List.length l,nV a],[])) (fun a=>cM p l (0:Nat)=cM p a (List.length l-a.length)) sA (fun _ _ zd0 _ hr0 a hj0=>Kh 0 a<|Kf 0<|li<|rr0 (-1)) fun a _ zd0 _ b c d hr0 e _ f hj0=>Kt 0 e<|Kx 4 f<|Kp 0 (hp b<|by exact aI zd0 hr0)<|Mb (p b) (fun _=>Kf 1<|li<|rr0<|Int.ofNat a) fun _=>Kl 0 18 (dU a)<|Kf 0<|d<|by exact jp zd0 hr0 hj0 (by omega)
theorem cfB(l:bZ)(g:Nat)(p:UInt8->Bool)(hp:∀s,s∈l->kP g [.int .u8 (.ofNat s.toNat)] (.bool (p s)))(hl:l.length<2^40):kP 326 [.ls (l.map nM),.func (.func g) [] []] (.bool (l.any p)):=by
  have h:=ifB l g p hp hl
  have rr0 b' (h:(List.any l p)=b':=by(rw[kc];simp only[aS,aw,bS,sQ])):=h;exact bo Tryz.func326<|Kp 2 h<|Kf 1<|ct<|rr0<|aw<|aB (cM p l 0) 0
theorem On(c:UInt8):kP 325 [.int .u8 (.ofNat c.toNat)] (.bool (aw (Qo 33 126 c))):=by
  have rr0 b' (h:(aw (Qo 33 126 c))=b':=by(simp only[Qo,aS,aw,bS,sQ, *])):=h;exact bo Tryz.func325<|Kb 3 (aB (Int.ofNat c.toNat) 33) (fun a=>Mt a<|MV a<|Ky 0<|rr0 true) fun a=>Kh 0 a<|Kw 0 a<|Kf 0<|ct<|rr0<|aB 126<|Int.ofNat c.toNat
theorem SN(s:bZ)(hs:s.length<=2^39):kP 294 [.str s] (.bool (sJ s)):=by
  have h:=cfB s 325 _ (fun c _=>On c) (by omega)
  have rr0 b' (h:(sJ s)=b':=by first|(simp only[sJ,aS,aw,bS, *];done)|(rw[sJ,Rf,List.all_eq_not_any_not];simp only[EJ,aS,aw,bS, *]at *)):=h;let q:=List.map nM s;exact bo Tryz.func294<|Kn 4 (eV s (ByteArray.mk #[]).data.toList) (fun a=>Kt 0 (cS a)<|Kt 0 (cS a)<|Ku 0 (cS a)<|Kn 0 (aB 24<|Int.ofNat<|List.length s) (fun a=>Kt 0 (cS a)<|Mv (U6 (s:=s) (H:=av []) (oA:(s).length<=2^40))<|Mt (cS a)<|Kt 0 (cS a)<|Mp (bX.onArgs (.cons (fY q _<|aX VO s)<|lc .nil) h:kP 326 [lp q false,bQ (aT 325) [] []] _)<|Mt (cS a)<|Ku 0 (cS a)<|Kf 0<|ct<|rr0<|aw<|List.any s fun a=>aw<|Qo 33 126 a) fun a=>Mh (cF a)<|Mh (cF a)<|Mh (cF a)<|Mh (cF a)<|My (cF a)<|Ky 0<|rr0 false) fun a=>Mh (cF a)<|Mh (cF a)<|My (cF a)<|Ky 2<|rr0 false
theorem ifS(l:List bZ)(g:Nat)(p:bZ->Bool)(hp:∀s,s∈l->kP g [.str s] (.bool (p s)))(hl:l.length<2^40):kP 324 [.ls (l.map nK),.func (.func g) [] []] (iV (cM p l 0)):=by
  have rr0 b' (h:(cM p l 0)=b':=by first|exact lh zd0 hr0 hj0 ‹_› |exact hj0):=h;exact bo Tryz.func324<|Kl 2 7 (ln nK l)<|Mg 0<|tw nK l [0,1,7,8] (fun a _=>([aW<|l.map nK,bQ (aT g) [] [],nV l.length,nV a],[])) (fun a=>cM p l (0:Nat)=cM p a (l.length-a.length)) sA (fun _ _ zd0 _ hr0 a hj0=>Kh 0 a<|Kf 0<|li<|rr0 (-1)) fun a _ zd0 _ b c d hr0 e _ f hj0=>Kt 0 e<|Kx 4 f<|Kp 0 (hp b<|by exact aI zd0 hr0)<|Mb (p b) (fun _=>Kf 1<|li<|rr0<|Int.ofNat a) fun _=>Kl 0 18 (dU a)<|Kf 0<|d<|by exact jp zd0 hr0 hj0 (by omega)
theorem cfS(l:List bZ)(g:Nat)(p:bZ->Bool)(hp:∀s,s∈l->kP g [.str s] (.bool (p s)))(hl:l.length<2^40):kP 292 [.ls (l.map nK),.func (.func g) [] []] (.bool (l.any p)):=by
  have h:=ifS l g p hp hl
  have rr0 b' (h:(l.any p)=b':=by(rw[kc];simp only[aS,aw,bS,sQ])):=h;exact bo Tryz.func292<|Kp 2 h<|Kf 1<|ct<|rr0<|aw<|aB (cM p l 0) 0
theorem MW(s:bZ)(hs:s.length<=2^39):kP 293 [.str s] (.bool (aw (sJ s))):=by
  exact bo Tryz.func293<|Kp 1 (SN s hs)<|Kf 1<|bY<|dQ<|aw<|sJ s
theorem KD(l:List bZ)(hl:l.length<2^40)(hs:∀s,s∈l->s.length<=2^39):kP 256 [.ls (l.map nK)] (.bool (qi l)):=by
  have h:=cfS l 293 _ (fun s m=>MW s (hs s m)) hl
  have rr0 b' (h:(qi l)=b':=by first|(simp only[qi,aS,aw,bS, *];done)|(rw[qi,List.all_eq_not_any_not];simp only[aS,aw,bS, *])):=h;exact bo Tryz.func256<|Kl 2 4 (ln nK l)<|Kn 1 (aB 256<|Int.ofNat l.length) (fun a=>Kt 0 (cS a)<|Mp h<|Mt (cS a)<|Ku 0 (cS a)<|Kf 0<|ct<|rr0<|aw<|l.any fun a=>aw<|sJ a) fun a=>Mh (cF a)<|Mh (cF a)<|My (cF a)<|Ky 0<|rr0 false
theorem Po(r:Int):kP 150 [.int .i32 r] (.bool (aB r 48||aB 57 r)):=by
  have rr0 b' (h:(aB r 48||aB 57 r)=b':=by(simp only[aS,aw,bS, *])):=h;exact bo Tryz.func150<|Kb 3 (aB r 48) (fun a=>Mt a<|MV a<|Ky 0<|rr0 true) fun a=>Kh 0 a<|Kw 0 a<|Kf 0<|ct<|rr0<|aB 57 r
theorem TB(r:Int):kP 105 [.int .i32 r] (.bool (aB r 65||aB 90 r)):=by
  have rr0 b' (h:(aB r 65||aB 90 r)=b':=by(simp only[aS,aw,bS, *])):=h;exact bo Tryz.func105<|Kb 3 (aB r 65) (fun a=>Mt a<|MV a<|Ky 0<|rr0 true) fun a=>Kh 0 a<|Kw 0 a<|Kf 0<|ct<|rr0<|aB 90 r
theorem vk(s:PStep):kP 35 [aY s] (.bool (ae s.kind 0&&eV s.label [])):=by
  have rr0 b' (h:(ae s.kind 0&&eV s.label [])=b':=by(simp only[aS,aw,bS, *];first|done|rfl)):=h;exact bo Tryz.func35<|Kb 5 (ae s.kind 0) (fun a=>Kt 0 a<|Kt 0 a<|Ku 0 a<|Kf 0<|ct<|rr0<|eV s.label (ByteArray.mk #[]).data.toList) fun a=>Mh a<|Mh a<|My a<|Ky 0<|rr0 false
theorem va(n a b:Int):kP 207 [iV n,iV a,iV b] (.bool (aw (aB n a)&&aw (aB b n))):=by
  have rr0 b' (h:(aw (aB n a)&&aw (aB b n))=b':=by(simp only[aS,aw,bS, *])):=h;exact bo Tryz.func207<|Kn 4 (aB n a) (fun c=>Kt 0 (cS c)<|Kt 0 (cS c)<|Ku 0 (cS c)<|Kf 0<|ct<|rr0<|aw<|aB b n) fun c=>Mh (cF c)<|Mh (cF c)<|My (cF c)<|Ky 0<|rr0 false
theorem Qu(s:bZ):kP 149 [.str s,.func (.func 150) [] []] (iV (bif Nat.beq (ec km s) s.length then -1 else Int.ofNat (ec km s))):=
  AU iO (Go.Proofs.enters_of Go.Proofs.Tryz.lidxf.f15 (by kernel_rfl) rfl) (Go.Proofs.enters_of Tryz.func150 (by kernel_rfl) rfl)
    (fun s w hp=>Go.Proofs.Any.strings_IndexFunc_grows Go.Proofs.Tryz.lidxf 150 #[] (Go.Proofs.enters_of Tryz.func150 (by kernel_rfl) rfl) _ s w hp) Po (fun _=>rfl) (HF (lo:=48) (hi:=57) (by omega)) s
theorem QA(s:bZ)(h:By (Nat.beq (ec km s) s.length) true):kP 149 [.str s,.func (.func 150) [] []] (iV (-1)):=by
  have:=Qu s
  simp_all
theorem Ub(s:bZ)(h:By (Nat.beq (ec km s) s.length) false):kP 149 [.str s,.func (.func 150) [] []] (nV (ec km s)):=by
  have:=Qu s
  grind
theorem aar(s:bZ):kP 106 [.str s,.func (.func 105) [] []] (.bool (aw (s.all XD))):=
  u9 iO (Go.Proofs.enters_of Go.Proofs.Tryz.lconf.f17 (by kernel_rfl) rfl) (Go.Proofs.enters_of Tryz.func105 (by kernel_rfl) rfl)
    (fun s w hp=>Go.Proofs.Any.strings_ContainsFunc_grows Go.Proofs.Tryz.lconf 105 #[] (Go.Proofs.enters_of Tryz.func105 (by kernel_rfl) rfl) _ s w hp) TB (fun _=>rfl) (HF (lo:=65) (hi:=90) (by omega)) s
theorem M9(s:bZ)(hs:s.length<=2^39):kP 104 [.str s] (.tuple [.str (s.take (ec km s)),.str (s.drop (ec km s))]):=by
  have hl:=Ki (p:=km) (s:=s)
  have rr0 b' (h:(s.take (ec km s))=b':=by(rw[pB h0];simp)):=h;have rr1 b' (h:(s.drop (ec km s))=b':=by(rw[pB h0];simp)):=h;let q:=AHeap.mk 1000000 Tr.nil;exact bo Tryz.func104<|Ks 2 ((ec km s).beq<|List.length s) (fun h0=>Mp (QA s h0)<|Kf 6<|eF<|.cons (Le.str<|rr0 s)<|.cons (Le.str<|rr1 []) .nil) fun h0=>Mp (Ub s h0)<|Kv 5 (WU (s:=s) (n:=ec km s) (k:=IntKind.i64) (H:=q) oA)<|Kv 1 (WY (s:=s) (l:=ec km s) (k:=IntKind.i64) (H:=q) oA)<|Kf 1<|bY<|dg [aV<|s.take<|ec km s,aV<|s.drop<|ec km s]
theorem uf(s:bZ)(hs:s.length<=2^39):kP 68 [.str s] (.bool (ky s)):=by
  have hd:(s.drop (ec km s)).length<=2^39:=by grind
  have rr0 b' (h:(ky s)=b':=by first|(simp only[ky,aS,aw,bS,sQ, *];done)|(simp only[ky,aS,aw,bS,sQ, *];rfl)|(unfold ky;simp only[h0,h1,h2];rfl)):=h;exact bo Tryz.func68<|Kp 1 (M9 s hs)<|Kd 9 (Int.ofNat (s.take<|ec km s).length) 1 (fun h0 _=>Kt 0 (cS h0)<|Kt 0 (cS h0)<|Ku 0 (cS h0)<|Kd 0 4 (Int.ofNat (s.take<|ec km s).length) (fun h1 _=>Kt 0 (cS h1)<|M1 (.chr<|gD (s.take<|ec km s) 0) (zh (gR:0<(s.take (ec km s)).length))<|Mt (cS h1)<|Ku 0 (cS h1)<|Kc 0 (Int.ofNat (gD (s.take<|ec km s) 0).toNat) 48 (fun h2 _=>Kt 0 (cS h2)<|Kt 0 (cS h2)<|Ku 0 (cS h2)<|Kd 0 3 (Int.ofNat (s.drop<|ec km s).length) (fun a _=>Kt 0 (cS a)<|Kt 0 (cS a)<|Mp (aar<|s.drop<|ec km s)<|Mt (cS a)<|Ku 0 (cS a)<|Kf 0<|ct<|rr0<|aw<|aw<|(s.drop<|ec km s).all XD) fun a _=>Mh (cF a)<|Mh (cF a)<|Mh (cF a)<|My (cF a)<|Ky 0<|rr0 false) fun h2 _=>Mh (cF h2)<|Mh (cF h2)<|My (cF h2)<|Ky 2<|rr0 false) fun h1 _=>Mh (cF h1)<|Mh (cF h1)<|My (cF h1)<|Ky 4<|rr0 false) fun h0 _=>Mh (cF h0)<|Mh (cF h0)<|My (cF h0)<|Ky 6<|rr0 false
theorem rz(p:List PStep)(hl:p.length<2^40)(hs:∀s,s∈p->s.label.length<=2^39):kP 33 [.ls (p.map aY)] (.bool (ku p)):=by
  have rr0 b' (h:(ku p)=b':=by first|(rw[ku,hj0,Va];rfl)|(rw[ku,EM zd0 hr0 hj0];simp only[na,tH,‹ae (Int.ofNat zi0) 0=_›,cond_true,cond_false];simp only[EJ,aS,aw,bS, *];first|done|rfl)):=h;exact bo Tryz.func33<|Kl 2 6 (ln aY p)<|Mg 0<|tw aY p [0,5,6,7] (fun a _=>([aW<|p.map aY,aW<|p.map aY,nV p.length,nV a],[])) (fun a=>OK p=H7 p a) (by(exact OJ)) (fun zi0 _ zd0 _ hr0 a hj0=>Kh 0 a<|Kl 1 34 (ln aY p)<|Kf 1<|ct<|rr0<|aw<|aB 9<|Int.ofNat p.length) fun zi0 _ zd0 _ a b c hr0 d _ e hj0=>Kt 0 d<|Kx 0 e<|Kj 6 (Int.ofNat zi0) 0 (fun d _=>Kt 0 d<|Mp (vk a)<|MV d<|Mb (ae a.kind 0&&eV a.label []) (fun _=>Kl 0 32 (dU zi0)<|K1 0 (.frz 0 [0,5,6,7]) ti<|Mf<|c<|by(rw[EM zd0 hr0 hj0];simp only[na,tH,‹ae (Int.ofNat zi0) 0=_›,cond_true,cond_false];simp only[EJ,aS,aw,bS, *];first|done|rfl)) fun _=>Kd 3 0 a.kind (fun a _=>Mt (cS a)<|Mt (cS a)<|MV (cS a)<|Ky 3<|rr0 false) fun d _=>Kh 0 (cF d)<|Kh 0 (cF d)<|Kw 0 (cF d)<|Ka 0 7 a.kind (fun a _=>Mt a<|Mt a<|Mt a<|MV a<|Ky 1<|rr0 false) fun d _=>Kh 0 d<|Kh 0 d<|Mp (uf a.label<|by exact hs _ (aI zd0 hr0))<|Mh d<|Kw 0 d<|Mn (ky a.label) (fun _=>Kf 0<|ct<|rr0 false) fun _=>Kl 0 32 (dU zi0)<|K1 0 (.frz 0 [0,5,6,7]) ti<|Mf<|c<|by(rw[EM zd0 hr0 hj0];simp only[na,tH,‹ae (Int.ofNat zi0) 0=_›,cond_true,cond_false];simp only[EJ,aS,aw,bS, *];first|done|rfl)) fun d _=>Mh d<|My d<|Kd 4 0 a.kind (fun a _=>Mt (cS a)<|Mt (cS a)<|MV (cS a)<|Ky 3<|rr0 false) fun d _=>Kh 0 (cF d)<|Kh 0 (cF d)<|Kw 0 (cF d)<|Ka 0 7 a.kind (fun a _=>Mt a<|Mt a<|Mt a<|MV a<|Ky 1<|rr0 false) fun d _=>Kh 0 d<|Kh 0 d<|Mp (uf a.label<|by exact hs _ (aI zd0 hr0))<|Mh d<|Kw 0 d<|Mn (ky a.label) (fun _=>Kf 0<|ct<|rr0 false) fun _=>Kl 0 32 (dU zi0)<|K1 0 (.frz 0 [0,5,6,7]) ti<|Mf<|c<|by(rw[EM zd0 hr0 hj0];simp only[na,tH,‹ae (Int.ofNat zi0) 0=_›,cond_true,cond_false];simp only[EJ,aS,aw,bS, *];first|done|rfl)
theorem Ua(l:List Int)(v:Int)(hl:l.length<2^40):kP 316 [.ls (l.map bu),iV v] (iV (cM (ae v) l 0)):=by
  have rr0 b' (h:(cM (ae v) l 0)=b':=by first|exact lh zd0 hr0 hj0 ‹_› |exact hj0):=h;exact bo Tryz.func316<|Kl 2 7 (ln bu l)<|Mg 0<|tw bu l [0,1,7,8] (fun a _=>([aW<|l.map bu,iV v,nV l.length,nV a],[])) (fun a=>cM (ae v) l (0:Nat)=cM (ae v) a (l.length-a.length)) sA (fun _ _ zd0 _ hr0 a hj0=>Kh 0 a<|Kf 0<|li<|rr0 (-1)) fun a _ zd0 _ b c d hr0 e _ f hj0=>Kt 0 e<|Kx 4 f<|Kj 1 v b (fun _ _=>Kf 1<|li<|rr0<|Int.ofNat a) fun _ _=>Kl 0 18 (dU a)<|Kf 0<|d<|by exact jp zd0 hr0 hj0 (by omega)
theorem rF(l:List Int)(v:Int)(hl:l.length<2^40):kP 284 [.ls (l.map bu),iV v] (.bool (l.any (ae v))):=by
  have h:=Ua l v hl
  have rr0 b' (h:(l.any (ae v))=b':=by(rw[kc];simp only[aS,aw,bS,sQ])):=h;exact bo Tryz.func284<|Kp 2 h<|Kf 1<|ct<|rr0<|aw<|aB (cM (ae v) l 0) 0
theorem Qt(v:Int):kP 316 [.nils,iV v] (iV (-1)):=by
  let q:=[ak,iV v,iV 0,iV 0];exact bo Tryz.func316<|Mg 3<|Vh [0,1,7,8] (q,[]) True 0 ti fun _ _=>Kf 2<|bY<|iV (-1)
theorem HC(v:Int):kP 284 [.nils,iV v] (.bool false):=by
  have h:=Qt v
  exact bo Tryz.func284<|Kp 2 h<|Kf 1<|bY<|dQ false
theorem kn0:kP 336 [iV 0] (.str (cT 0)):=by
  exact wk Tryz.func336 (.go 11 .fin)<|bY<|aV [98,111,111,107]
theorem kn1:kP 336 [iV 1] (.str (cT 1)):=by
  exact wk Tryz.func336 (.go 11 .fin)<|bY<|aV [112,97,114,116]
theorem kn2:kP 336 [iV 2] (.str (cT 2)):=by
  exact wk Tryz.func336 (.go 11 .fin)<|bY<|aV [115,101,99,116,105,111,110]
theorem kn3:kP 336 [iV 3] (.str (cT 3)):=by
  exact wk Tryz.func336 (.go 11 .fin)<|bY<|aV [112,97,114,97,103,114,97,112,104]
theorem kn4:kP 336 [iV 4] (.str (cT 4)):=by
  exact wk Tryz.func336 (.go 11 .fin)<|bY<|aV [116,97,98,108,101]
theorem kn5:kP 336 [iV 5] (.str (cT 5)):=by
  exact wk Tryz.func336 (.go 11 .fin)<|bY<|aV [114,111,119]
theorem kn6:kP 336 [iV 6] (.str (cT 6)):=by
  exact wk Tryz.func336 (.go 11 .fin)<|bY<|aV [99,101,108,108]
theorem kn7:kP 336 [iV 7] (.str (cT 7)):=by
  exact wk Tryz.func336 (.go 11 .fin)<|bY<|aV [110,111,116,101]
theorem knX(k:Int)(h:k<0\/7<k):kP 336 [iV k] (.str (cT k)):=by
  rw[JW h]
  have c:aB k 0=true\/(aB k 0=false/\aB k 8=false):=by
    grind[nG,kw]
  rcases c with c|⟨c,d⟩
  · exact bo Tryz.func336<|Kt 3 c<|Mt c<|MV c<|Kf 1<|bY<|aV []
  · exact bo Tryz.func336<|Kh 3 c<|Kh 0 c<|Kw 0 c<|Mt (cS d)<|Kf 0<|bY<|aV []
theorem xX(k:Int):kP 336 [iV k] (.str (cT k)):=by
  by_cases h:k<0\/7<k
  · grind[knX]
  · grind[kn0,kn1,kn2,kn3,kn4,kn5,kn6,kn7]
theorem ccX(p k:Int)(h:p<0\/7<p):kP 237 [iV p,iV k] (.bool (jc p k)):=by
  unfold jc
  rw[Ib h]
  have c:aB p 0=true\/(aB p 0=false/\aB p 8=false):=by
    grind[nG,kw]
  rcases c with c|⟨c,d⟩
  · exact bo Tryz.func237<|Kh 3 (cF c)<|Mh (cF c)<|My (cF c)<|Kf 2<|bY<|dQ false
  · exact bo Tryz.func237<|Kt 3 (cS c)<|Kt 0 (cS c)<|Ku 0 (cS c)<|Kh 0 d<|Mh d<|Mh d<|Mh d<|Mh d<|My d<|Kf 0<|bY<|dQ false
theorem cc0(k:Int):kP 237 [iV 0,iV k] (.bool (jc 0 k)):=by
  have h:=rF [1,2] k (by grind)
  let q:=[iV 1,iV 2];exact bo Tryz.func237<|Kp 11 (bX.onArgs (.cons (fY q _<|by rfl)<|lc .nil) h:kP 284 [lp q false,iV k] _)<|Kf 1<|bY<|dQ<|[1,2].any<|ae k
theorem cc1(k:Int):kP 237 [iV 1,iV k] (.bool (jc 1 k)):=by
  have h:=rF [2] k (by grind)
  let q:=[iV 2];exact bo Tryz.func237<|Kp 11 (bX.onArgs (.cons (fY q _<|by rfl)<|lc .nil) h:kP 284 [lp q false,iV k] _)<|Kf 1<|bY<|dQ<|[2].any<|ae k
theorem cc2(k:Int):kP 237 [iV 2,iV k] (.bool (jc 2 k)):=by
  have h:=rF [3,4,7] k (by grind)
  let q:=[iV 3,iV 4,iV 7];exact bo Tryz.func237<|Kp 11 (bX.onArgs (.cons (fY q _<|by rfl)<|lc .nil) h:kP 284 [lp q false,iV k] _)<|Kf 1<|bY<|dQ<|[3,4,7].any<|ae k
theorem cc3(k:Int):kP 237 [iV 3,iV k] (.bool (jc 3 k)):=by
  have h:=rF [3,4,7] k (by grind)
  let q:=[iV 3,iV 4,iV 7];exact bo Tryz.func237<|Kp 11 (bX.onArgs (.cons (fY q _<|by rfl)<|lc .nil) h:kP 284 [lp q false,iV k] _)<|Kf 1<|bY<|dQ<|[3,4,7].any<|ae k
theorem cc4(k:Int):kP 237 [iV 4,iV k] (.bool (jc 4 k)):=by
  have h:=rF [5] k (by grind)
  let q:=[iV 5];exact bo Tryz.func237<|Kp 11 (bX.onArgs (.cons (fY q _<|by rfl)<|lc .nil) h:kP 284 [lp q false,iV k] _)<|Kf 1<|bY<|dQ<|[5].any<|ae k
theorem cc5(k:Int):kP 237 [iV 5,iV k] (.bool (jc 5 k)):=by
  have h:=rF [6] k (by grind)
  let q:=[iV 6];exact bo Tryz.func237<|Kp 11 (bX.onArgs (.cons (fY q _<|by rfl)<|lc .nil) h:kP 284 [lp q false,iV k] _)<|Kf 1<|bY<|dQ<|[6].any<|ae k
theorem cc6(k:Int):kP 237 [iV 6,iV k] (.bool (jc 6 k)):=by
  have h:=HC k
  exact bo Tryz.func237<|Kp 11 h<|Kf 1<|bY<|dQ false
theorem cc7(k:Int):kP 237 [iV 7,iV k] (.bool (jc 7 k)):=by
  have h:=HC k
  exact bo Tryz.func237<|Kp 11 h<|Kf 1<|bY<|dQ false
theorem zp(p k:Int):kP 237 [iV p,iV k] (.bool (jc p k)):=by
  by_cases h:p<0\/7<p
  · grind[ccX]
  · grind[cc0,cc1,cc2,cc3,cc4,cc5,cc6,cc7]
theorem aM{n b m:Nat}(h1:n<=m)(h2:m<=2^40)(h3:m*b<=2^40):small n b=true:=by
  unfold small
  have h4:n*b<=m*b:=eB b h1
  grind[Nat.ble_eq_true_of_le]
noncomputable abbrev wB(u:TUnit):AObj:=.row 8 false 0 [eU u]
def Ik(p:PId)(u:TUnit)(x0:Nat×List TUnit×Unit):Prop:=(u.kids).drop x0.1=x0.2.1/\cw p u.kids=cw p x0.2.1
noncomputable def yF(p:PId)(u:TUnit)(x0:Nat×List TUnit×Unit):List AV×List AObj:=([AV.ptr 0 0 0 0,AV.ptr 1 0 0 0,AV.ls (u.kids.map aq),nV u.kids.length,nV x0.1],[AObj.row 8 false 0 [AV.agg [iV u.act,iV u.item,iV u.n,iV u.kind,AV.str u.label,AV.ls (u.head.map aQ),AV.ls (u.words.map aQ),AV.ls (u.kids.map aq)]],AObj.row 3 false 0 [AV.agg [iV p.a,iV p.i,iV p.n]]])
theorem Fw(p:PId):∀(u:TUnit),nU u<=2^20->(cK p u=false->kP 58 [eU u,aJ p] .nils)/\(cK p u=true->kP 58 [eU u,aJ p] (.ps ((aF p u).map aq) false)):=by
  refine TUnit.ind fun u ih hn=>?_
  have ihn:∀k,k∈u.kids->By (cK p k) false->kP 58 [eU k,aJ p] .nils:=fun k hk h=>(ih k hk (bO (tc (iL hk)) hn)).1 h
  have ihy:∀k,k∈u.kids->By (cK p k) true->kP 58 [eU k,aJ p] (.ps ((aF p k).map aq) false):=fun k hk h=>(ih k hk (bO (tc (iL hk)) hn)).2 h
  have hkl:=bf u
  refine⟨fun hs=>?_,fun hs=>?_⟩
  · let q:=[az [iV u.act,iV u.item,iV u.n,iV u.kind,aV u.label,aW (u.head.map aQ),aW (u.words.map aQ),aW (u.kids.map aq)]];let q3:=[iV p.a,iV p.i,iV p.n];exact bo Tryz.func58<|Kv 5 (kH ((Tryz.prog).underlying 26) u.act u.item u.n p.a p.i p.n<|av [aZ 8 false 0 q,aZ 3 false 0 [az q3]])<|Mb (ae u.act p.a&&(ae u.item p.i&&ae u.n p.n)) (fun _=>Kf 2<|fm (by exact absurd (hs.symm.trans (Ew ‹_›)) (by grind):(AV.nils)=(AV.ps q true))) fun _=>Kl 2 16 (ln aq u.kids)<|Mg 0<|SH (0:Nat) u.kids () [2,3,15,16,17] (fun a _ _=>([au 0 0 0 0,au 1 0 0 0,aW<|u.kids.map aq,nV u.kids.length,nV a],[aZ 8 false 0 [az [iV u.act,iV u.item,iV u.n,iV u.kind,aV u.label,aW<|u.head.map aQ,aW<|u.words.map aQ,aW<|u.kids.map aq]],aZ 3 false 0 [az [iV p.a,iV p.i,iV p.n]]])) (fun a b _=>(u.kids).drop a=b/\cw p u.kids=cw p b) (fun _ a _=>a.length) (et rfl<|by rfl) fun a b c d e=>Mc b (fun a=>have b:=fN d.1 a;have:=ie (J:=fun a _=>cw p u.kids=cw p a) (a:=c) a d.2;Kh 0 b<|Kf 0<|bY ak) fun b f g=>let i:=List.map aq<|[u]++aF p b;have j:=fT d.1 g;have:=aA j;have l:=(fL (enc:=aq) d.1 g).trans<|congrArg some<|aR b;have c:=cb (J:=fun a _=>cw p u.kids=cw p a) (a:=c) g d.2;have:nU b<nU u:=iL<|aI d.1 g;have:(aF p b).length<=nU b:=me b;Kt 0 j<|Mx l<|Ks 4 (cK p b) (fun a=>Mp (ihy b (by exact aI d.1 g) a)<|Mg 6<|M2 .apl (et (by simp_all[ll]:List.map aq (aF p b)≠[])<|gH (sz:=8) (f:=aq) (fun _=>by(rw[aR];rfl))<|aF p b) (et (by(refine aM (m:=2^21) ?_ ?_ ?_<;>(try simp only[lM,lC,lN])<;>(have:=me (p:=p) b;omega)):small (([AV.agg [iV u.act,iV u.item,iV u.n,iV u.kind,AV.str u.label,AV.ls (u.head.map aQ),AV.ls (u.words.map aQ),AV.ls (u.kids.map aq)]]).length+((aF p b).map aq).length) 120=true) rt)<|M1 (.obj 3<|aZ 8 true 0 i) (congrArg (aZ 8 true 0) (by(simp only[qQ,eu,wc,aR,eb]<;>rfl):[AV.agg [iV u.act,iV u.item,iV u.n,iV u.kind,AV.str u.label,AV.ls (u.head.map aQ),AV.ls (u.words.map aQ),AV.ls (u.kids.map aq)]]++List.map aq (aF p b)=List.map aq ([u]++aF p b)))<|Mg 0<|M2 (.fsl 0 [] 4 i) ti (ch (ax 0) (tA aq ([u]++aF p b) (q++List.map aq (aF p b)).length (sA:([u]++aF p b).length=([AV.agg [iV u.act,iV u.item,iV u.n,iV u.kind,AV.str u.label,AV.ls (u.head.map aQ),AV.ls (u.words.map aQ),AV.ls (u.kids.map aq)]]++List.map aq (aF p b)).length))<|aX iU<|[u]++aF p b)<|Ml 4 (fY i false<|aX iU<|[u]++aF p b)<|Mf<|fm (by exact absurd (hs.symm.trans (Ug (by assumption) c (by omega))) (by grind):(AV.nils)=(AV.ls i))) fun c=>Mp (ihn b (by exact aI d.1 g) c)<|Kl 4 30 (dU a)<|K1 0 (.frz 2 [2,3,15,16,17]) (ch rt rt ti)<|Mf<|e (a+1) f () (et (bH d.1 g)<|by grind[jJ])<|fZ g
  · have rr0:∀b',(h:((aF p u).map aq)=b':=by first|rfl|exact absurd (hs.symm.trans (G0 (by assumption) hj0)) (by decide)|(rw[rv (by assumption),eu,aR];rfl)|(rw[J2 (by assumption) hj0 (by assumption)];rfl))->((aF p u).map aq)=b':=(fun _ h=>h);let q:=[az [iV u.act,iV u.item,iV u.n,iV u.kind,aV u.label,aW (u.head.map aQ),aW (u.words.map aQ),aW (u.kids.map aq)]];let q3:=[iV p.a,iV p.i,iV p.n];exact bo (hv:=(aX iU (aF p u))) Tryz.func58 (Kv 5 (EL (d:=(Tryz.prog).underlying 26) (n:=3) (l:=(0,1)::(1,1)::(2,1)::[]) (xs:=[iV u.act,iV u.item,iV u.n]) (ys:=q3) (H:=av [aZ 8 false 0 q,aZ 3 false 0 [az q3]]) rfl (pG (e:=ae u.act p.a) rfl rfl rfl (pG (e:=ae u.item p.i) rfl rfl rfl (C6 (e:=ae u.n p.n) rfl rfl rfl rfl)))) (Mb (ae u.act p.a&&(ae u.item p.i&&ae u.n p.n)) (fun h0=>Kf 2 ((SB (rr0 q)):Le _ (lp q true))) (fun h0=>Kl 2 16 (Le.len (f:=aq) (l:=u.kids)) (Mg 0 (ML (Nat×List TUnit×Unit) [2,3,15,16,17] (yF p u) (Ik p u) (fun x=>x.2.1.length) (0,u.kids,()) (ax ((yF p u) (0,u.kids,()))) (et (rfl:List.drop 0 (u.kids)=u.kids) (by rfl:(cw p u.kids=cw p u.kids))) (fun x0 hx0 nx0=>Mc x0.2.1 (fun hr0=>have lt0:=fN hx0.1 hr0;have hj0:=ie (J:=fun r x=>cw p u.kids=cw p r) (a:=x0.2.2) hr0 hx0.2;(Kh 0 lt0 (Kf 0 (fm (by exact absurd (hs.symm.trans (G0 (by assumption) hj0)) (by grind):(AV.ps ((aF p u).map aq) false)=(AV.nils)))))) (fun w0 r0 hr0=>let q2:=List.map aq ([u]++aF p w0);have lt0:=fT hx0.1 hr0;have glt0:=aA lt0;have nt0:=(fL (enc:=aq) hx0.1 hr0).trans (congrArg some (aR w0));have hj0:=cb (J:=fun r x=>cw p u.kids=cw p r) (a:=x0.2.2) hr0 hx0.2;have q0:nU w0<nU u:=iL (aI hx0.1 hr0);have q1:(aF p w0).length<=nU w0:=me w0;(Kt 0 lt0 (Mx nt0 (Ks 4 (cK p w0) (fun h2=>Mp (ihy w0 (by exact aI hx0.1 hr0) h2) (Mg 6 (M2 .apl (et (by simp_all[ll]:List.map aq (aF p w0)≠[]) (gH (sz:=8) (f:=aq) (fun _=>by(rw[aR];rfl)) (aF p w0))) (et (by(refine aM (m:=2^21) ?_ ?_ ?_<;>(try simp only[lM,lC,lN])<;>(have:=me (p:=p) w0;omega)):small (([AV.agg [iV u.act,iV u.item,iV u.n,iV u.kind,AV.str u.label,AV.ls (u.head.map aQ),AV.ls (u.words.map aQ),AV.ls (u.kids.map aq)]]).length+((aF p w0).map aq).length) 120=true) rt) (M1 (.obj 3 (aZ 8 true 0 q2)) (congrArg (aZ 8 true 0) (by(simp only[qQ,eu,wc,aR,eb]<;>rfl):[AV.agg [iV u.act,iV u.item,iV u.n,iV u.kind,AV.str u.label,AV.ls (u.head.map aQ),AV.ls (u.words.map aQ),AV.ls (u.kids.map aq)]]++List.map aq (aF p w0)=List.map aq ([u]++aF p w0))) (Mg 0 (M2 (.fsl 0 [] 4 q2) ti (ch (ax (0)) (KZ (f:=aq) (l:=[u]++aF p w0) (n:=(q++List.map aq (aF p w0)).length) (by simp_all:([u]++aF p w0).length=([AV.agg [iV u.act,iV u.item,iV u.n,iV u.kind,AV.str u.label,AV.ls (u.head.map aQ),AV.ls (u.words.map aQ),AV.ls (u.kids.map aq)]]++List.map aq (aF p w0)).length)) (aX iU ([u]++aF p w0))) (Mf ((SB (rr0 q2)):Le _ (lp q2 false))))))))) (fun h2=>Mp (ihn w0 (by exact aI hx0.1 hr0) h2) (Kl 4 30 (Le.wr (x:=Int.ofNat x0.1+1) ft) (K1 0 (.frz 2 [2,3,15,16,17]) (ch rt rt ti) (Mf (nx0 (x0.1+1,r0,()) (et (bH hx0.1 hr0) (by grind[jJ]:(cw p u.kids=cw p r0))) (fZ hr0))))))))))))))))
theorem J3(p:PId)(u:TUnit)(h:By (cK p u) false)(hn:nU u<=2^20):kP 58 [eU u,aJ p] .nils:=(Fw p u hn).1 h
theorem Fk(p:PId)(u:TUnit)(h:By (cK p u) true)(hn:nU u<=2^20):kP 58 [eU u,aJ p] (.ps ((aF p u).map aq) false):=(Fw p u hn).2 h
theorem RR:kP 99 [.nils] .nils:=by
  exact wk Tryz.func99 (.go 4 .fin)<|bY ak
theorem RP:kP 99 [.ps [] false] (.ps [] true):=by
  exact wk Tryz.func99 (.go 7 .fin)<|bY<|lp [] true
theorem RS(w:PWord)(r:List PWord)(hl:r.length<2^30):kP 99 [.ls ((w::r).map aQ)] (.ls ((w::r).map aQ)):=by
  let q:=List.map aQ (w::r);exact bo Tryz.func99<|Mg 1<|Mz 3 (fun(a:((w::r).map aQ:List AV)=[])=>Mw .abs<|ja _ _ a)<|Mg 3<|M2 .apl (et (sA:List.map aQ (w::r)≠[])<|fM 4 aQ (w::r) fun _=>rfl) (by(refine aM (m:=2^31) ?_ ?_ ?_<;>first|omega|grind):small ((w::r).map aQ).length 40=true)<|Mg 0<|M2 (.fsl 0 [] 2 q) ti (ch (ax 0) (tA aQ (w::r) q.length (sA:(w::r).length=((w::r).map aQ).length))<|aX iS<|w::r)<|Ml 2 (fY q false<|aX iS<|w::r)<|Mf<|bY<|aW q
theorem NW(p:PId)(u:TUnit)(h:By (cK p u) false)(hn:nU u<=2^20):kP 253 [eU u,.pptr [aJ p] 0 0] (.bool false):=by
  have h':cK p u=false:=h
  exact bo Tryz.func253<|Kp 3 (J3 p u h hn)<|Kf 1<|bY<|dQ false
theorem NX(p:PId)(u:TUnit)(h:By (cK p u) true)(hn:nU u<=2^20):kP 253 [eU u,.pptr [aJ p] 0 0] (.bool true):=by
  have h':cK p u=true:=h
  exact bo Tryz.func253<|Kp 3 (Fk p u h hn)<|Kf 1<|bY<|dQ true
theorem aa4(l:List TUnit)(g:Nat)(q:TUnit->Bool)(hp:∀k,k∈l->kP g [eU k] (.bool (q k)))(hl:l.length<2^40):kP 252 [.ls (l.map aq),.func (.func g) [] []] (iV (cM q l 0)):=by
  have rr0 b' (h:(cM q l 0)=b':=by first|exact lh zd0 hr0 hj0 ‹_› |exact hj0):=h;exact bo Tryz.func252<|Kl 2 7 (ln aq l)<|Mg 0<|tw aq l [0,1,7,8] (fun a _=>([aW<|l.map aq,bQ (aT g) [] [],nV l.length,nV a],[])) (fun a=>cM q l (0:Nat)=cM q a (l.length-a.length)) sA (fun _ _ zd0 _ hr0 a hj0=>Kh 0 a<|Kf 0<|li<|rr0 (-1)) fun a _ zd0 _ b c d hr0 e _ f hj0=>have f:=f.trans<|congrArg some<|aR b;Kt 0 e<|Kx 4 f<|Kp 0 (hp b<|by exact aI zd0 hr0)<|Mb (q b) (fun _=>Kf 1<|li<|rr0<|Int.ofNat a) fun _=>Kl 0 18 (dU a)<|Kf 0<|d<|by exact jp zd0 hr0 hj0 (by omega)
theorem aan(l:List TUnit)(g:Nat)(p:PId)(q:TUnit->Bool)(hp:∀k,k∈l->kP g [eU k,.pptr [aJ p] 0 0] (.bool (q k)))(hl:l.length<2^40):kP 252 [.ls (l.map aq),.func (.func g) [] [.pptr [aJ p] 0 0]] (iV (cM q l 0)):=by
  have rr0 b' (h:(cM q l 0)=b':=by first|exact lh zd0 hr0 hj0 ‹_› |exact hj0):=h;exact bo Tryz.func252<|Kl 2 7 (ln aq l)<|Mg 0<|tw aq l [0,1,7,8] (fun a _=>([aW<|l.map aq,bQ (aT g) [] [AV.pptr [az [iV p.a,iV p.i,iV p.n]] 0 0],nV l.length,nV a],[])) (fun a=>cM q l (0:Nat)=cM q a (l.length-a.length)) sA (fun _ _ zd0 _ hr0 a hj0=>Kh 0 a<|Kf 0<|li<|rr0 (-1)) fun a _ zd0 _ b c d hr0 e _ f hj0=>have f:=f.trans<|congrArg some<|aR b;Kt 0 e<|Kx 4 f<|Kp 0 (hp b<|by exact aI zd0 hr0)<|Mb (q b) (fun _=>Kf 1<|li<|rr0<|Int.ofNat a) fun _=>Kl 0 18 (dU a)<|Kf 0<|d<|by exact jp zd0 hr0 hj0 (by omega)
theorem Rn{D a:Nat}{w:TUnit}{r:List TUnit}{u:TUnit}(h:D=Nat.max a (kO (w::r))/\a<=2^20)(q0:nU w<nU u)(q1:nY w<nU w)(hn:nU u<=2^20):D=Nat.max (Nat.max a (1+nY w)) (kO r)/\Nat.max a (1+nY w)<=2^20:=by
  grind[kO]
theorem UM{D a:Nat}(h:D=Nat.max a (kO [])/\a<=2^20):D=a:=by
  simp_all[DJ]
theorem Hr:∀(u:TUnit),nU u<=2^20->kP 241 [eU u] (nV (nY u)):=by
  refine TUnit.ind fun u ih hn=>?_
  have hkl:=bf u
  have ihk:∀k,k∈u.kids->kP 241 [eU k] (nV (nY k)):=fun k hk=>ih k hk (bO (tc (iL hk)) hn)
  have rr0 b' (h:(Int.ofNat (nY u))=b':=by(rw[LA,UM hj0])):=h;exact bo Tryz.func241<|Kl 5 8 (ln aq u.kids)<|Mg 0<|L5 aq u.kids (0:Nat) [3,7,8,9] (fun a _ b=>([nV b,aW<|u.kids.map aq,nV u.kids.length,nV a],[aZ 8 false 0 [az [iV u.act,iV u.item,iV u.n,iV u.kind,aV u.label,aW<|u.head.map aQ,aW<|u.words.map aQ,aW<|u.kids.map aq]]])) (fun a b=>kO u.kids=b.max (kO a)/\b<=2^20) sA (fun _ _ a _ _ _ b hj0=>Kh 0 b<|Kf 1<|li<|rr0<|Int.ofNat a) fun a _ b c d e f g i j _ l _=>have l:=(l).trans<|congrArg some<|aR e;have hj0:=cb (J:=fun a b=>kO u.kids=b.max (kO a)/\b<=2^20) (a:=b) i d;have d:=iL<|aI c i;have m:=Em e;Kt 0 j<|Mx l<|Kp 4 (ihk e<|by exact aI c i)<|Kl 0 16 (cZ (x:=(1:Int)+Int.ofNat (nY e)) (n:=(1:Nat)+nY e) ft)<|Kl 0 17 (oW (k:=IntKind.i64)<|Wn b<|1+nY e)<|Kl 1 18 (iF a)<|K1 0 (.frz 1 [3,7,8,9]) (et rt ti)<|Mf<|g (b.max<|1+nY e)<|by exact Rn hj0 d m hn
theorem Lo(g:Nat)(q:TUnit->Bool):∀(u:TUnit),(∀x,x∈bB u->kP g [eU x] (.bool (q x)))->u.kids.length<2^40->(∀x,x∈bB u->x.kids.length<2^40)->kP 101 [eU u,.func (.func g) [] []] (.bool (wy q u)):=by
  refine TUnit.ind fun u ih hp hl hk=>?_
  have ihk:∀k,k∈u.kids->kP 101 [eU k,.func (.func g) [] []] (.bool (wy q k)):=fun k hm=>ih k hm (fun x hx=>hp x (bM hm hx)) (hk k (Lz hm)) (fun x hx=>hk x (bM hm hx))
  have hs:=hp u (dh u)
  have rr0 b' (h:(wy q u)=b':=by first|(rw[yh];simp only[aS,aw,bS, *];done)|(rw[yh,hj0,OW])|(rw[yh,hj0,BW];simp only[aS,aw,bS, *];done)):=h;exact bo Tryz.func101<|Kp 3 hs<|Kn 0 (q u) (fun _=>Ky 0<|rr0 false) fun _=>Kl 2 13 (ln aq u.kids)<|K1 0 (.frz 0 [1,12,13,14]) ti<|tw aq u.kids [1,12,13,14] (fun a _=>([bQ (aT g) [] [],aW<|u.kids.map aq,nV u.kids.length,nV a],[])) (fun a=>(q u&&(dB u.kids).all q)=(dB a).all q) (by(simp only[aS,aw,bS, *];done)) (fun _ _ _ _ _ a hj0=>Kh 0 a<|Ky 0<|rr0 true) fun a _ b _ c d e f i _ j hj0=>have j:=j.trans<|congrArg some<|aR c;Kt 0 i<|Mx j<|Kp 4 (ihk c<|by exact aI b f)<|Kn 0 (wy q c) (fun _=>Kf 0<|ct<|rr0 false) fun _=>Kl 0 22 (dU a)<|K1 0 (.frz 0 [1,12,13,14]) ti<|Mf<|e<|by simp_all[BW]
theorem NS(u:TUnit)(n:Nat)(hn:n<2^40):kD 242 [eU u,.ptr 0 0 0 0] (av [.row 1 false 0 [nV n]]) (.bool true) (av [.row 1 false 0 [nV (n+1)]]):=by
  exact dE Tryz.func242 fun a=>Kl 3 5 (iF n)<|K1 1 (.frz 1 [3]) (et rt ti)<|Mf a
theorem Hv:∀(u:TUnit),∀(n:Nat),n+nU u<2^40->kD 101 [eU u,.func (.func 242) [] [.ptr 0 0 0 0]] (av [.row 1 false 0 [nV n]]) (.bool true) (av [.row 1 false 0 [nV (n+nU u)]]):=by
  refine TUnit.ind fun u ih n hn=>?_
  have hq:=jk u
  have hl:=bf u
  exact CQ Tryz.func101<|K1 3 (.frz 1 [1,2,7,8]) (et rt ti)<|Me (NS u n oA)<|Kl 4 13 (ln aq u.kids)<|Mg 0<|L5 aq u.kids (n+1) [1,12,13,14] (fun a _ b=>([bQ (aT 242) [] [au 0 0 0 0],aW<|u.kids.map aq,nV u.kids.length,nV a],[aZ 1 false 0 [nV b]])) (fun a b=>n+nU u=b+eJ a/\b+eJ a<2^40) oA (fun _ _ a _ _ _ b _=>Kh 0 b<|Kf 0<|et (ax<|dQ true) (by simp_all[mg]:(av [AObj.row 1 false 0 [nV a]])=(av [AObj.row 1 false 0 [nV (n+nU u)]]))) fun a _ b c _ d e f g h _ i _=>have i:=i.trans<|congrArg some<|aR d;have c:=aI c g;have g:b+nU d<2^40:=(by grind[be]);Kt 0 h<|Mx i<|K1 4 (.frz 1 [1,12,13,14,18,19]) (et rt ti)<|Me (ih d c b g)<|Kl 2 22 (iF a)<|Kf 0<|f (b+nU d)<|by grind[be]
theorem Eo(u:TUnit)(hn:nU u<2^39):kP 171 [eU u] (nV (nU u)):=by
  have rr0 b' (h:(Int.ofNat (nU u))=b':=by(rw[fO])):=h;exact bo Tryz.func171<|Mg 5<|M0 (.ren [1,0] [] [3,4,5])<|M1 (.frz 1 [3,4,5]) (et rt ti)<|Me (Hv u 0 oA)<|Kf 1<|li<|rr0<|Int.ofNat<|0+nU u
noncomputable abbrev r9(ep n:Nat):AObj:=.row 1 false 0 [.slice 1 ep 0 n none]
noncomputable abbrev M8(ep:Nat)(l:List PId):AObj:=.row 3 true ep (l.map aJ)
theorem XZ(u:TUnit):kD 102 [eU u,.ptr 0 0 0 0] (av [.row 1 false 0 [.nils]]) (.bool true) (av [r9 0 1,M8 0 [bw u]]):=by
  exact Z0 Tryz.func102 (.go 8<|.ren [0,2,1] [] [3]<|.frz 2 [3] .fin) fun a=>et (ch rt rt ti) a
theorem XX(u:TUnit)(ep n:Nat)(l:List PId)(hn:n=l.length)(hl:l.length<2^30):kD 102 [eU u,.ptr 0 0 0 0] (av [r9 ep n,M8 ep l]) (.bool true) (av [r9 (ep+1) (n+1),M8 (ep+1) (l++[bw u])]):=by
  exact dE Tryz.func102 fun a=>K1 5 .app (ch (ax ep) (sA:n=(l.map aJ).length) (by(refine aM (m:=2^31) ?_ ?_ ?_<;>omega):small (n+1) 24=true))<|M1 (.obj 1<|aZ 3 true (ep+1)<|(l++[PId.mk u.act u.item u.n]).map aJ) (congrArg (aZ 3 true<|ep+1)<|dJ (f:=aJ) (l:=l) (ws:=[PId.mk u.act u.item u.n]))<|K1 1 (.frz 2 [3]) (ch (tR 3 true (ep+1) 2<|aX Jl<|l++[PId.mk u.act u.item u.n]) rt ti)<|Mf a
theorem NG:∀(u:TUnit),∀(ep n:Nat)(l:List PId),n=l.length->l.length+nU u<2^30->kC 101 [eU u,.func (.func 102) [] [.ptr 0 0 0 0]] (av [r9 ep n,M8 ep l])
    (fun v h=>∃y:Nat×Nat×List PId,(y.2.1=y.2.2.length/\y.2.2=l++dx u)/\v=.bool true/\h=av [r9 y.1 y.2.1,M8 y.1 y.2.2]):=by
  refine TUnit.ind fun u ih ep n l hn hl=>?_
  have hq:=jk u
  have hkl:=bf u
  exact qx Tryz.func101 fun a=>K1 3 (.frz 2 [1,2,7,8]) (ch (tR 3 true ep 2<|aX Jl l) rt ti)<|Me (XX u ep n l hn oA)<|Kl 4 13 (ln aq u.kids)<|Mg 0<|Su aq u.kids (ep+1) (n+1) (l++[bw u]) [1,12,13,14] (fun a _ b c d=>([bQ (aT 102) [] [au 0 0 0 0],aW<|u.kids.map aq,nV u.kids.length,nV a],[aZ 1 false 0 [aD 1 b 0 c none],aZ 3 true b<|d.map aJ])) (fun a _ b c=>b=c.length/\c++iE a=l++[bw u]++iE u.kids/\c.length+eJ a<2^30) gR (fun _ _ b c d _ _ _ e _=>Kh 0 e<|Kf 0<|a (b,c,d)<|by grind[rA,nH]) fun a _ b c d e f g i j k m _ o _=>have o:=(o).trans<|congrArg some<|aR g;have:=cb (J:=fun a b=>b.2.1=b.2.2.length/\b.2.2++iE a=l++[bw u]++iE u.kids/\b.2.2.length+eJ a<2^30) (a:=(b,c,d)) k f;have e:=aI e k;have f:d.length+nU g<2^30:=(by grind[be]);Kt 0 m<|Mx o<|K1 4 (.frz 2 [1,12,13,14,18,19]) (ch (tR 3 true b 2<|aX Jl d) rt ti)<|Mq (ih g e b c d oA f) fun b _=>Kl 2 22 (dU a)<|Kf 0<|j b.1 b.2.1 b.2.2<|by grind[be,gc,uC]
theorem Vp(l:List PWord)(hl:l.length<=300)(hs:∀w,w∈l->w.text.length<=2^39):kP 338 [.ls (l.map aQ)] (.bool (oS l)):=by
  have hv:=KD (l.map PWord.text) (by grind) (fun s hm=>by grind)
  have rr0 b' (h:(oS l)=b':=by(simp only[oS,aS,aw,bS, *])):=h;exact bo Tryz.func338<|Kl 3 7 (ln aQ l)<|Mg 0<|kB Nat Nat (List bZ) aQ l [0,3,6,7,8] (fun a _=>([aW<|l.map aQ,ak,aW<|l.map aQ,nV l.length,nV a],[])) (fun a _ b c d=>([aW<|l.map aQ,aD 0 b 0 c none,aW<|l.map aQ,nV l.length,nV a],[aZ 1 true b<|d.map nK])) (fun a=>a=l) (fun a _ b c=>b=c.length/\(0:Nat)<c.length/\c++List.map PWord.text a=List.map PWord.text l/\c.length+a.length=l.length) (by rfl) (fun _ _ _ _ _ a _=>Kh 0 a<|Kl 1 19 (ln aQ l)<|Kd 1 256 (Int.ofNat l.length) (fun a _=>Kt 0 (cS a)<|Mp (bX.onArgs (.cons (Le.lsn (sA:((l.map PWord.text).map nK)=[])) .nil) hv:kP 256 [ak] _)<|MV (cS a)<|Kf 0<|ct<|rr0<|qi<|l.map PWord.text) fun a _=>Mh (cF a)<|My (cF a)<|Kf 0<|ct<|rr0 false) (fun a _ _ _ b c _ d _ e _ f g=>Kt 0 e<|Mx f<|Kl 9 17 (iF a)<|Mg 0<|M0 (.ren [1,0] [] [0,3,6,7,8])<|M1 (.frz 1 [0,3,6,7,8]) (et rt ti)<|Mf<|d 0 1 [b.text]<|by(refine⟨rfl,by simp,?_,?_⟩<;>(rw[<-g])<;>(first|rfl|grind))) (fun _ _ a b c _ _ _ d _=>Kh 0 d<|Kl 1 19 (ln aQ l)<|Kd 1 256 (Int.ofNat l.length) (fun d _=>Mg 0<|M2 (.fsl 0 [21] 22<|c.map nK) ti (ch (ax a) (tA nK c b (oA:(c).length=b))<|aX Ji c)<|Ml 22 (fY (c.map nK) false<|aX Ji c)<|Mt (cS d)<|Mp (bX.onArgs (.cons (cn (sA:((l.map PWord.text).map nK)=(c.map nK))) .nil) hv:kP 256 [aW (c.map nK)] _)<|MV (cS d)<|Kf 0<|ct<|rr0<|qi<|l.map PWord.text) fun a _=>Mh (cF a)<|My (cF a)<|Kf 0<|ct<|rr0 false) fun a _ b c d _ _ e f _ g _ i _ j k=>Kt 0 i<|Mx j<|K1 6 .app (ch (ax b) (sA:c=(d.map nK).length) (by(refine aM (m:=2^20) ?_ ?_ ?_<;>omega):small (c+1) 16=true))<|M1 (.obj 0<|aZ 1 true (b+1)<|(d++[e.text]).map nK) (congrArg (aZ 1 true<|b+1)<|dJ (f:=nK) (l:=d) (ws:=[e.text]))<|Kl 1 17 (iF a)<|K1 0 (.frz 1 [0,3,6,7,8]) (et (tR 1 true (b+1) 1<|aX Ji<|d++[e.text]) ti)<|Mf<|g (b+1) (c+1) (d++[e.text])<|by(refine⟨by simp_all,by simp,?_,?_⟩<;>first|(rw[<-k.2.2.1];simp;done)|grind)
theorem pK(a b:Nat):Int.ofNat (a+b)=Int.ofNat a+Int.ofNat b:=rfl
theorem Sg(u:TUnit)(h1:u.head.length<=300)(h2:u.words.length<=300)(h3:u.kids.length<2^30)(h4:u.label.length<=2^39)(h5:∀w,w∈u.head->w.text.length<=2^39)(h6:∀w,w∈u.words->w.text.length<=2^39):kP 321 [eU u] (.bool (ma u)):=by
  have hlk:∀(m:List ((Int×bZ)×Bool))(a:Int)(s:bZ),eD (some (.bool false)) false (bx true 2 [(0,1),(1,2)] (.agg [iV a,.str s]) (aC pH dj m 0) 0)=some (.bool (Oc nX (a,s) m)):=fun m a s=>Gg Lx m (a,s)
  have hup:∀(m:List ((Int×bZ)×Bool))(a:Int)(s:bZ),qj (aC pH dj m 0) m.length (.agg [iV a,.str s]) (.bool true) (bx true 2 [(0,1),(1,2)] (.agg [iV a,.str s]) (aC pH dj m 0) 0)=some (aC pH dj (fp nX (a,s) true m) 0,(fp nX (a,s) true m).length):=fun m a s=>J5 Lx m (a,s)
  have r1:=Vp u.head h1 h5
  have r2:=Vp u.words h2 h6
  have r3:=uf u.label h4
  have rr0 b' (h:(ma u)=b':=by first|(rw[ma,hj0,m8];simp only[EJ,bg,pK,cond_true,cond_false,aS,aw,bS,yu,Bool.false_and,Bool.not_true,BL,Bool.true_and, *];first|done|rfl)|(simp only[ma,EJ,bg,pK,cond_true,cond_false,aS,aw,bS, *];done)|(simp only[ma,m8,EJ,bg,pK,cond_true,cond_false,aS,aw,bS, *];done)|(simp only[ma,m8,EJ,bg,pK,cond_true,cond_false,aS,aw,bS,yu,Bool.false_and,Bool.not_true,BL,Bool.true_and, *];first|done|rfl)):=h;exact bo Tryz.func321<|Kj 4 u.kind 0 (fun _ b=>Kn 3 (eV u.label (ByteArray.mk #[]).data.toList) (fun b=>Mt (cS b)<|Mt (cS b)<|Mt (cS b)<|Mt (cS b)<|Mt (cS b)<|Mt (cS b)<|Mt (cS b)<|MV (cS b)<|Ky 1<|rr0 false) fun c=>Kh 0 (cF c)<|Kh 0 (cF c)<|Kl 0 16 (ln aQ u.head)<|Mh (cF c)<|Kh 0 (cF c)<|Kh 0 (cF c)<|Kl 0 19 (ln aQ u.words)<|Mh (cF c)<|Kl 0 20 (Le.wr (x:=Int.ofNat u.head.length+Int.ofNat u.words.length) ft)<|Mh (cF c)<|Kw 0 (cF c)<|Mb (aB 0<|Int.ofNat u.head.length+Int.ofNat u.words.length) (fun b=>have:=aA b;Ky 0<|rr0 false) fun c=>have:=aE c;Kl 4 48 (ln aq u.kids)<|Mg 0<|L5 aq u.kids ([]:List ((Int×bZ)×Bool)) [1,3,47,48,49] (fun b _ c=>([au 0 0 0 0,AV.map 1,aW<|u.kids.map aq,nV u.kids.length,nV b],[aZ 8 false 0 [az [iV u.act,iV u.item,iV u.n,iV u.kind,aV u.label,aW<|u.head.map aQ,aW<|u.words.map aQ,aW<|u.kids.map aq]],AObj.map (aC pH dj c 0) c.length])) (fun b c=>m8 u.kind u.kids []=m8 u.kind b c) (by rfl) (fun _ _ _ _ _ _ b hj0=>Kh 0 b<|Kl 2 74 (ln aq u.kids)<|Kf 1<|ct<|rr0<|aw<|aB 64<|Int.ofNat u.kids.length) fun c _ d _ _ e f g _ i _ j hj0=>have j:=j.trans<|congrArg some<|aR e;Kt 0 i<|Mx j<|Kl 11 59 (oW (k:=IntKind.i64) b)<|Kp 1 (zp 0 e.kind)<|Kn 1 (jc 0 e.kind) (fun b=>Mt (cS b)<|Mt (cS b)<|MV (cS b)<|Ky 1<|rr0 false) fun b=>Kh 0 (cF b)<|Kh 0 (cF b)<|M1 (.look<|dQ<|Oc nX (e.kind,e.label) d) (hlk d e.kind e.label)<|My (cF b)<|Mb (Oc nX (e.kind,e.label) d) (fun _=>Kf 0<|ct<|rr0 false) fun _=>K1 1 (.upd (aC pH dj (fp nX (e.kind,e.label) true d) 0) (fp nX (e.kind,e.label) true d).length) (hup d e.kind e.label)<|Kl 0 71 (dU c)<|K1 0 (.frz 2 [1,3,47,48,49]) (ch (tM (fp nX (e.kind,e.label) true d).length 2 (by exact aP Lx Ar _ _:bV (aC pH dj (fp nX (e.kind,e.label) true d) 0)=0)) rt ti)<|Mf<|g (fp nX (e.kind,e.label) true d)<|by(rw[hj0,m8];simp only[aS,aw,bS, *];done)) fun _ _=>Kp 1 (xX u.kind)<|Kb 1 (eV (cT u.kind) (ByteArray.mk #[]).data.toList) (fun b=>Mt b<|Mt b<|Mt b<|MV b<|Ky 5<|rr0 false) fun b=>Kh 0 b<|Kh 0 b<|Mp r3<|Mh b<|Kw 0 b<|Kn 0 (ky u.label) (fun b=>Mt (cS b)<|Mt (cS b)<|Mt (cS b)<|MV (cS b)<|Ky 3<|rr0 false) fun b=>Kh 0 (cF b)<|Kh 0 (cF b)<|Mp r1<|Mh (cF b)<|Kw 0 (cF b)<|Kn 0 (oS u.head) (fun b=>Mt (cS b)<|Mt (cS b)<|Mt (cS b)<|MV (cS b)<|Ky 1<|rr0 false) fun b=>Kh 0 (cF b)<|Kh 0 (cF b)<|Mp r2<|Mh (cF b)<|Kw 0 (cF b)<|Mn (oS u.words) (fun _=>Ky 0<|rr0 false) fun _=>Kl 4 48 (ln aq u.kids)<|Mg 0<|L5 aq u.kids ([]:List ((Int×bZ)×Bool)) [1,3,47,48,49] (fun b _ c=>([au 0 0 0 0,AV.map 1,aW<|u.kids.map aq,nV u.kids.length,nV b],[aZ 8 false 0 [az [iV u.act,iV u.item,iV u.n,iV u.kind,aV u.label,aW<|u.head.map aQ,aW<|u.words.map aQ,aW<|u.kids.map aq]],AObj.map (aC pH dj c 0) c.length])) (fun b c=>m8 u.kind u.kids []=m8 u.kind b c) (by rfl) (fun _ _ _ _ _ _ b hj0=>Kh 0 b<|Kl 2 74 (ln aq u.kids)<|Kf 1<|ct<|rr0<|aw<|aB 64<|Int.ofNat u.kids.length) fun b _ c _ _ d e f _ g _ i hj0=>have i:=i.trans<|congrArg some<|aR d;Kt 0 g<|Mx i<|Kp 13 (zp u.kind d.kind)<|Kn 1 (jc u.kind d.kind) (fun b=>Mt (cS b)<|Mt (cS b)<|MV (cS b)<|Ky 1<|rr0 false) fun g=>Kh 0 (cF g)<|Kh 0 (cF g)<|M1 (.look<|dQ<|Oc nX (d.kind,d.label) c) (hlk c d.kind d.label)<|My (cF g)<|Mb (Oc nX (d.kind,d.label) c) (fun _=>Kf 0<|ct<|rr0 false) fun _=>K1 1 (.upd (aC pH dj (fp nX (d.kind,d.label) true c) 0) (fp nX (d.kind,d.label) true c).length) (hup c d.kind d.label)<|Kl 0 71 (dU b)<|K1 0 (.frz 2 [1,3,47,48,49]) (ch (tM (fp nX (d.kind,d.label) true c).length 2 (by exact aP Lx Ar _ _:bV (aC pH dj (fp nX (d.kind,d.label) true c) 0)=0)) rt ti)<|Mf<|f (fp nX (d.kind,d.label) true c)<|by(rw[hj0,m8];simp only[aS,aw,bS, *];done)
theorem Jb(u:TUnit)(hl:nU u<2^29):kC 101 [eU u,.func (.func 102) [] [.ptr 0 0 0 0]] (av [.row 1 false 0 [.nils]])
    (fun v h=>∃y:Nat×Nat×List PId,(y.2.1=y.2.2.length/\y.2.2=dx u)/\v=.bool true/\h=av [r9 y.1 y.2.1,M8 y.1 y.2.2]):=by
  have hq:=jk u
  have hkl:=bf u
  exact qx Tryz.func101 fun a=>K1 3 (.frz 1 [1,2,7,8]) (et rt ti)<|Me (XZ u)<|Kl 4 13 (ln aq u.kids)<|Mg 0<|Su aq u.kids (0:Nat) (1:Nat) ([bw u]:List PId) [1,12,13,14] (fun a _ b c d=>([bQ (aT 102) [] [au 0 0 0 0],aW<|u.kids.map aq,nV u.kids.length,nV a],[aZ 1 false 0 [aD 1 b 0 c none],aZ 3 true b<|d.map aJ])) (fun a _ b c=>b=c.length/\c++iE a=[bw u]++iE u.kids/\c.length+eJ a<2^30) gR (fun _ _ b c d _ _ _ e f=>Kh 0 e<|Kf 0<|a (b,c,d)<|by(refine⟨f.1,?_⟩;have:=f.2.1;rw[rA,ei]at this;rw[this,nH];rfl)) fun a _ b c d e f g i j k l _ m _=>have m:=(m).trans<|congrArg some<|aR g;have:=cb (J:=fun a b=>b.2.1=b.2.2.length/\b.2.2++iE a=[bw u]++iE u.kids/\b.2.2.length+eJ a<2^30) (a:=(b,c,d)) k f;have:=aI e k;have e:d.length+nU g<2^30:=(by grind[be]);Kt 0 l<|Mx m<|K1 4 (.frz 2 [1,12,13,14,18,19]) (ch (tR 3 true b 2<|aX Jl d) rt ti)<|Mq (NG g b c d oA e) fun b _=>Kl 2 22 (dU a)<|Kf 0<|j b.1 b.2.1 b.2.2<|by grind[be,gc,uC]
theorem QB(u:TUnit)(hl:nU u<2^29):kP 63 [eU u] (.ls ((dx u).map aJ)):=by
  have rr0 b' (h:((dx u).map aJ)=b':=by(rw[hy0.2])):=h;exact bo Tryz.func63<|Mg 4<|M0 (.ren [1,0] [] [3,4,5])<|M1 (.frz 1 [3,4,5]) (et rt ti)<|Mq (Jb u hl) fun a hy0=>Mg 1<|M2 (.fsl 0 [] 2<|a.2.2.map aJ) ti (ch (ax a.1) (tA aJ a.2.2 a.2.1 (oA:(a.2.2).length=a.2.1))<|aX Jl a.2.2)<|Ml 2 (fY (a.2.2.map aJ) false<|aX Jl a.2.2)<|Mf<|cn<|rr0<|a.2.2.map aJ
theorem XQ(u:TUnit)(hl:nU u<2^20):kP 322 [eU u] (.bool (QC u)):=by
  have hb:(dx u).length<2^20:=by grind[uC]
  have hi:=QB u (by omega)
  have hlk:∀(m:List (PId×Bool))(a b c:Int),eD (some (.bool false)) false (bx true 3 [(0,1),(1,1),(2,1)] (.agg [iV a,iV b,iV c]) (aC aJ dj m 0) 0)=some (.bool (Oc bK ⟨a,b,c⟩ m)):=fun m a b c=>Gg fG m ⟨a,b,c⟩
  have hup:∀(m:List (PId×Bool))(a b c:Int),qj (aC aJ dj m 0) m.length (.agg [iV a,iV b,iV c]) (.bool true) (bx true 3 [(0,1),(1,1),(2,1)] (.agg [iV a,iV b,iV c]) (aC aJ dj m 0) 0)=some (aC aJ dj (fp bK ⟨a,b,c⟩ true m) 0,(fp bK ⟨a,b,c⟩ true m).length):=fun m a b c=>J5 fG m ⟨a,b,c⟩
  have rr0 b' (h:(QC u)=b':=by((try clear gh1);(try clear gh2);(try clear gh3);(try clear gh4);(try clear gh5);(try clear gh6);(try clear gh7);have e:=DZ (kenc:=aJ) (f:=dj) za0 0;simp only[e,lM]at *;simp only[QC,f9,bK,bw,bN,hj0,ME,aS,aw,bS, *];first|done|rfl)):=h;exact bo Tryz.func322<|Kp 2 hi<|Kl 4 12 (ln aJ<|dx u)<|Mg 0<|L5 aJ (dx u) ([]:List (PId×Bool)) [1,3,4,11,12,13] (fun d _ g=>([au 0 0 0 0,aW<|(dx u).map aJ,AV.map 1,aW<|(dx u).map aJ,nV (dx u).length,nV d],[aZ 8 false 0 [az [iV u.act,iV u.item,iV u.n,iV u.kind,aV u.label,aW<|u.head.map aQ,aW<|u.words.map aQ,aW<|u.kids.map aq]],AObj.map (aC aJ dj g 0) g.length])) (fun d g=>Cx (dx u) []=Cx d g) (by rfl) (fun _ _ za0 _ _ _ d hj0=>Kh 0 d<|K1 1 (.look<|dQ<|Oc bK (PId.mk 0 0 0) za0) (hlk za0 0 0 0)<|Kb 2 (Oc bK (PId.mk 0 0 0) za0) (fun d=>Kt 0 d<|Kt 0 d<|Ku 0 d<|Kj 0 (Int.ofNat (aC aJ dj za0 0).length) 1 (fun d gh2=>Mt d<|Mt d<|Mt d<|Mt d<|Mt d<|Mt d<|MV d<|Ky 0<|rr0 true) fun d gh2=>Kh 0 d<|Kh 0 d<|Kh 0 d<|Kh 0 d<|Kh 0 d<|Kj 0 (Int.ofNat (aC aJ dj za0 0).length) (Int.ofNat ((dx u).map aJ).length) (fun g gh3=>Kt 0 g<|Kt 0 g<|Kt 0 g<|Kt 0 g<|Kt 0 g<|Kt 0 g<|Mv (kH ((Tryz.prog).underlying 26) u.act u.item u.n 0 0 0 h0)<|Mt g<|Kh 0 d<|MV g<|My d<|Kf 0<|ct<|rr0<|ae u.kind 0==(ae u.act 0&&(ae u.item 0&&ae u.n 0))) fun g gh3=>Mh g<|Mh g<|Mh g<|Mh g<|Mh g<|Mh g<|Mh g<|Mh d<|My g<|My d<|Ky 0<|rr0 false) fun d=>Mh d<|Mh d<|My d<|Kj 6 (Int.ofNat (aC aJ dj za0 0).length) (Int.ofNat ((dx u).map aJ).length) (fun d gh4=>Kt 0 d<|Kt 0 d<|Kt 0 d<|Kt 0 d<|Kt 0 d<|Kt 0 d<|Mv (kH ((Tryz.prog).underlying 26) u.act u.item u.n 0 0 0 h0)<|Mt d<|Ku 0 d<|Kf 1<|ct<|rr0<|ae u.kind 0==(ae u.act 0&&(ae u.item 0&&ae u.n 0))) fun d gh4=>Mh d<|Mh d<|Mh d<|Mh d<|Mh d<|Mh d<|Mh d<|My d<|Ky 1<|rr0 false) fun d _ za0 _ _ g i j _ k _ l hj0=>Kt 0 k<|Mx l<|K1 4 (.upd (aC aJ dj (fp bK (PId.mk g.a g.i g.n) true za0) 0) (fp bK (PId.mk g.a g.i g.n) true za0).length) (hup za0 g.a g.i g.n)<|Kl 0 19 (iF d)<|K1 0 (.frz 2 [1,3,4,11,12,13]) (ch (tM (fp bK (PId.mk g.a g.i g.n) true za0).length 2 (by exact aP fG Ar _ _:bV (aC aJ dj (fp bK (PId.mk g.a g.i g.n) true za0) 0)=0)) rt ti)<|Mf<|j (fp bK (PId.mk g.a g.i g.n) true za0)<|by(rw[hj0];rfl)
def sY(x:TUnit):Prop:=x.head.length<=300/\x.words.length<=300/\x.label.length<=2^39/\(∀w,w∈x.head->w.text.length<=2^39)/\∀w,w∈x.words->w.text.length<=2^39
def mI(u:TUnit):Prop:=nU u<=2^19/\∀x,x∈bB u->sY x
theorem Hy(u:TUnit)(h:mI u):kP 101 [eU u,.func (.func 321) [] []] (.bool (wy ma u)):=
  Lo 321 ma u
    (fun x hx=>by
      obtain⟨a,b,c,d,e⟩:=h.2 x hx
      have h1:=bf x
      have h2:=dT hx
      have h3:=h.1
      grind[Sg])
    (by have h1:=bf u;have h3:=h.1;omega)
    (fun x hx=>by
      have h1:=bf x
      have h2:=dT hx
      have h3:=h.1
      omega)
theorem xT(u:TUnit)(h:mI u):kP 288 [eU u] (.bool (lZ u)):=by
  have h1:=h.1
  have e1:=Hy u h
  have e2:=Hr u (by omega)
  have e3:=Eo u (by omega)
  have e4:=XQ u (by omega)
  have hd:=Em u
  have rr0 b' (h:(lZ u)=b':=by(simp only[lZ,aS,aw,bS, *];done)):=h;exact bo Tryz.func288<|Kp 2 e1<|Kb 0 (wy ma u) (fun a=>Kt 0 a<|Mp e2<|Mt a<|Ku 0 a<|Kn 0 (aB 8<|Int.ofNat<|nY u) (fun a=>Kt 0 (cS a)<|Mp e3<|Mt (cS a)<|Ku 0 (cS a)<|Kn 0 (aB 1024<|Int.ofNat<|nU u) (fun a=>Kt 0 (cS a)<|Mp e4<|MV (cS a)<|Kf 0<|ct<|rr0<|QC u) fun a=>Mh (cF a)<|My (cF a)<|Ky 0<|rr0 false) fun a=>Mh (cF a)<|Mh (cF a)<|My (cF a)<|Ky 2<|rr0 false) fun a=>Mh a<|Mh a<|My a<|Ky 4<|rr0 false
theorem rG(l:List PWord)(hl:l.length<2^30):kP 99 [.ls (l.map aQ)] (.ls (l.map aQ)):=by
  cases l with
  |nil=>exact bX.ls0 (RR.less Le.nils) (RP.lessB (u:=.ls []) (by kernel_rfl))
  |cons w r=>grind[RS]
noncomputable abbrev wl:AObj:=.row 8 false 0 [.agg [iV 0,iV 0,iV 0,iV 0,.str [],.nils,.nils,.nils]]
theorem HA:∀(u:TUnit),nU u<=2^20->(∀x,x∈bB u->x.head.length<2^30/\x.words.length<2^30)->kP 59 [eU u] (eU u):=by
  refine TUnit.ind fun u ih hn ht=>?_
  have hkl:=bf u
  have c1:=rG u.head (ht u (dh u)).1
  have c2:=rG u.words (ht u (dh u)).2
  have ihk:∀k,k∈u.kids->kP 59 [eU k] (eU k):=fun k hk=>ih k hk (bO (tc (iL hk)) hn) (fun x hx=>ht x (bM hk hx))
  have rr0 b' (h:(u.kids.map aq)=b':=by first|rfl|(rw[<-hj0];rfl)|(rw[<-hj0.2.2.1,ei])):=h;let q1:=List.map aQ u.words;let q2:=List.map aQ u.head;exact bo Tryz.func59<|Kp 3 c1<|Kp 1 c2<|Kl 7 16 (ln aq u.kids)<|Mg 0<|kB Nat Nat (List TUnit) aq u.kids [1,2,3,15,16,17] (fun a _=>([au 0 0 0 0,au 1 0 0 0,ak,aW<|u.kids.map aq,nV u.kids.length,nV a],[aZ 8 false 0 [az [iV u.act,iV u.item,iV u.n,iV u.kind,aV u.label,aW<|u.head.map aQ,aW<|u.words.map aQ,aW<|u.kids.map aq]],aZ 8 false 0 [az [iV 0,iV 0,iV 0,iV 0,aV [],ak,ak,ak]]])) (fun a _ b c d=>([au 0 0 0 0,au 1 0 0 0,aD 2 b 0 c none,aW<|u.kids.map aq,nV u.kids.length,nV a],[aZ 8 false 0 [az [iV u.act,iV u.item,iV u.n,iV u.kind,aV u.label,aW<|u.head.map aQ,aW<|u.words.map aQ,aW<|u.kids.map aq]],aZ 8 false 0 [az [iV 0,iV 0,iV 0,iV 0,aV [],ak,ak,ak]],aZ 8 true b<|d.map aq])) (fun a=>a=u.kids) (fun a _ b c=>b=c.length/\(0:Nat)<c.length/\c++a=u.kids/\c.length+a.length=u.kids.length) (by rfl) (fun _ _ _ _ _ a hj0=>Kh 0 a<|Kl 0 27 bA<|Kf 3 (aO (lc<|lc<|lc<|lc<|lc<|lc<|lc<|.cons (cn<|rr0 []) .nil)<|by kernel_rfl:Le _ (AV.agg [iV u.act,iV u.item,iV u.n,iV u.kind,AV.str u.label,AV.ls q2,AV.ls q1,AV.ls []]))) (fun a _ _ b c d _ e f g _ i _=>have i:=(i).trans<|congrArg some<|aR c;have hj0:=cb (J:=fun a _=>a=u.kids) (a:=()) f b;Kt 0 g<|Mx i<|Kp 4 (ihk c gR)<|K1 1 (.obj 3<|aZ 8 true 0<|List.map aq [c]) (congrArg (aZ 8 true 0)<|T6 (f:=aq) (g:=Go.Ev.eU) (ws:=[c]) aR)<|Kl 1 26 (dU a)<|K1 0 (.ren [0,1,3,2] [3] [1,2,3,15,16,17]) (tS 8 true 0<|aX iU [c])<|M1 (.frz 3 [1,2,3,15,16,17]) (kF (tR 8 true 0 3<|aX iU [c]) rt rt ti)<|Mf<|e 0 1 [c]<|by(refine⟨rfl,by simp,?_,?_⟩<;>(rw[<-hj0])<;>(first|rfl|grind))) (fun _ _ a b c _ _ _ d hj0=>let e:=List.map aq c;Kh 0 d<|Mg 0<|M2 (.fsl 2 [1,2] 27 e) (ch rt rt ti) (ch (ax a) (tA aq c b (oA:(c).length=b))<|aX iU c)<|Ml 27 (fY e false<|aX iU c)<|Kf 3 (aO (lc<|lc<|lc<|lc<|lc<|lc<|lc<|.cons (cn<|rr0 e) .nil)<|by kernel_rfl:Le _ (AV.agg [iV u.act,iV u.item,iV u.n,iV u.kind,AV.str u.label,AV.ls q2,AV.ls q1,AV.ls e]))) fun a _ b c d _ e f g _ i j l _ n _=>have n:=(n).trans<|congrArg some<|aR f;have hj0:=cb (J:=fun a b=>b.2.1=b.2.2.length/\(0:Nat)<b.2.2.length/\b.2.2++a=u.kids/\b.2.2.length+a.length=u.kids.length) (a:=(b,c,d)) j e;Kt 0 l<|Mx n<|Kp 4 (ihk f gR)<|K1 0 .app (ch (ax b) (sA:c=(d.map aq).length) (by(refine aM (m:=2^21) ?_ ?_ ?_<;>omega):small (c+1) 120=true))<|M1 (.obj 2<|aZ 8 true (b+1)<|(d++[f]).map aq) (congrArg (aZ 8 true<|b+1)<|yk (f:=aq) (g:=Go.Ev.eU) (l:=d) (ws:=[f]) aR)<|Kl 1 26 (dU a)<|K1 0 (.frz 3 [1,2,3,15,16,17]) (kF (tR 8 true (b+1) 3<|aX iU<|d++[f]) rt rt ti)<|Mf<|i (b+1) (c+1) (d++[f])<|by(refine⟨by simp_all,by simp,?_,?_⟩<;>first|(rw[<-hj0.2.2.1];simp;done)|grind)
theorem Xj(p:PId)(u:TUnit)(h:By (cK p u) true)(hn:nU u<=2^20)(ht:∀x,x∈bB u->x.head.length<2^30/\x.words.length<2^30):kP 21 [eU u,aJ p] (.tuple [eU (ee p u),.bool true]):=by
  have hw:=Fk p u h hn
  have hlen:=me (p:=p) u
  have hpos:0<(aF p u).length:=qJ.2 (ll h)
  have hm:ee p u∈bB u:=J4 u _ (RW h)
  have hf:ee p u=gD (aF p u) ((aF p u).length -1):=by unfold ee;simp_all
  have hc:=HA (ee p u) (bO (dT hm) hn) (fun x hx=>ht x (by
    grind[jV]))
  rw[hf]at hc ⊢
  have hz:=Rc hpos
  exact bo Tryz.func21<|Kp 5 hw<|Kl 2 11 (ln aq<|aF p u)<|Kh 0 hz<|Kl 2 16 (ln aq<|aF p u)<|Kl 0 17 (E8 (aF p u).length)<|Mx ((bJ aq (oA:(aF p u).length -1<(aF p u).length)).trans<|congrArg some<|aR _)<|Kp 0 hc<|Kf 1<|bY<|dg [az [iV (gD (aF p u)<|(aF p u).length -1).act,iV (gD (aF p u)<|(aF p u).length -1).item,iV (gD (aF p u)<|(aF p u).length -1).n,iV (gD (aF p u)<|(aF p u).length -1).kind,aV (gD (aF p u)<|(aF p u).length -1).label,aW<|List.map aQ (gD (aF p u)<|(aF p u).length -1).head,aW<|List.map aQ (gD (aF p u)<|(aF p u).length -1).words,aW<|List.map aq (gD (aF p u)<|(aF p u).length -1).kids],dQ true]
theorem Xw(p:PId)(u:TUnit)(h:By (cK p u) false)(hn:nU u<=2^20):kP 21 [eU u,aJ p] (.tuple [eU bd,.bool false]):=by
  have hw:=J3 p u h hn
  exact bo Tryz.func21<|Kp 5 hw<|Kf 7 (eF<|.cons (aO (lc<|lc<|lc<|lc<|lc<|.cons bA<|.cons bA<|.cons bA .nil)<|by kernel_rfl)<|lc .nil:Le _ (dg [az [iV 0,iV 0,iV 0,iV 0,aV [],ak,ak,ak],dQ false]))
theorem RX(p:PId)(u:TUnit)(hn:nU u<=2^20)(ht:∀x,x∈bB u->x.head.length<2^30/\x.words.length<2^30):kP 21 [eU u,aJ p] (.tuple [eU (ee p u),.bool (cK p u)]):=by
  cases h:cK p u with
  |true=>grind[Xj]
  | false=>
    have:=Xw p u h hn
    rwa[show bd=ee p u by unfold ee;simp_all]at this
noncomputable abbrev B9(l:List PWord):AObj:=.row 4 true 0 (l.map aQ)
noncomputable def Fy:TypeInfo:=(Tryz.prog.info? 125).getD default
theorem Fv:Tryz.prog.info? 125=some Fy:=by kernel_rfl
theorem yG:Fy.size=4:=by kernel_rfl
theorem wt:Fy.bytes=40:=by kernel_rfl
theorem VI(l:List PWord):dG 4 (l.map aQ)=true:=gH (fun w=>by cases w;rfl) l
theorem cl4(ws:List PWord)(hl:ws.length<=2^20)(a b c d:AObj):kD 99 [.ls (ws.map aQ)] (av [a,b,c,d]) (.sl0 4 0 ws.length none) (av [a,b,c,d,B9 ws]):=by
  by_cases hne:ws=[]
  · subst hne
    have hE:(av [a,b,c,d]).push (B9 [])=av [a,b,c,d,B9 []]:=by kernel_rfl
    have h:=aH.psh (o:=B9 []) (u:=.sl0 4 0 0 none) (rG [] (by omega) (av [a,b,c,d])) E0
    simp_all
  have hn:ws.map aQ≠[]:=fun h=>hne (List.map_eq_nil_iff.1 h)
  have hf:=VI ws
  have hsm:small (ws.map aQ).length 40=true:=by grind[aM]
  have hlen:ws.length=(ws.map aQ).length:=(cQ ..).symm
  unfold B9
  rw[hlen]
  generalize ws.map aQ=L at hn hf hsm
  refine(aH.less (Ψ:=fun v h=>v=.slice 4 0 0 L.length none/\h=av [a,b,c,d,.row 4 true 0 L]) ?_ fun v h ⟨h1,h2⟩=>⟨_,h1▸Le.sl0,rfl,h2⟩)
  refine aH.enter 2 (fn:=Tryz.f99) Tryz.func99 (by kernel_rfl) rfl ⟨by kernel_rfl,by kernel_rfl⟩ ?_
  refine an.seq (an.mono (Ek pE iO (ev 40) (s':=⟨eX 8 [(0,.ls L),(2,.nils)],av [a,b,c,d]⟩) (.go 0 .fin) (by kernel_rfl)) ?_)
  rintro _ _ ⟨rfl,rfl⟩
  refine an.seq (an.seq (an.mono (yU iO (ev 40) (Ψ:=fun s=>s=⟨eX 8 [(0,.ls L),(2,.nils),(3,.ps L false),(4,.bool false)],av [a,b,c,d]⟩) (.go 0 (.nz 3 .abs (.go 0 .fin)))
    (W:=(L=[]->False)/\(⟨eX 8 [(0,.ls L),(2,.nils),(3,.ps L false),(4,.bool false)],av [a,b,c,d]⟩:St)=⟨eX 8 [(0,.ls L),(2,.nils),(3,.ps L false),(4,.bool false)],av [a,b,c,d]⟩) ⟨hn,rfl⟩ (by kernel_rfl)) ?_))
  rintro _ _ ⟨rfl,rfl⟩
  refine an.cond (t:=false) (by kernel_rfl) (fun h=>by grind) fun _=>an.skip ?_
  refine an.seq (an.region ?_)
  show cY _ _ _ _ [_,_,_,_] _ _
  refine cY.one (s':=⟨eX 8 [(0,.ls L),(2,.nils),(3,.ps L false),(4,.bool false),(5,.ps [] true)],av [a,b,c,d]⟩) (ev 40) (by kernel_rfl) ?_
  refine cY.one (s':=⟨eX 8 [(0,.ls L),(2,.nils),(3,.ps L false),(4,.bool false),(5,.ps [] true),(6,.ls L)],av [a,b,c,d]⟩) (ev 40) (by kernel_rfl) ?_
  refine rT (I:=fun k:Nat=>k=0) (r:=fun _=>.slice 4 0 0 L.length none) (H:=fun _=>av [a,b,c,d,.row 4 true 0 L]) (by kernel_rfl)
    (fun pl M a w g1 g2 g3=>xt (z:=aQ ⟨[],0,0,0⟩) (z0:=aQ ⟨[],0,0,0⟩) (xs:=L) (t:=27) (tx:=27) (e:=125) (i:=Fy) yG wt (by kernel_rfl) ⟨125,by kernel_rfl⟩ Fv (by kernel_rfl) (Le.refl _) (by kernel_rfl) (by kernel_rfl) hn hf (by kernel_rfl) hsm (by omega) pl M a w g1 g2 g3) fun k _=>?_
  refine⟨eX 8 [(0,.ls L),(2,.nils),(3,.ps L false),(4,.bool false),(5,.ps [] true),(6,.ls L),(7,.slice 4 0 0 L.length none)],by kernel_rfl,?_⟩
  refine cY.one (s':=⟨eX 8 [(0,.ls L),(2,.slice 4 0 0 L.length none),(3,.ps L false),(4,.bool false),(5,.ps [] true),(6,.ls L),(7,.slice 4 0 0 L.length none)],av [a,b,c,d,.row 4 true 0 L]⟩) (ev 40) (by kernel_rfl) (cY.nil (an.ret ⟨fun id h=>(by grind),.slice 4 0 0 L.length none,by kernel_rfl,by kernel_rfl,by kernel_rfl⟩))
theorem cl5(ws:List PWord)(hl:ws.length<=2^20)(a b c d e:AObj):kD 99 [.ls (ws.map aQ)] (av [a,b,c,d,e]) (.sl0 5 0 ws.length none) (av [a,b,c,d,e,B9 ws]):=by
  by_cases hne:ws=[]
  · subst hne
    have hE:(av [a,b,c,d,e]).push (B9 [])=av [a,b,c,d,e,B9 []]:=by kernel_rfl
    have h:=aH.psh (o:=B9 []) (u:=.sl0 5 0 0 none) (rG [] (by omega) (av [a,b,c,d,e])) E0
    simp_all
  have hn:ws.map aQ≠[]:=fun h=>hne (List.map_eq_nil_iff.1 h)
  have hf:=VI ws
  have hsm:small (ws.map aQ).length 40=true:=by grind[aM]
  have hlen:ws.length=(ws.map aQ).length:=(cQ ..).symm
  unfold B9
  rw[hlen]
  generalize ws.map aQ=L at hn hf hsm
  refine(aH.less (Ψ:=fun v h=>v=.slice 5 0 0 L.length none/\h=av [a,b,c,d,e,.row 4 true 0 L]) ?_ fun v h ⟨h1,h2⟩=>⟨_,h1▸Le.sl0,rfl,h2⟩)
  refine aH.enter 2 (fn:=Tryz.f99) Tryz.func99 (by kernel_rfl) rfl ⟨by kernel_rfl,by kernel_rfl⟩ ?_
  refine an.seq (an.mono (Ek pE iO (ev 40) (s':=⟨eX 8 [(0,.ls L),(2,.nils)],av [a,b,c,d,e]⟩) (.go 0 .fin) (by kernel_rfl)) ?_)
  rintro _ _ ⟨rfl,rfl⟩
  refine an.seq (an.seq (an.mono (yU iO (ev 40) (Ψ:=fun s=>s=⟨eX 8 [(0,.ls L),(2,.nils),(3,.ps L false),(4,.bool false)],av [a,b,c,d,e]⟩) (.go 0 (.nz 3 .abs (.go 0 .fin)))
    (W:=(L=[]->False)/\(⟨eX 8 [(0,.ls L),(2,.nils),(3,.ps L false),(4,.bool false)],av [a,b,c,d,e]⟩:St)=⟨eX 8 [(0,.ls L),(2,.nils),(3,.ps L false),(4,.bool false)],av [a,b,c,d,e]⟩) ⟨hn,rfl⟩ (by kernel_rfl)) ?_))
  rintro _ _ ⟨rfl,rfl⟩
  refine an.cond (t:=false) (by kernel_rfl) (fun h=>by grind) fun _=>an.skip ?_
  refine an.seq (an.region ?_)
  show cY _ _ _ _ [_,_,_,_] _ _
  refine cY.one (s':=⟨eX 8 [(0,.ls L),(2,.nils),(3,.ps L false),(4,.bool false),(5,.ps [] true)],av [a,b,c,d,e]⟩) (ev 40) (by kernel_rfl) ?_
  refine cY.one (s':=⟨eX 8 [(0,.ls L),(2,.nils),(3,.ps L false),(4,.bool false),(5,.ps [] true),(6,.ls L)],av [a,b,c,d,e]⟩) (ev 40) (by kernel_rfl) ?_
  refine rT (I:=fun k:Nat=>k=0) (r:=fun _=>.slice 5 0 0 L.length none) (H:=fun _=>av [a,b,c,d,e,.row 4 true 0 L]) (by kernel_rfl)
    (fun pl M a w g1 g2 g3=>xt (z:=aQ ⟨[],0,0,0⟩) (z0:=aQ ⟨[],0,0,0⟩) (xs:=L) (t:=27) (tx:=27) (e:=125) (i:=Fy) yG wt (by kernel_rfl) ⟨125,by kernel_rfl⟩ Fv (by kernel_rfl) (Le.refl _) (by kernel_rfl) (by kernel_rfl) hn hf (by kernel_rfl) hsm (by omega) pl M a w g1 g2 g3) fun k _=>?_
  refine⟨eX 8 [(0,.ls L),(2,.nils),(3,.ps L false),(4,.bool false),(5,.ps [] true),(6,.ls L),(7,.slice 5 0 0 L.length none)],by kernel_rfl,?_⟩
  refine cY.one (s':=⟨eX 8 [(0,.ls L),(2,.slice 5 0 0 L.length none),(3,.ps L false),(4,.bool false),(5,.ps [] true),(6,.ls L),(7,.slice 5 0 0 L.length none)],av [a,b,c,d,e,.row 4 true 0 L]⟩) (ev 40) (by kernel_rfl) (cY.nil (an.ret ⟨fun id h=>(by grind),.slice 5 0 0 L.length none,by kernel_rfl,by kernel_rfl,by kernel_rfl⟩))
noncomputable abbrev DI(u:TUnit)(k:AV):AV:=.agg [iV u.act,iV u.item,iV u.n,iV u.kind,.str u.label,.sl0 3 0 u.head.length none,.sl0 4 0 u.words.length none,k]
noncomputable abbrev U9(u:TUnit)(i j:Nat)(k:AV):AObj:=.row 8 false 0 [.agg [iV u.act,iV u.item,iV u.n,iV u.kind,.str u.label,.sl0 i 0 u.head.length none,.sl0 j 0 u.words.length none,k]]
theorem ZX(u:TUnit)(hk:0<u.kids.length)(hn:nU u<=2^20)(ht:∀x,x∈bB u->x.head.length<=2^20/\x.words.length<=2^20):kC 59 [eU u] (av [wB u,wl])
    (fun v h=>∃y:Nat×Nat×List TUnit,(y.2.1=u.kids.length/\y.2.2=u.kids)/\v=DI u (.slice 5 y.1 0 y.2.1 none)/\h=av [wB u,wl,U9 u 3 4 (.slice 5 y.1 0 y.2.1 none),B9 u.head,B9 u.words,.row 8 true y.1 (y.2.2.map aq)]):=by
  have hkl:=bf u
  have c1:=(ht u (dh u)).1
  have c2:=(ht u (dh u)).2
  have ihk:∀k,k∈u.kids->kP 59 [eU k] (eU k):=fun k hk=>HA k (bO (tc (iL hk)) hn) (fun x hx=>⟨nl (ht x (bM hk hx)).1 (by omega),nl (ht x (bM hk hx)).2 (by omega)⟩)
  let q1:=[az [iV u.act,iV u.item,iV u.n,iV u.kind,aV u.label,aW (u.head.map aQ),aW (u.words.map aQ),aW (u.kids.map aq)]];let q2:=[az [iV 0,iV 0,iV 0,iV 0,aV [],ak,ak,ak]];let q3:=aZ 8 false 0 q2;let q4:=aZ 8 false 0 q1;let q5:=List.map aQ u.head;let q6:=aZ 4 true 0 q5;exact qx Tryz.func59 fun a=>Mg 3<|M3 (.efx true (AV.sl0 4 0 u.head.length none)<|av [aZ 8 false 0 q1,aZ 8 false 0 q2,aZ 8 false 0 q1,aZ 8 false 0 q2,aZ 4 true 0 q5]) (IV rt rt rt rt ti) (IV (ax<|some q3) (ax<|some q4) (ax<|some q3) (ax<|some q4) ti) (cl4 u.head c1 q4 q3 q4 q3)<|Mg 1<|M3 (.efx true (AV.sl0 5 0 u.words.length none)<|av [aZ 8 false 0 q1,aZ 8 false 0 q2,aZ 8 false 0 q1,aZ 8 false 0 q2,aZ 4 true 0 q5,aZ 4 true 0<|u.words.map aQ]) (wK (tR 4 true 0 5<|aX iS u.head) rt rt rt rt ti) (wK (ax<|some q6) (ax<|some q3) (ax<|some q4) (ax<|some q3) (ax<|some q4) ti) (cl5 u.words c2 q4 q3 q4 q3 q6)<|Kl 7 16 (ln aq u.kids)<|Mg 0<|kB Nat Nat (List TUnit) aq u.kids [1,2,3,15,16,17] (fun a _=>([au 2 0 0 0,au 3 0 0 0,ak,aW<|u.kids.map aq,nV u.kids.length,nV a],[aZ 8 false 0 [az [iV u.act,iV u.item,iV u.n,iV u.kind,aV u.label,aW<|u.head.map aQ,aW<|u.words.map aQ,aW<|u.kids.map aq]],aZ 8 false 0 [az [iV 0,iV 0,iV 0,iV 0,aV [],ak,ak,ak]],aZ 8 false 0 [az [iV u.act,iV u.item,iV u.n,iV u.kind,aV u.label,AV.sl0 4 0 u.head.length none,AV.sl0 5 0 u.words.length none,aW<|u.kids.map aq]],aZ 8 false 0 [az [iV 0,iV 0,iV 0,iV 0,aV [],ak,ak,ak]],aZ 4 true 0<|u.head.map aQ,aZ 4 true 0<|u.words.map aQ])) (fun a _ b c d=>([au 2 0 0 0,au 3 0 0 0,aD 6 b 0 c none,aW<|u.kids.map aq,nV u.kids.length,nV a],[aZ 8 false 0 [az [iV u.act,iV u.item,iV u.n,iV u.kind,aV u.label,aW<|u.head.map aQ,aW<|u.words.map aQ,aW<|u.kids.map aq]],aZ 8 false 0 [az [iV 0,iV 0,iV 0,iV 0,aV [],ak,ak,ak]],aZ 8 false 0 [az [iV u.act,iV u.item,iV u.n,iV u.kind,aV u.label,AV.sl0 4 0 u.head.length none,AV.sl0 5 0 u.words.length none,aW<|u.kids.map aq]],aZ 8 false 0 [az [iV 0,iV 0,iV 0,iV 0,aV [],ak,ak,ak]],aZ 4 true 0<|u.head.map aQ,aZ 4 true 0<|u.words.map aQ,aZ 8 true b<|d.map aq])) (fun a=>a=u.kids) (fun a _ b c=>b=c.length/\(0:Nat)<c.length/\c++a=u.kids/\c.length+a.length=u.kids.length) (by rfl) (fun _ _ _ _ _ a _=>Kh 0 a<|Mg 4<|Mw .abs (sA:False)) (fun a _ _ b c d _ e f g _ i _=>have i:=(i).trans<|congrArg some<|aR c;have b:=cb (J:=fun a _=>a=u.kids) (a:=()) f b;Kt 0 g<|Mx i<|Kp 4 (ihk c gR)<|K1 1 (.obj 7<|aZ 8 true 0<|List.map aq [c]) (congrArg (aZ 8 true 0)<|T6 (f:=aq) (g:=Go.Ev.eU) (ws:=[c]) aR)<|Kl 1 26 (dU a)<|Mg 0<|Mw (.ren [0,1,2,3,4,5,7,6] [4,5,7] [1,2,3,15,16,17]<|.frz 7 [1,2,3,15,16,17] .fin)<|IV (tS 4 true 0<|aX iS u.head) (tS 4 true 0<|aX iS u.words) (tS 8 true 0<|aX iU [c]) (UD (tR 8 true 0 7<|aX iU [c]) (tR 4 true 0 7<|aX iS u.words) (tR 4 true 0 7<|aX iS u.head) rt rt rt rt ti)<|e 0 1 [c]<|by(refine⟨rfl,by simp,?_,?_⟩<;>(rw[<-b])<;>(first|rfl|grind))) (fun _ _ b c d _ _ _ e _=>Kh 0 e<|Mg 4<|Mw (.ren [0,1,3,4,5,6,2] [4,5,6] [2]<|.frz 6 [2] .fin)<|IV (tS 4 true 0<|aX iS u.head) (tS 4 true 0<|aX iS u.words) (tS 8 true b<|aX iU d) (BA (tR 8 true b 6<|aX iU d) (tR 4 true 0 6<|aX iS u.words) (tR 4 true 0 6<|aX iS u.head) rt rt rt ti)<|a (b,c,d) sA) fun a _ b c d _ e f g _ i j l _ n _=>have n:=(n).trans<|congrArg some<|aR f;have e:=cb (J:=fun a b=>b.2.1=b.2.2.length/\(0:Nat)<b.2.2.length/\b.2.2++a=u.kids/\b.2.2.length+a.length=u.kids.length) (a:=(b,c,d)) j e;Kt 0 l<|Mx n<|Kp 4 (ihk f gR)<|K1 0 .app (ch (ax b) (sA:c=(d.map aq).length) (by(refine aM (m:=2^21) ?_ ?_ ?_<;>omega):small (c+1) 120=true))<|M1 (.obj 6<|aZ 8 true (b+1)<|(d++[f]).map aq) (congrArg (aZ 8 true<|b+1)<|yk (f:=aq) (g:=Go.Ev.eU) (l:=d) (ws:=[f]) aR)<|Kl 1 26 (dU a)<|K1 0 (.frz 7 [1,2,3,15,16,17]) (UD (tR 8 true (b+1) 7<|aX iU<|d++[f]) (tR 4 true 0 7<|aX iS u.words) (tR 4 true 0 7<|aX iS u.head) rt rt rt rt ti)<|Mf<|i (b+1) (c+1) (d++[f])<|by(refine⟨by simp_all,by simp,?_,?_⟩<;>first|(rw[<-e.2.2.1];simp;done)|grind)
theorem ZW(u:TUnit)(hk:u.kids=[])(ht:∀x,x∈bB u->x.head.length<=2^20/\x.words.length<=2^20):kD 59 [eU u] (av [wB u,wl]) (DI u .nils) (av [wB u,wl,U9 u 3 4 .nils,B9 u.head,B9 u.words]):=by
  have c1:=(ht u (dh u)).1
  have c2:=(ht u (dh u)).2
  have hz:aB 0 (Int.ofNat u.kids.length)=false:=by rw[hk];rfl
  let q:=[az [iV u.act,iV u.item,iV u.n,iV u.kind,aV u.label,aW (u.head.map aQ),aW (u.words.map aQ),aW (u.kids.map aq)]];let q1:=[az [iV 0,iV 0,iV 0,iV 0,aV [],ak,ak,ak]];let q2:=[aZ 8 false 0 q,aZ 8 false 0 q1,aZ 8 false 0 [az [iV u.act,iV u.item,iV u.n,iV u.kind,aV u.label,AV.sl0 4 0 u.head.length none,AV.sl0 5 0 u.words.length none,aW (u.kids.map aq)]],aZ 8 false 0 q1,aZ 4 true 0 (u.head.map aQ),aZ 4 true 0 (u.words.map aQ)];let q3:=aZ 8 false 0 q1;let q4:=aZ 8 false 0 q;let q5:=[au 2 0 0 0,au 3 0 0 0,ak,aW (u.kids.map aq),nV u.kids.length,iV 0];let q6:=List.map aQ u.head;let q7:=aZ 4 true 0 q6;exact dE Tryz.func59 fun a=>Mg 3<|M3 (.efx true (AV.sl0 4 0 u.head.length none)<|av [aZ 8 false 0 q,aZ 8 false 0 q1,aZ 8 false 0 q,aZ 8 false 0 q1,aZ 4 true 0 q6]) (IV rt rt rt rt ti) (IV (ax<|some q3) (ax<|some q4) (ax<|some q3) (ax<|some q4) ti) (cl4 u.head c1 q4 q3 q4 q3)<|Mg 1<|M3 (.efx true (AV.sl0 5 0 u.words.length none)<|av [aZ 8 false 0 q,aZ 8 false 0 q1,aZ 8 false 0 q,aZ 8 false 0 q1,aZ 4 true 0 q6,aZ 4 true 0<|u.words.map aQ]) (wK (tR 4 true 0 5<|aX iS u.head) rt rt rt rt ti) (wK (ax<|some q7) (ax<|some q3) (ax<|some q4) (ax<|some q3) (ax<|some q4) ti) (cl5 u.words c2 q4 q3 q4 q3 q7)<|Kl 7 16 (ln aq u.kids)<|Mg 0<|Vh [1,2,3,15,16,17] (q5,q2) True 0 ti fun _ _=>Kh 0 hz<|Mg 4<|M2 (.ren [0,1,3,4,5,2] [4,5] [2]) (tS 4 true 0<|aX iS u.head) (tS 4 true 0<|aX iS u.words)<|M1 (.frz 5 [2]) (wK (tR 4 true 0 5<|aX iS u.words) (tR 4 true 0 5<|aX iS u.head) rt rt rt ti)<|Mf a
noncomputable abbrev ZP(ep:Nat)(l:List TUnit):AObj:=.row 8 true ep (l.map aq)
theorem LJ(u:TUnit){k k':AV}(h:Le k k')(h2:cE k=true):Le (DI u k) (DI u k'):=aO (.cons (Le.refl _) (.cons (Le.refl _) (.cons (Le.refl _) (.cons (Le.refl _) (.cons (Le.refl _) (.cons (Le.refl _) (.cons (Le.refl _) (.cons h .nil)))))))) (by simp only[List.all_cons,List.all_nil,h2];rfl)
theorem ZZ(u:TUnit)(hn:nU u<=2^20)(ht:∀x,x∈bB u->x.head.length<=2^20/\x.words.length<=2^20):kC 59 [eU u] (av [wB u,wl])
    (fun v h=>∃ep:Nat,True/\v=DI u (.sl0 5 ep u.kids.length none)/\h=av [wB u,wl,.dead,B9 u.head,B9 u.words,ZP ep u.kids]):=by
  rcases Nat.eq_zero_or_pos u.kids.length with hk|hk
  · have hk:=List.length_eq_zero_iff.1 hk
    refine aH.dead (i:=2) (JN (Ψ':=fun v h=>v=DI u (.sl0 5 0 0 none)/\h=av [wB u,wl,U9 u 3 4 .nils,B9 u.head,B9 u.words,ZP 0 u.kids]) (ZP 0 u.kids) (ZW u hk ht) fun v h' ⟨h1,h2⟩=>⟨DI u (.sl0 5 0 0 none),h1▸LJ u Le.sl0n rfl,rfl,?_⟩) (ah 2) (by omega) fun v h' ⟨h1,h2⟩=>⟨0,trivial,by simp_all,?_⟩
    · rw[h2];kernel_rfl
    · rw[h2];kernel_rfl
  · refine aH.dead (i:=2) (aH.less (Ψ':=fun v h=>∃ep:Nat,v=DI u (.sl0 5 ep u.kids.length none)/\h=av [wB u,wl,U9 u 3 4 (.slice 5 ep 0 u.kids.length none),B9 u.head,B9 u.words,ZP ep u.kids]) (ZX u hk hn ht) fun v h' ⟨y,⟨e1,e2⟩,h1,h2⟩=>⟨DI u (.sl0 5 y.1 u.kids.length none),?_,y.1,rfl,?_⟩) (ah 2) (by omega) fun v h' ⟨ep,h1,h2⟩=>⟨ep,trivial,h1,?_⟩
    · rw[h1,e1];exact LJ u Le.sl0 rfl
    · simp_all
    · rw[h2];kernel_rfl
def kM{α:Type}(f:α->α)(l:List α)(i:Nat):List α:=(l.take i).map f++l.drop i
theorem vS{α:Type}{f:α->α}{l:List α}{i:Nat}:(kM f l i).length=l.length:=by
  grind[kM]
theorem vT{α:Type}{f:α->α}{l:List α}{i:Nat}(h:l.length<=i):kM f l i=l.map f:=by
  grind[kM,List.take_of_length_le]
theorem zF{α:Type}[Inhabited α]{f:α->α}{l:List α}{i:Nat}(h:i<l.length):gD (kM f l i) i=gD l i:=by
  have e:((l.take i).map f).length=i:=by grind
  simp_all[kM,gD,oK]
theorem CC{α:Type}[Inhabited α]{f:α->α}{l:List α}{i:Nat}(h:i<l.length):(kM f l i).set i (f (gD l i))=kM f l (i+1):=by
  have e:((l.take i).map f).length=i:=by grind
  have hg:gD l i=l[i]:=by unfold gD;simp_all
  unfold kM
  rw[List.set_append_right _ _ (by omega),e,Nat.sub_self,hg,Oi h,List.set_cons_zero,Ol h,qQ,qY]
  rfl
theorem zE{l:List PWord}{i:Nat}(h:i<l.length):(kM g9 l i).set i ⟨(gD (kM g9 l i) i).text,0,0,0⟩=kM g9 l (i+1):=by
  rw[zF h];exact CC h
theorem O4:∀u:TUnit,nU u<=2^20->(∀x,x∈bB u->x.head.length<=2^20/\x.words.length<=2^20)->kP 318 [eU u] (eU (cL u)):=by
  refine TUnit.ind fun u ih hn ht=>?_
  have hkl:=bf u
  have c1:=(ht u (dh u)).1
  have c2:=(ht u (dh u)).2
  have hc:=ZZ u hn ht
  have ihk:∀k,k∈u.kids->kP 318 [eU k] (eU (cL k)):=fun k hk=>ih k hk (bO (tc (iL hk)) hn) (fun x hx=>ht x (bM hk hx))
  rw[mp]
  have rr0 b' (h:(List.map aQ (TUnit.mk 0 0 0 u.kind u.label (u.head.map g9) (u.words.map g9) (u.kids.map cL)).head)=b':=by(rw[hx1.2,vT (by(simp only[oN]at *;omega))];rfl)):=h;have rr1 b' (h:(List.map aQ (TUnit.mk 0 0 0 u.kind u.label (u.head.map g9) (u.words.map g9) (u.kids.map cL)).words)=b':=by(rw[hx2.2,vT (by(simp only[oN]at *;omega))];rfl)):=h;have rr2 b' (h:(List.map aq (TUnit.mk 0 0 0 u.kind u.label (u.head.map g9) (u.words.map g9) (u.kids.map cL)).kids)=b':=by(rw[hx3.2,vT (by(simp only[oN]at *;omega))];rfl)):=h;exact bo Tryz.func318<|Mg 2<|Mq hc fun a _=>Mg 10<|M0 (.un 2)<|Mg 7<|L6 (0:Nat) u.head [1,2,4,15,16,17,22,23] (fun b c=>([au 0 0 0 0,au 1 0 0 0,AV.sl0 3 0 u.head.length none,lp [AV.sl0 3 0 u.head.length none,AV.sl0 4 0 u.words.length none] true,iV 2,iV 0,nV u.head.length,nV b],[aZ 8 false 0 [az [iV 0,iV 0,iV 0,iV u.kind,aV u.label,AV.sl0 3 0 u.head.length none,AV.sl0 4 0 u.words.length none,AV.sl0 5 a u.kids.length none]],aZ 8 false 0 [az [iV 0,iV 0,iV 0,iV 0,aV [],ak,ak,ak]],AObj.dead,aZ 4 true 0<|c.map aQ,aZ 4 true 0<|u.words.map aQ,aZ 8 true a<|u.kids.map aq])) (fun a b=>a<=u.head.length/\b=kM g9 u.head a) (fun a _=>u.head.length-a) (by exact⟨bD _,rfl⟩) fun b c hx1 d=>have hx1:b<=u.head.length/\c=kM g9 u.head b:=hx1;have:c.length=u.head.length:=(by grind[vS]);Ka 0 (Int.ofNat b) (Int.ofNat u.head.length) (fun _ _=>K1 4 .rix (et (ax 0) (sA:b<u.head.length))<|K1 0 (.rst (aQ<|gD c b)<|(c.set b<|PWord.mk (gD c b).text 0 0 0).map aQ) (ch (ax 0) (bJ aQ (sA:b<(c).length))<|kV (f:=aQ) (l:=c) (i:=b) (w:=PWord.mk (gD c b).text 0 0 0))<|Kl 0 31 (iF b)<|Kf 0<|d (b+1) (c.set b<|PWord.mk (gD c b).text 0 0 0) (by grind[zE]) gR) fun _ _=>Mg 9<|L6 (0:Nat) u.words [1,2,4,15,16,17,22,23] (fun b d=>([au 0 0 0 0,au 1 0 0 0,AV.sl0 4 0 u.words.length none,lp [AV.sl0 3 0 u.head.length none,AV.sl0 4 0 u.words.length none] true,iV 2,iV 1,nV u.words.length,nV b],[aZ 8 false 0 [az [iV 0,iV 0,iV 0,iV u.kind,aV u.label,AV.sl0 3 0 u.head.length none,AV.sl0 4 0 u.words.length none,AV.sl0 5 a u.kids.length none]],aZ 8 false 0 [az [iV 0,iV 0,iV 0,iV 0,aV [],ak,ak,ak]],AObj.dead,aZ 4 true 0<|c.map aQ,aZ 4 true 0<|d.map aQ,aZ 8 true a<|u.kids.map aq])) (fun a b=>a<=u.words.length/\b=kM g9 u.words a) (fun a _=>u.words.length-a) (by exact⟨bD _,rfl⟩) fun b d hx2 e=>have hx2:b<=u.words.length/\d=kM g9 u.words b:=hx2;have:d.length=u.words.length:=(by grind[vS]);Ka 0 (Int.ofNat b) (Int.ofNat u.words.length) (fun _ _=>K1 4 .rix (et (ax 0) (sA:b<u.words.length))<|K1 0 (.rst (aQ<|gD d b)<|(d.set b<|PWord.mk (gD d b).text 0 0 0).map aQ) (ch (ax 0) (bJ aQ (sA:b<(d).length))<|kV (f:=aQ) (l:=d) (i:=b) (w:=PWord.mk (gD d b).text 0 0 0))<|Kl 0 31 (iF b)<|Kf 0<|e (b+1) (d.set b<|PWord.mk (gD d b).text 0 0 0) (by grind[zE]) gR) fun _ _=>Mg 7<|L6 (0:Nat) u.kids [1,2,35,36] (fun b e=>([au 0 0 0 0,au 1 0 0 0,nV u.kids.length,nV b],[aZ 8 false 0 [az [iV 0,iV 0,iV 0,iV u.kind,aV u.label,AV.sl0 3 0 u.head.length none,AV.sl0 4 0 u.words.length none,AV.sl0 5 a u.kids.length none]],aZ 8 false 0 [az [iV 0,iV 0,iV 0,iV 0,aV [],ak,ak,ak]],AObj.dead,aZ 4 true 0<|c.map aQ,aZ 4 true 0<|d.map aQ,aZ 8 true a<|e.map aq])) (fun a b=>a<=u.kids.length/\b=kM cL u.kids a) (fun a _=>u.kids.length-a) (by exact⟨bD _,rfl⟩) fun b e hx3 f=>have hx3:b<=u.kids.length/\e=kM cL u.kids b:=hx3;have:e.length=u.kids.length:=(by grind[vS]);have g:b<u.kids.length->kP (318:FuncId) [eU (gD e b)] (eU (cL (gD e b))):=fun h=>ihk _ (by grind[zF,ig]);Ka 0 (Int.ofNat b) (Int.ofNat u.kids.length) (fun _ _=>K1 7 .rix (et (ax a) (sA:b<u.kids.length))<|Mr (et (ax a)<|rl aq (g:=Go.Ev.eU) aR (sA:b<(e).length))<|Mp (g sA)<|M1 .rix (et (ax a) (sA:b<u.kids.length))<|M3 (.rst (az [iV (gD e b).act,iV (gD e b).item,iV (gD e b).n,iV (gD e b).kind,aV (gD e b).label,aW<|List.map aQ (gD e b).head,aW<|List.map aQ (gD e b).words,aW<|List.map aq (gD e b).kids])<|(e.set b<|cL<|gD e b).map aq) rt (ip (tR 8 true a 6<|aX iU e) rt) (ch (ax a) (rl aq (g:=Go.Ev.eU) aR (sA:b<(e).length))<|DD (f:=aq) (g:=Go.Ev.eU) aR (l:=e) (i:=b) (w:=cL<|gD e b))<|Kl 0 49 (iF b)<|Kf 0<|f (b+1) (e.set b<|cL<|gD e b) (by grind[zF,CC]) gR) fun _ _=>M2 (.fza 0 7 5 [1,2]<|e.map aq) (wK (tR 4 true 0 5<|aX iS d) (tR 4 true 0 5<|aX iS c) rt rt rt ti) (ch (ax a) (tA aq e u.kids.length (oA:(e).length=u.kids.length))<|aX iU e)<|M2 (.fza 0 6 4 [1,2]<|d.map aQ) (IV (tR 4 true 0 4<|aX iS c) rt rt rt ti) (ch (ax 0) (tA aQ d u.words.length (oA:(d).length=u.words.length))<|aX iS d)<|M2 (.fza 0 5 3 [1,2]<|c.map aQ) (kF rt rt rt ti) (ch (ax 0) (tA aQ c u.head.length (oA:(c).length=u.head.length))<|aX iS c)<|Kf 1 (aO (lc<|lc<|lc<|lc<|lc<|.cons (cn<|rr0<|c.map aQ)<|.cons (cn<|rr1<|d.map aQ)<|.cons (cn<|rr2<|e.map aq) .nil)<|by kernel_rfl:Le _ (AV.agg [iV 0,iV 0,iV 0,iV u.kind,AV.str u.label,AV.ls (c.map aQ),AV.ls (d.map aQ),AV.ls (e.map aq)]))
theorem QK:Go.Proofs.Builder.Extra Tryz.prog Tryz.ljoin_ren:=by
  repeat' (first|kernel_rfl|(intro w;kernel_rfl)|decide|constructor)
theorem Lk(l:List bZ)(sep:bZ)(h1:l.length<=140737488355328)(h2:(Lib.join l sep).length<=140737488355328):kP 36 [.ls (l.map nK),.str sep] (.str (Lib.join l sep)):=Nh (Go.Proofs.enters_of Tryz.func36 (by kernel_rfl) rfl) (fun a b c d e f g h i j k=>Go.Proofs.Any.strings_Join Go.Proofs.Tryz.ljoin QK a b c d e f g h i j k) (fun a b c d=>Go.Proofs.Any.strings_Join_none Go.Proofs.Tryz.ljoin QK a b c d) l sep h1 h2
theorem YC:Go.Proofs.Builder.Extra Tryz.prog Tryz.lrep_ren:=by
  repeat' (first|kernel_rfl|(intro w;kernel_rfl)|decide|constructor)
theorem Wk(s:bZ)(c:Nat)(h1:c<=9223372036854775807)(h2:s.length*c<=140737488355328):kP 335 [.str s,nV c] (.str (Lib.repeatL s c)):=F4 (Go.Proofs.enters_of Tryz.func335 (by kernel_rfl) rfl) (fun a b d e f=>Go.Proofs.Any.strings_Repeat Go.Proofs.Tryz.lrep YC a b d e f) s c h1 h2
theorem Pe(s:bZ)(ws:List PWord)(hw:∀w,w∈ws->1<=w.text.length/\w.text.length<=24)(hb:s.length+26*ws.length<=2^40)(hn:ws.length<=2^20):kP 337 [.str s,.ls (ws.map aQ)] (.str (mb s ws)):=by
  have rr0 b' (h:(mb s ws)=b':=by first|rfl|(exact hj0.1.symm)):=h;exact bo Tryz.func337<|Kl 2 8 (ln aQ ws)<|Mg 0<|SH (0:Nat) ws s [0,7,8,9] (fun a _ b=>([aV b,aW<|ws.map aQ,nV ws.length,nV a],[])) (fun a b c=>(ws).drop a=b/\mb c b=mb s ws/\List.length c+26*b.length<=2^40) (fun _ a _=>a.length) (et rfl<|by first|rfl|(first|simp_all|(refine⟨by(rw[<-hj0.1,oH];first|rw[ES h1]|rw[ER h1 h2]|rw[EP h1 h2]),?_⟩;have q:=hj0.2;simp only[lA,lC,lN]at *;omega))) fun a b c d e=>Mc b (fun a=>have b:=fN d.1 a;have hj0:=ie (J:=fun a b=>mb b a=mb s ws/\List.length b+26*a.length<=2^40) (a:=c) a d.2;Kh 0 b<|Kf 1<|Le.str<|rr0 c) fun b f g=>let i:=[aZ 4 false 0 [az [aV b.text,iV b.act,iV b.item,iV b.at_]]];have j:=fT d.1 g;have:=aA j;have k:=fL (enc:=aQ) d.1 g;have hj0:=cb (J:=fun a b=>mb b a=mb s ws/\List.length b+26*a.length<=2^40) (a:=c) g d.2;have:=hw b<|aI d.1 g;Kt 0 j<|Mx k<|Kv 3 (jq (s:=c) (u:=[32]) (H:=av i) (by(first|first|assumption|omega|grind):(c).length+([32]).length<=2^62))<|K1 2 (.chr<|gD b.text 0) (zh (by first|omega|(simp only[oN,lM,lS]at *;omega)|(simp only[oN,lM,lS,lA,lR,lC,lN]at * <;>omega):0<(b.text).length))<|Kj 1 (Int.ofNat (gD b.text 0).toNat) 124 (fun j _=>Mt j<|Mt j<|Mt j<|MV j<|Kv 1 (jq (s:=c++[32]) (u:=[92]) (H:=av i) (by(first|first|assumption|omega|grind):(c++[32]).length+([92]).length<=2^62))<|Kv 3 (jq (s:=c++[32]++[92]) (u:=b.text) (H:=av i) (by(first|first|assumption|omega|grind):(c++[32]++[92]).length+(b.text).length<=2^62))<|Kl 1 31 (dU a)<|K1 0 (.frz 0 [0,7,8,9]) ti<|Mf<|e (a+1) f (c++[32]++[92]++b.text) (et (bH d.1 g)<|by first|exact⟨rfl,hb⟩|(refine⟨by(rw[<-hj0.1,oH];first|rw[ES j]|rw[ER j h2]|rw[EP j h2]),?_⟩;grind))<|fZ g) fun j _=>Kh 0 j<|Kh 0 j<|M1 (.chr<|gD b.text 0) (zh (by first|omega|(simp only[oN,lM,lS]at *;omega)|(simp only[oN,lM,lS,lA,lR,lC,lN]at * <;>omega):0<(b.text).length))<|Mh j<|Kw 0 j<|Mb (ae (Int.ofNat (gD b.text 0).toNat) 92) (fun k=>have:=iR k;Kv 0 (jq (s:=c++[32]) (u:=[92]) (H:=av i) (by(first|first|assumption|omega|grind):(c++[32]).length+([92]).length<=2^62))<|Kv 3 (jq (s:=c++[32]++[92]) (u:=b.text) (H:=av i) (by(first|first|assumption|omega|grind):(c++[32]++[92]).length+(b.text).length<=2^62))<|Kl 1 31 (dU a)<|K1 0 (.frz 0 [0,7,8,9]) ti<|Mf<|e (a+1) f (c++[32]++[92]++b.text) (et (bH d.1 g)<|by first|exact⟨rfl,hb⟩|(refine⟨by(rw[<-hj0.1,oH];first|rw[ES j]|grind[ER]|rw[EP j k]),?_⟩;grind))<|fZ g) fun k=>have:=C8 k;Kv 2 (jq (s:=c++[32]) (u:=b.text) (H:=av i) (by(first|first|assumption|omega|grind):(c++[32]).length+(b.text).length<=2^62))<|Kl 1 31 (dU a)<|K1 0 (.frz 0 [0,7,8,9]) ti<|Mf<|e (a+1) f (c++[32]++b.text) (et (bH d.1 g)<|by first|exact⟨rfl,hb⟩|(refine⟨by(rw[<-hj0.1,oH];first|rw[ES j]|rw[ER j k]|grind[EP]),?_⟩;grind))<|fZ g
theorem sr{u:TUnit}(h:mI u):mI (cL u):=by
  obtain⟨h1,h2⟩:=Mu u
  refine⟨by rw[h1];exact h.1,fun x hx=>?_⟩
  obtain⟨y,hy,rfl⟩:=h2 x hx
  obtain⟨a,b,c,d,e⟩:=h.2 y hy
  rw[mp]
  refine⟨by grind[TUnit.head],by grind[TUnit.words],c,fun w hw=>?_,fun w hw=>?_⟩
  · obtain⟨v,hv,rfl⟩:=jf.1 hw;exact d v hv
  · obtain⟨v,hv,rfl⟩:=jf.1 hw;exact e v hv
theorem CV{u:TUnit}(h:sY u):mI (tL u):=by
  have e:bB (tL u)=[tL u]:=by rw[da];exact congrArg _ gY
  refine⟨by rw[jk];exact bO (we (congrArg (1+ ·) mg)) (by omega),fun x hx=>?_⟩
  rw[e]at hx
  rw[qX.1 hx];exact h
theorem Ds(u:TUnit)(h:mI u):kP 318 [eU u] (eU (cL u)):=
  O4 u (bO h.1 (by omega)) fun x hx=>⟨bO (h.2 x hx).1 (by omega),bO (h.2 x hx).2.1 (by omega)⟩
theorem QX(u:TUnit)(d:Nat)(hd:d<=2^20)(h:sY u):kP 334 [eU u,nV d] (.bool (EZ u d)):=by
  have h1:=Ds (tL u) (CV h)
  have h2:=xT (cL (tL u)) (sr (CV h))
  have hz:=Wm d
  have rr0 b' (h:(EZ u d)=b':=by first|rfl|(unfold EZ;simp only[aS,aw,bS, *];done)):=h;exact bo Tryz.func334<|Kn 13 (aB 8<|Int.ofNat d) (fun a=>Kt 0 (cS a)<|Mp (bX.onArgs (.cons (aO (lc<|lc<|lc<|lc<|lc<|lc<|lc<|.cons bA .nil)<|by kernel_rfl) .nil) h1:kP 318 [az [iV 0,iV 0,iV 0,iV u.kind,aV u.label,aW (u.head.map aQ),aW (u.words.map aQ),ak]] _)<|Mt (cS a)<|Mp h2<|MV (cS a)<|Kf 0<|ct<|rr0<|lZ<|cL<|tL u) fun a=>Mh (cF a)<|Mh (cF a)<|My (cF a)<|Ky 0<|rr0 false
theorem WH(u:TUnit)(d:Nat)(hd:d<=2^20)(h:sY u)(hm:EZ u d=false):kP 320 [eU u,nV d] (.str (gj u d)):=by
  have h1:=QX u d hd h
  rw[hm]at h1
  have e:gj u d=[]:=by unfold gj;simp_all
  rw[e]
  exact bo Tryz.func320<|Kp 3 h1<|Kf 2<|bY<|aV []
def Ng(u:TUnit)(d:Nat)(z18:bZ):Prop:=(z18=bif aw (ae u.kind (0:Int))then Lib.repeatL [(32:UInt8),(32:UInt8)] d++cT u.kind++([(32:UInt8)]++u.label)else Lib.repeatL [(32:UInt8),(32:UInt8)] d++cT u.kind)/\List.length z18<=(40:Nat)
noncomputable def Nf(u:TUnit)(d:Nat)(z18:bZ):List AV×List AObj:=([AV.ptr 0 0 0 0,AV.str z18],[AObj.row 8 false 0 [AV.agg [iV u.act,iV u.item,iV u.n,iV u.kind,AV.str u.label,AV.ls (u.head.map aQ),AV.ls (u.words.map aQ),AV.ls (u.kids.map aq)]]])
def Nc(u:TUnit)(z18:bZ)(z27:bZ):Prop:=(z27=bif aB (0:Int) (Int.ofNat u.head.length)then mb (z18++[(58:UInt8)]) u.head else z18)/\List.length z27<=(6700:Nat)
noncomputable def Nb(u:TUnit)(z18:bZ)(z27:bZ):List AV×List AObj:=([AV.ptr 0 0 0 0,AV.str z27],[AObj.row 8 false 0 [AV.agg [iV u.act,iV u.item,iV u.n,iV u.kind,AV.str u.label,AV.ls (u.head.map aQ),AV.ls (u.words.map aQ),AV.ls (u.kids.map aq)]]])
theorem WG(u:TUnit)(d:Nat)(hd:d<=2^20)(h:sY u)(hm:EZ u d=true):kP 320 [eU u,nV d] (.str (gj u d)):=by
  have h1:=QX u d hd h
  obtain⟨hd8,hlb,⟨hh1,hh2⟩,hw1,hw2⟩:=K6 hm
  have hrl:=Lib.repeatL_length [32,32] d
  simp only[lC,lN]at hrl
  have h2:=Wk [32,32] d (by omega) (by grind)
  have hk:=xX u.kind
  have hkl:=AZ u.kind
  have hp1:∀s:bZ,s.length<=2^14->kP 337 [.str s,.ls (u.head.map aQ)] (.str (mb s u.head)):=fun s hs=>Pe s u.head hh2 (by omega) (by omega)
  have hp2:∀s:bZ,s.length<=2^14->kP 337 [.str s,.ls (u.words.map aQ)] (.str (mb s u.words)):=fun s hs=>Pe s u.words hw2 (by omega) (by omega)
  rw[hm]at h1
  have rr0 b' (h:(gj u d)=b':=by first|rfl|(unfold gj;rw[hm];simp only[aw,cond_false];rw[<-hz18.1,<-hz27.1];first|(rw[h3];rfl)|(rw[h4];rfl)|(rw[h5];rfl)|(rw[h6];rfl)|(rw[h7];rfl))):=h;let q1:=[aZ 8 false 0 [az [iV u.act,iV u.item,iV u.n,iV u.kind,aV u.label,aW (u.head.map aQ),aW (u.words.map aQ),aW (u.kids.map aq)]]];exact bo Tryz.func320<|Kp 3 h1<|Kp 2 h2<|Kp 1 hk<|Mv (jq (s:=Lib.repeatL [32,32] d) (u:=cT u.kind) (H:=AHeap.mk 1000000 Tr.nil) (by(first|first|assumption|((try simp only[lA,lC,lN]);omega)|(simp only[lA,lC,lN]at *;omega)):(Lib.repeatL [32,32] d).length+(cT u.kind).length<=2^62))<|Mg 0<|Mj bZ [2,5] (Nf u d) (Ng u d) (fun a=>Kn 2 (ae u.kind 0) (fun _=>Kv 2 (jq (s:=[32]) (u:=u.label) (H:=av q1) (by(first|first|assumption|((try simp only[lA,lC,lN]);omega)|(simp only[lA,lC,lN]at *;omega)):([32]).length+(u.label).length<=2^62))<|Mv (jq (s:=Lib.repeatL [32,32] d++cT u.kind) (u:=32::u.label) (H:=av q1) (by(first|first|assumption|((try simp only[lA,lC,lN]);omega)|(simp only[lA,lC,lN]at *;omega)):(Lib.repeatL [32,32] d++cT u.kind).length+(32::u.label).length<=2^62))<|Kf 0<|a (Lib.repeatL [32,32] d++cT u.kind++32::u.label) (by(refine⟨by first|simp_all|(rw[h2];rfl)|(rw[h3];rfl)|(rw[h0];rfl),?_⟩;grind):(Lib.repeatL [(32:UInt8),(32:UInt8)] d++cT u.kind++(32:UInt8)::u.label=bif aw (ae u.kind (0:Int))then Lib.repeatL [(32:UInt8),(32:UInt8)] d++cT u.kind++([(32:UInt8)]++u.label)else Lib.repeatL [(32:UInt8),(32:UInt8)] d++cT u.kind)/\(Lib.repeatL [(32:UInt8),(32:UInt8)] d++cT u.kind++(32:UInt8)::u.label).length<=40)) fun _=>Mf<|a (Lib.repeatL [32,32] d++cT u.kind) (by(refine⟨by first|simp_all|(rw[h2];rfl)|(rw[h3];rfl)|(rw[h0];rfl),?_⟩;grind):(Lib.repeatL [(32:UInt8),(32:UInt8)] d++cT u.kind=bif aw (ae u.kind (0:Int))then Lib.repeatL [(32:UInt8),(32:UInt8)] d++cT u.kind++([(32:UInt8)]++u.label)else Lib.repeatL [(32:UInt8),(32:UInt8)] d++cT u.kind)/\(Lib.repeatL [(32:UInt8),(32:UInt8)] d++cT u.kind).length<=40)) fun a hz18=>have hz18:(a=bif aw (ae u.kind (0:Int))then Lib.repeatL [(32:UInt8),(32:UInt8)] d++cT u.kind++([(32:UInt8)]++u.label)else Lib.repeatL [(32:UInt8),(32:UInt8)] d++cT u.kind)/\List.length a<=40:=hz18;Mj bZ [2,5] (Nb u a) (Nc u a) (fun b=>Kl 2 26 (ln aQ u.head)<|Kb 0 (aB 0<|Int.ofNat u.head.length) (fun h3=>Kv 0 (jq (s:=a) (u:=[58]) (H:=av q1) (by(first|first|assumption|((try simp only[lA,lC,lN]);omega)|(simp only[lA,lC,lN]at *;omega)):(a).length+([58]).length<=2^62))<|Kp 1 (hp1 (a++[58])<|by first|assumption|((try simp only[lA,lC,lN]);omega))<|Kf 0<|b (mb (a++[58]) u.head) (by(refine⟨by first|simp_all|(rw[h2];rfl)|(rw[h4];rfl)|(rw[h5];rfl),?_⟩;first|omega|(have q:=vj (fun w hw=>(hh2 w hw).2) (a++[58]);grind)):(mb (a++[(58:UInt8)]) u.head=bif aB (0:Int) (Int.ofNat u.head.length)then mb (a++[(58:UInt8)]) u.head else a)/\List.length (mb (a++[(58:UInt8)]) u.head)<=6700)) fun h3=>Mf<|b a (by(refine⟨by first|simp_all|(rw[h2];rfl)|(rw[h4];rfl)|(rw[h5];rfl),?_⟩;first|omega|(have q:=vj (fun w hw=>(hh2 w hw).2) (a++[58]);simp only[lA,lC,lN]at q;omega)):(a=bif aB (0:Int) (Int.ofNat u.head.length)then mb (a++[(58:UInt8)]) u.head else a)/\List.length a<=6700)) fun b hz27=>have hz27:(b=bif aB (0:Int) (Int.ofNat u.head.length)then mb (a++[(58:UInt8)]) u.head else a)/\List.length b<=6700:=hz27;Kl 2 35 (ln aQ u.words)<|Kb 0 (aB 0<|Int.ofNat u.words.length) (fun h4=>Kv 0 (jq (s:=b) (u:=[32,124]) (H:=av q1) (by(first|first|assumption|((try simp only[lA,lC,lN]);omega)|(simp only[lA,lC,lN]at *;omega)):(b).length+([32,124]).length<=2^62))<|Kp 1 (hp2 (b++[32,124])<|by first|assumption|((try simp only[lA,lC,lN]);omega))<|Kf 2<|Le.str<|rr0<|mb (b++[32,124]) u.words) fun h4=>Kf 1<|Le.str<|rr0 b
abbrev bk5:bZ:=[98,111,111,107]
abbrev sc5:bZ:=[115,101,99,116,105,111,110]
theorem Vx:kP 34 [iV 0] (.tuple [.str [98,111,111,107],.bool true]):=by
  exact wk Tryz.func34 (.go 16 .fin)<|bY<|dg [aV [98,111,111,107],dQ true]
theorem Vz:kP 34 [iV 2] (.tuple [.str [115,101,99,116,105,111,110],.bool true]):=by
  exact wk Tryz.func34 (.go 16 .fin)<|bY<|dg [aV [115,101,99,116,105,111,110],dQ true]
theorem Qv(x:UInt8):kP 36 [.ps [.str [98,111,111,107],.str [115,101,99,116,105,111,110],.str [x]] false,.str [32]] (.str [98,111,111,107,32,115,101,99,116,105,111,110,32,x]):=by
  have h:=Lk [bk5,sc5,[x]] [32] (by show 3<=140737488355328;decide) (by show 14<=140737488355328;decide)
  exact h.onArgs (.cons (Le.ps _ _ rfl) (.cons (Le.refl _) .nil))
theorem HZ(x:UInt8)(hx:ku [⟨0,[]⟩,⟨2,[x]⟩]=true):kP 12 [.ps [.agg [iV 0,.str []],.agg [iV 2,.str [x]]] false] (.str [98,111,111,107,32,115,101,99,116,105,111,110,32,x]):=by
  have hs:∀s:PStep,s∈[⟨0,[]⟩,⟨2,[x]⟩]->s.label.length<=2^39:=fun y hy=>by
    simp only[fk,List.not_mem_nil,or_false]at hy
    rcases hy with rfl|rfl
    · decide
    · show 1<=2^39
      decide
  have h:=(rz [⟨0,[]⟩,⟨2,[x]⟩] (by show 2<2^40;decide) hs).onArgs (args:=[.ps [.agg [iV 0,.str []],.agg [iV 2,.str [x]]] false]) (.cons (Le.ps _ _ rfl) .nil)
  rw[hx]at h
  have hk0:kP 35 [.agg [iV 0,.str []]] (.bool true):=vk ⟨0,[]⟩
  have hk:kP 35 [.agg [iV 2,.str [x]]] (.bool false):=vk ⟨2,[x]⟩
  have hj:=Qv x
  exact bo Tryz.func12<|Kp 1 h<|Mg 5<|M0 (.un 3)<|Kp 7 Vx<|Kp 10 hk0<|Kp 11 Vz<|Kp 10 hk<|K1 12 (.frz 0 [36]) ti<|Mp hj<|Kf 0<|bY<|aV [98,111,111,107,32,115,101,99,116,105,111,110,32,x]
end Go.Proofs.YtdhkhecalpkngaaGreatDoor
